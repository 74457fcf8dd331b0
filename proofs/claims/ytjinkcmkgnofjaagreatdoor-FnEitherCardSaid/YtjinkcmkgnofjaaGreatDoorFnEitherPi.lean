/- Part 9 of what the law FnEither needs. -/
import Derived.Test.YtjinkcmkgnofjaaGreatDoorFnEitherPh
set_option linter.all false
set_option maxRecDepth 100000
set_option maxHeartbeats 8000000
namespace Go.Proofs.YtjinkcmkgnofjaaGreatDoor
open Go.RowKit
def SF.Rw{F K:Int}{W:Q7}(h:SF F K W){g c:Int}{s:KD}(hu:Q6 W.IE g)(c0:0<=c)(c1:c<(W.IF.length:Int))(f0:0<=s.IL)(f1:s.IL<=F)(fk:s.IL<=K)(v0:0<=s.v)(v1:s.v<=K)(w1:1<=s.w)(w2:s.w<=20):SF F K (Rw W g c s):=by
 obtain⟨u0,u1,_⟩:=Q5.1 hu;have hl:=h.w.a.gl;have hs:=h.w.a.sl hu;have hT:=YC (W:=W) (g:=g) (c:=c) (s:=s) u0 u1
 have e:∀k d:Int,Q6 (YtjinkcmkgnofjaaGreatDoor.Rw W g c s).IE k->0<=d->Qb (YtjinkcmkgnofjaaGreatDoor.Rw W g c s) k d=if g=k/\c=d then s else Qb W k d:=λk d uk hd=>by
  rw[hT.cD] at uk;exact XS u0 u1 c0 Qo (Q5.1 uk).1 hd
 refine⟨⟨h.w.a.Rw u0 Qo,λt a b n=>by rw[hT.cD];exact h.w.t t a b n,h.w.tv,λk d uk a b=>?_,h.w.cu⟩,λk d uk a b=>?_⟩
 ·rw[e k d uk a];rw[hT.cD] at uk;split
  ·exact⟨f0,fk,v0,v1,w1,w2⟩
  ·exact h.w.s k d uk a b
 ·rw[e k d uk a];rw[hT.cD] at uk;split
  ·exact f1
  ·exact h.f k d uk a b
def SC(W:Q7)(k c:Int):KD:=
 { Qb W k c with
  v:=if (QJ W k c && !Jm W k c)=true/\(Qb W k c).on=false then (Qb W (gi W.IE k).IG c).IL+Y6 ((Qb W k c).v-(Qb W (gi W.IE k).IG c).IL) (Qb W k c).w else (Qb W k c).v
  on:=QJ W k c && !Jm W k c }
def Z4(W:Q7)(c d:Int):Nat->Q7
 |0=>W
 |k+1=>if (gi (Z4 W c d k).IE (k:Int)).IW=true/\dep 3 (Z4 W c d k).IE (k:Int)=d then Rw (Z4 W c d k) (k:Int) c (SC (Z4 W c d k) (k:Int) c) else Z4 W c d k
def zux{W:Q7}{c d:Int}(h:d≠0):Z4 W c d 1=W:=by
 show (if (gi W.IE ((0:Nat):Int)).IW=true/\dep 3 W.IE ((0:Nat):Int)=d then _ else W)=W;refine B' λhc=>h ?_
 have:=hc.2;rw[show (((0:Nat):Int))=0 from rfl,ZS] at this;exact this.symm
def ZP(W:Q7)(c:Int):Nat->Q7
 |0=>W
 |j+1=>Z4 (ZP W c j) c (3-(j:Int)) 8
def Qw(W:Q7)(c:Int):Q7:=ZP W c 3
abbrev Qi:Int:=34686091440
def zyh{F K:Int}{W:Q7}(h:SF F K W)(hk:F+Qi<=K){k c d:Int}(hu:Q6 W.IE k)(hd:dep 3 W.IE k=d)(d1:1<=d)(c0:0<=c)(c1:c<(W.IF.length:Int)):SF F K (Rw W k c (SC W k c)):=by
 have hz:k≠0:=λe=>by subst e;rw[ZS] at hd;omega
 have hp:=h.w.a.up hu hz;have s1:=h.w.s k c hu c0 c1;have s2:=h.w.s _ c hp c0 c1;have f1:=h.f k c hu c0 c1;have f2:=h.f _ c hp c0 c1;have lc:=ZB ((Qb W k c).v-(Qb W (gi W.IE k).IG c).IL) (Qb W k c).w;have lm:=ZH (Qb W k c).w;refine h.Rw hu c0 c1 s1.1 f1 (by show (Qb W k c).IL<=K;omega) ?_ ?_ s1.2.2.2.2.1 s1.2.2.2.2.2
 ·simp only[SC];split <;> omega
 ·simp only[SC];simp only[Qi] at hk;split <;> omega
structure XU (W W':Q7):Prop where
 n:W'.now=W.now
 c:W'.IF=W.IF
 t:W'.IJ=W.IJ
 g:QZ W.IE W'.IE
 b:∀i:Int,0<=i->(gi W'.IE i).IM=(gi W.IE i).IM
 l:∀i:Int,0<=i->(gi W'.IE i).IH.length=(gi W.IE i).IH.length
def XU.refl(W:Q7):XU W W:=⟨rfl,rfl,rfl,QZ.refl _,λ_ _=>rfl,λ_ _=>rfl⟩
def XU.trans{A B C:Q7}(h:XU A B)(k:XU B C):XU A C:=⟨k.n.trans h.n,k.c.trans h.c,k.t.trans h.t,h.g.trans k.g,λi hi=>(k.b i hi).trans (h.b i hi),λi hi=>(k.l i hi).trans (h.l i hi)⟩
def UO{W:Q7}{g c:Int}{s:KD}(h0:0<=g)(h1:g<(W.IE.length:Int)):XU W (Rw W g c s):=⟨rfl,rfl,rfl,YC h0 h1,λ_ hi=>ziq h0 h1 hi,λ_ hi=>zju h0 h1 hi⟩
def FN{F K:Int}{W:Q7}(h:SF F K W)(hk:F+Qi<=K){c d:Int}(d1:1<=d)(c0:0<=c)(c1:c<(W.IF.length:Int)):∀k:Nat,k<=8->SF F K (Z4 W c d k)/\XU W (Z4 W c d k)
 |0,_=>⟨h,XU.refl _⟩
 |k+1,hk8=>by
  obtain⟨ih,io⟩:=FN h hk (d:=d) d1 c0 c1 k Qo;have hl:=ih.w.a.gl;simp only[Z4];split
  ·rename_i hc;have hu:Q6 (Z4 W c d k).IE (k:Int):=Q5.2 ⟨Qo,Qo,hc.1⟩;exact⟨zyh ih hk hu hc.2 d1 c0 (by rw[io.c];exact c1),io.trans (UO Qo Qo)⟩
  ·exact⟨ih,io⟩
def HM{F K:Int}{W:Q7}(h:SF F K W)(hk:F+Qi<=K){c:Int}(c0:0<=c)(c1:c<(W.IF.length:Int)):∀j:Nat,j<=3->SF F K (ZP W c j)/\XU W (ZP W c j)
 |0,_=>⟨h,XU.refl _⟩
 |j+1,hj=>by
  obtain⟨a1,b1⟩:=HM h hk c0 c1 j Qo;obtain⟨a2,b2⟩:=FN a1 hk (c:=c) (d:=3-(j:Int)) Qo c0 (by rw[b1.c];exact c1) 8 Qo;exact⟨a2,b1.trans b2⟩
def KX{F K:Int}{W:Q7}(h:SF F K W)(hk:F+Qi<=K){c:Int}(c0:0<=c)(c1:c<(W.IF.length:Int)):SF F K (Qw W c)/\XU W (Qw W c):=HM h hk c0 c1 3 (I7 _)
def Zr(W:Q7):Nat->Q7
 |0=>W
 |c+1=>Qw (Zr W c) (c:Int)
def VY{F K:Int}{W:Q7}(h:SF F K W)(hk:F+Qi<=K):∀c:Nat,c<=W.IF.length->SF F K (Zr W c)/\XU W (Zr W c)
 |0,_=>⟨h,XU.refl _⟩
 |c+1,hc=>by
  obtain⟨a,b⟩:=VY h hk c Qo;obtain⟨a2,b2⟩:=KX a hk (c:=(c:Int)) Qo (by rw[b.c];omega);exact⟨a2,b.trans b2⟩
def YH(b:Ue)(c:Int):Ue:={ b with RU:=b.RU+gi b.locals c,locals:=b.locals.set c.toNat 0,RE:=if b.RU+gi b.locals c>0 then List.replicate b.RE.length false else b.RE }
def Be(l:List Int)(c:Int)(x:Int)(c0:0<=c)(c1:c<(l.length:Int)):∀k:Nat,Vi (l.set c.toNat x) k=Vi l k+if c<(k:Int) then x-gi l c else 0
 |0=>by simp only[Vi];rw[B' Qo];omega
 |k+1=>by
  simp only[Vi];rw[Be l c x c0 c1 k,QE _ _ c0 c1 Qo]
  by_cases e:c=(k:Int)
  ·subst e;rw[B' Qo,C' rfl,C' Qo];omega
  ·rw[B' e]
   by_cases h:c<(k:Int)
   ·rw[C' h,C' Qo];omega
   ·rw[B' h,B' Qo];omega
def zmk{l:List Int}(h:∀c:Int,0<=c->c<(l.length:Int)->0<=gi l c){c:Int}(c0:0<=c):∀k:Nat,k<=l.length->0<=Vi l k/\(c<(k:Int)->gi l c<=Vi l k)
 |0,_=>by simp only[Vi];exact⟨Qo,λh=>by omega⟩
 |k+1,hk=>by
  have ih:=zmk h c0 k Qo;have:=h (k:Int) Qo Qo;simp only[Vi];refine⟨Qo,λhc=>?_⟩
  by_cases e:c=(k:Int)
  ·subst e;omega
  ·have:=ih.2 Qo;omega
def Mj{α:Type}[Inhabited α](n:Nat)(x:α){i:Int}(h0:0<=i)(h1:i<(n:Int)):gi (List.replicate n x) i=x:=by
 obtain⟨k,rfl⟩:=Int.eq_ofNat_of_zero_le h0;rw[Jq (by simp;omega)];simp
def zxr{b:Ue}(h:OY b){c:Int}(c0:0<=c)(c1:c<(b.locals.length:Int))(hp:0<gi b.locals c):OY (YH b c)/\(YH b c).locals.length=b.locals.length/\(YH b c).I'=b.I':=by
 have hs:=Be b.locals c 0 c0 c1 b.locals.length;rw[C' c1] at hs;have hn:=zmk (λd d0 d1=>(h.each d d0 d1).1) c0 b.locals.length (I7 _);have hn2:=hn.2 c1;have p1:=h.p1;have s1:=h.s1;have su:=h.sum;have B20:b.RU+gi b.locals c>0:=Qo;refine⟨⟨h.q1,h.q2,?_,?_,?_,?_,?_,h.s1,h.s2,λd d0 d1=>?_,?_⟩,by simp[YH],rfl⟩
 ·simp only[YH,E'];exact h.l1
 ·simp only[YH,E'];exact h.l2
 ·simp only[YH];rw[C' B20];simp[h.dl]
 ·simp only[YH];omega
 ·simp only[YH];omega
 ·simp only[YH,E'] at d1 ⊢;have hd:=h.dl;have he:=h.each d d0 d1;rw[C' B20,Mj _ _ d0 Qo,QE _ _ c0 c1 d0];have:=h.q1;refine⟨?_,?_,λh=>by cases h⟩
  ·split <;> omega
  ·split <;> omega
 ·simp only[YH,E'];rw[hs];omega
def Y5(W:Q7)(k:Int):Nat->Q7
 |0=>W
 |c+1=>if gi (gi (Y5 W k c).IE k).IM.locals (c:Int)>0/\QJ (Y5 W k c) k (c:Int)=false then RZ (Y5 W k c) k (YH (gi (Y5 W k c).IE k).IM (c:Int)) else Y5 W k c
def Y8(W:Q7):Nat->Q7
 |0=>W
 |k+1=>if (gi (Y8 W k).IE (k:Int)).IW=true/\(gi (Y8 W k).IE (k:Int)).IM.I'≠0 then Y5 (Y8 W k) (k:Int) (Y8 W k).IF.length else Y8 W k
def Mk(W:Q7):Q7:=Y8 W 8
structure V6 (W W':Q7):Prop where
 n:W'.now=W.now
 c:W'.IF=W.IF
 t:W'.IJ=W.IJ
 g:QZ W.IE W'.IE
 s:∀i:Int,0<=i->(gi W'.IE i).IH=(gi W.IE i).IH
def V6.refl(W:Q7):V6 W W:=⟨rfl,rfl,rfl,QZ.refl _,λ_ _=>rfl⟩
def V6.trans{A B C:Q7}(h:V6 A B)(k:V6 B C):V6 A C:=⟨k.n.trans h.n,k.c.trans h.c,k.t.trans h.t,h.g.trans k.g,λi hi=>(k.s i hi).trans (h.s i hi)⟩
def HP{W:Q7}{g:Int}{b:Ue}(h0:0<=g)(h1:g<(W.IE.length:Int)):V6 W (RZ W g b):=⟨rfl,rfl,rfl,XT h0 h1 rfl rfl rfl,λi hi=>by
 unfold RZ;rw[Yt h0 h1 hi];split
 ·rename_i e;subst e;rfl
 ·rfl⟩
def SF.BM3{F K:Int}{W W':Q7}(h:SF F K W)(ho:V6 W W')(ha:WA W'):SF F K W':=by
 have e:∀k c:Int,Q6 W'.IE k->Qb W' k c=Qb W k c:=λk c hu=>by unfold Qb;rw[ho.s k (Q5.1 hu).1]
 have et:∀t:Int,Q8 W' t=Q8 W t:=λt=>by unfold Q8;rw[ho.t]
 refine⟨⟨ha,λt a b n=>?_,λt a b=>by rw[et];exact h.w.tv t a b,λk c u a b=>?_,λc a b=>?_⟩,λk c u a b=>?_⟩
 ·rw[et] at n ⊢;rw[ho.g.cD,ho.c];exact h.w.t t a b n
 ·rw[e k c u];rw[ho.g.cD] at u;rw[ho.c] at b;exact h.w.s k c u a b
 ·rw[ho.c] at b ⊢;exact h.w.cu c a b
 ·rw[e k c u];rw[ho.g.cD] at u;rw[ho.c] at b;exact h.f k c u a b
def WA.RZ{W:Q7}(ha:WA W){g:Int}{b:Ue}(hu:Q6 W.IE g)(hq:(gi W.IE g).IM.I'≠0)(hb:OY b)(hl:b.locals.length=W.IF.length)(he:b.I'=(gi W.IE g).IM.I'):WA (RZ W g b):=by
 obtain⟨u0,u1,hg⟩:=ha.u hu;have hb0:=hg.IM hq;refine ha.set u0 u1 rfl rfl rfl (λhn=>?_) λ_=>⟨hg.w1,hg.w2,hg.m,hg.m0,hg.s,hg.len,λh=>⟨(hg.root h).1,(hg.root h).2.1,by show b.I'=0;rw[he];exact(hg.root h).2.2⟩,λh=>Ir (he.symm.trans h) hq,λ_=>⟨hb,hl,hb0.2.2⟩⟩
 have:(gi W.IE g).IW=false:=hn;rw[(Q5.1 hu).2.2] at this;cases this
def H3{F K:Int}{W:Q7}(h:SF F K W){k:Int}(hu:Q6 W.IE k)(hq:(gi W.IE k).IM.I'≠0):∀c:Nat,c<=W.IF.length->SF F K (Y5 W k c)/\V6 W (Y5 W k c)/\(gi (Y5 W k c).IE k).IM.I'≠0
 |0,_=>⟨h,V6.refl _,hq⟩
 |c+1,hc=>by
  obtain⟨a,b,q⟩:=H3 h hu hq c Qo;simp only[Y5];split
  ·rename_i Ac2;have hu':Q6 (Y5 W k c).IE k:=by rw[b.g.cD];exact hu
   obtain⟨u0,u1,hg⟩:=a.w.a.u hu';have hb:=hg.IM q;have hl:=a.w.a.gl;have hcl:(Y5 W k c).IF.length=W.IF.length:=by rw[b.c]
   obtain⟨g1,g2,g3⟩:=zxr hb.1 (c:=(c:Int)) Qo Qo Ac2.1;have ho:=HP (W:=Y5 W k c) (b:=YH (gi (Y5 W k c).IE k).IM (c:Int)) u0 Qo;refine⟨a.BM3 ho (a.w.a.RZ hu' q g1 (by rw[g2,hb.2.1]) g3),b.trans ho,?_⟩;show (gi (R1 _ k _).IE k).IM.I'≠0;rw[Yt u0 Qo u0,C' rfl];exact λe=>q (by rw[<-g3];exact e)
  ·exact⟨a,b,q⟩
def Vd{F K:Int}{W:Q7}(h:SF F K W):∀k:Nat,k<=8->SF F K (Y8 W k)/\V6 W (Y8 W k)
 |0,_=>⟨h,V6.refl _⟩
 |k+1,hk=>by
  obtain⟨a,b⟩:=Vd h k Qo;simp only[Y8];split
  ·rename_i hc;have hl:=a.w.a.gl;obtain⟨a2,b2,_⟩:=H3 a (k:=(k:Int)) (Q5.2 ⟨Qo,Qo,hc.1⟩) hc.2 _ (I7 _);exact⟨a2,b.trans b2⟩
  ·exact⟨a,b⟩
def Kn(W:Q7)(k c:Int):KD:={ Qb W k c with IL:=S3 W k c 20 }
def QD(W:Q7)(c:Int):Nat->Q7
 |0=>W
 |k+1=>if (gi (QD W c k).IE (k:Int)).IW=true/\Sw (QD W c k) (k:Int) c 20/\S3 (QD W c k) (k:Int) c 20>(Qb (QD W c k) (k:Int) c).IL then Rw (QD W c k) (k:Int) c (Kn (QD W c k) (k:Int) c) else QD W c k
def Z3(W:Q7)(c:Int):Q7:=QD W c 8
def zce{K:Int}{W:Q7}(h:SW K W){k c:Int}(c0:0<=c)(c1:c<(W.IF.length:Int))(hK:0<=K):0<=S3 W k c 20/\S3 W k c 20<=K:=by
 unfold S3;split
 ·omega
 ·rename_i hn;have hl:=h.a.gl;rcases Zl (Sf W k c) (S9 W c) 20 with h1|h1
  ·omega
  ·obtain⟨j,hj⟩:∃j:Nat,QY (Sf W k c) (S9 W c) 20=(j:Int):=⟨(QY (Sf W k c) (S9 W c) 20).toNat,Qo⟩;rw[hj,Ig] at h1 ⊢;have hp:=h1.2.2.1;unfold S9
   by_cases h12:j<12
   ·rw[C' h12];exact h.tv (j:Int) Qo Qo
   ·rw[B' h12];unfold Sf at hp;rw[B' h12] at hp;unfold WV at hp;simp only[A'] at hp;have hu:Q6 W.IE ((j-12:Nat):Int):=Q5.2 ⟨Qo,Qo,hp.1.2.1⟩;have:=h.s _ c hu c0 c1;omega
def Oj{K:Int}{W:Q7}(h:SW K W)(hK:0<=K){c:Int}(c0:0<=c)(c1:c<(W.IF.length:Int)):∀k:Nat,k<=8->SW K (QD W c k)/\XU W (QD W c k)
 |0,_=>⟨h,XU.refl _⟩
 |k+1,hk=>by
  obtain⟨a,b⟩:=Oj h hK c0 c1 k Qo;have hl:=a.a.gl;have yZ:c<((QD W c k).IF.length:Int):=by rw[b.c];exact c1
  simp only[QD];split
  ·rename_i hc;have hu:Q6 (QD W c k).IE (k:Int):=Q5.2 ⟨Qo,Qo,hc.1⟩;have s1:=a.s _ c hu c0 yZ;have br:=zce a (k:=(k:Int)) c0 yZ hK;exact⟨(a.sf.Rw (s:=Kn (QD W c k) (k:Int) c) hu c0 yZ br.1 br.2 br.2 s1.2.2.1 s1.2.2.2.1 s1.2.2.2.2.1 s1.2.2.2.2.2).w,b.trans (UO Qo Qo)⟩
  ·exact⟨a,b⟩
def Xv(x:PZ):PZ:={ x with cur := -1,Wh:=0 }
def Rb(W:Q7)(c:Int):Q7:=RM W c (Xv (gi W.IF c))
def ztq{cs vD:List PZ}:∀k:Nat,(∀j:Nat,j<k->(gi vD (j:Int)).up=(gi cs (j:Int)).up)->Vj vD k=Vj cs k
 |0,_=>rfl
 |k+1,h=>by simp only[Vj];rw[ztq k λj hj=>h j Qo,h k Qo]
def zmq{cs vD:List PZ}(hl:vD.length=cs.length)(h:∀j:Nat,j<cs.length->(gi vD (j:Int)).up=(gi cs (j:Int)).up):JC vD=JC cs:=by
 unfold JC;rw[hl];exact ztq _ h
def WA.cp{W:Q7}(ha:WA W){cs:List PZ}(hl:cs.length=W.IF.length)(hu:JC cs≠0):WA { W with IF:=cs }:=
 ⟨ha.n1,ha.n2,by show 1<=cs.length;rw[hl];exact ha.c1,by show cs.length<=4;rw[hl];exact ha.c2,ha.t,ha.tree,hu,λk a b=>by
  have:=ha.grp k a b;refine⟨this.1,λhu=>?_⟩;have hg:=this.2 hu
  exact⟨hg.w1,hg.w2,hg.m,hg.m0,hg.s,by show (gi W.IE k).IH.length=cs.length;rw[hl];exact hg.len,hg.root,hg.none,λq=>by
   have:=hg.IM q;exact⟨this.1,by show (gi W.IE k).IM.locals.length=cs.length;rw[hl];exact this.2.1,this.2.2⟩⟩⟩
def SW.Rb{K:Int}{W:Q7}(h:SW K W){c:Int}(c0:0<=c)(c1:c<(W.IF.length:Int)):SW K (Rb W c):=by
 have hl:(W.IF.set c.toNat (Xv (gi W.IF c))).length=W.IF.length:=E';have hg:∀d:Int,0<=d->gi (W.IF.set c.toNat (Xv (gi W.IF c))) d=if c=d then Xv (gi W.IF c) else gi W.IF d:=λd d0=>QE _ _ c0 c1 d0
 refine⟨h.a.cp hl ?_,λt a b n=>?_,h.tv,λk d u a b=>?_,λd a b=>?_⟩
 ·rw[zmq hl λj hj=>?_]
  ·exact h.a.ups
  ·rw[hg _ Qo];split
   ·rename_i e;rw[e];rfl
   ·rfl
 ·show _/\_/\_<(((W.IF.set c.toNat (Xv (gi W.IF c))).length:Nat):Int);rw[hl];exact h.t t a b n
 ·have b:d<(((W.IF.set c.toNat (Xv (gi W.IF c))).length:Nat):Int):=b;rw[hl] at b;exact h.s k d u a b
 ·have b:d<(((W.IF.set c.toNat (Xv (gi W.IF c))).length:Nat):Int):=b;rw[hl] at b;show _<=(gi (W.IF.set c.toNat (Xv (gi W.IF c))) d).cur/\_;rw[show (gi (YtjinkcmkgnofjaaGreatDoor.Rb W c).IF d).cur=(gi (W.IF.set c.toNat (Xv (gi W.IF c))) d).cur from rfl,hg _ a];split
  ·exact⟨I2 _,show (-1:Int)<12 by decide⟩
  ·exact h.cu d a b
def Tz(W:Q7)(c:Int):Bool:=decide ((gi W.IF c).cur>=0)&&(((Q8 W (gi W.IF c).cur).R2 != c) || !Zq W (gi W.IF c).cur)
def Xc(W:Q7)(c:Int):Q7:=if Tz (Z3 (Qw W c) c) c=true then Rb (Z3 (Qw W c) c) c else Z3 (Qw W c) c
def Xb(W:Q7):Nat->Q7
 |0=>W
 |c+1=>Xc (Xb W c) (c:Int)
def Qf(W:Q7):Q7:=Xb (Mk (Zr W W.IF.length)) W.IF.length
structure Fr (W W':Q7):Prop where
 n:W'.now=W.now
 c:W'.IF.length=W.IF.length
 t:W'.IJ=W.IJ
 g:QZ W.IE W'.IE
def Fr.refl(W:Q7):Fr W W:=⟨rfl,rfl,rfl,QZ.refl _⟩
def Fr.trans{A B C:Q7}(h:Fr A B)(k:Fr B C):Fr A C:=⟨k.n.trans h.n,k.c.trans h.c,k.t.trans h.t,h.g.trans k.g⟩
def XU.fr{W W':Q7}(h:XU W W'):Fr W W':=⟨h.n,by rw[h.c],h.t,h.g⟩
def V6.fr{W W':Q7}(h:V6 W W'):Fr W W':=⟨h.n,by rw[h.c],h.t,h.g⟩
def Nf(W:Q7)(c:Int):Fr W (Rb W c):=⟨rfl,E',rfl,QZ.refl _⟩
def zo6{K:Int}{W:Q7}(h:SW K W)(hK:0<=K){c:Int}(c0:0<=c)(c1:c<(W.IF.length:Int)):SW (K+Qi) (Xc W c)/\Fr W (Xc W c):=by
 obtain⟨a1,b1⟩:=KX (F:=K) (K:=K+Qi) (h.sf.mono (I2 _) (by simp only[Qi];omega)) (I2 _) c0 c1;obtain⟨a2,b2⟩:=Oj a1.w (by simp only[Qi];omega) c0 (c:=c) (by rw[b1.c];exact c1) 8 Qo;have hf:=b1.fr.trans b2.fr;unfold Xc;split
 ·exact⟨SW.Rb a2 c0 (by show c<((QD (Qw W c) c 8).IF.length:Int);rw[hf.c];exact c1),hf.trans (Nf _ _)⟩
 ·exact⟨a2,hf⟩
def Lf{K:Int}{W:Q7}(h:SW K W)(hK:0<=K):∀c:Nat,c<=W.IF.length->SW (K+(c:Int)*Qi) (Xb W c)/\Fr W (Xb W c)
 |0,_=>⟨h.mono Qs,Fr.refl _⟩
 |c+1,hc=>by
  obtain⟨a,b⟩:=Lf h hK c Qo;obtain⟨a2,b2⟩:=zo6 a (by simp only[Qi];omega) (c:=(c:Int)) Qo (by rw[b.c];omega);exact⟨a2.mono (by simp only[Qi];omega),b.trans b2⟩
abbrev UQ:Int:=5*Qi
def ON{K:Int}{W:Q7}(h:SW K W)(hK:0<=K):SW (K+UQ) (Qf W)/\Fr W (Qf W):=by
 obtain⟨a1,b1⟩:=VY (F:=K) (K:=K+Qi) (h.sf.mono (I2 _) (by simp only[Qi];omega)) (I2 _) W.IF.length (I7 _);obtain⟨a2,b2⟩:=Vd a1 8 Qo;have hf:=b1.fr.trans b2.fr;obtain⟨a3,b3⟩:=Lf a2.w (by simp only[Qi];omega) W.IF.length (by show W.IF.length<=(Y8 (Zr W W.IF.length) 8).IF.length;rw[hf.c];exact I7 _);have:=h.a.c2;exact⟨a3.mono (by simp only[Qi,UQ];omega),hf.trans b3⟩
abbrev Qn:Int:=50000000000000000
structure G7 (W:Q7):Prop where
 n:W.now<=Qn
 c:∀c:Int,0<=c->c<(W.IF.length:Int)->(gi W.IF c).busy<=Qn/\(gi W.IF c).idle<=Qn
 t:∀t:Int,0<=t->t<(W.IJ.length:Int)->(gi W.IJ t).v<=Qn/\(gi W.IJ t).sum<=Qn/\(gi W.IJ t).IW<=Qn
 g:∀k:Int,0<=k->k<(W.IE.length:Int)->(gi W.IE k).sum<=Qn
 s:∀k c:Int,0<=k->k<(W.IE.length:Int)->0<=c->c<((gi W.IE k).IH.length:Int)->(Qb W k c).IL<=Qn/\(Qb W k c).v<=Qn/\(Qb W k c).sum<=Qn
noncomputable def QO(W:Q7):Bool:=Ju (G7 W)
def MK{W:Q7}(wp:XV W)(r:G7 W):SW Qn W:=by
 have ht:=wp.a.t;have hg:=wp.a.gl;refine⟨wp.a,λt t0 t1 n=>?_,λt t0 t1=>?_,λk c u c0 c1=>?_,λc c0 c1=>?_⟩
 ·rcases wp.t t t0 t1 with h|h
  ·exact Ir h.1 n
  ·exact⟨h.2.g,GS wp.a h.2.c⟩
 ·refine⟨?_,(r.t t t0 Qo).1⟩;rcases wp.t t t0 t1 with h|h
  ·rw[h.2];exact I2 _
  ·exact(Xg.1 h.2.v).1
 ·obtain⟨u0,u1,_⟩:=Q5.1 u;have hl:=wp.a.sl u;have hs:=wp.s k c u0 Qo c0 Qo;have hr:=r.s k c u0 u1 c0 Qo;exact⟨(Xg.1 hs.f).1,hr.1,(Xg.1 hs.v).1,hr.2.1,hs.w1,hs.w2⟩
 ·have hc:=wp.c c c0 c1;have h1:=hc.c1;have h2:=hc.c2;omega
def WA.tk{W:Q7}(ha:WA W){ts:List MQ}(hl:ts.length=W.IJ.length):WA { W with IJ:=ts }:=
 ⟨ha.n1,ha.n2,ha.c1,ha.c2,by show ts.length=12;rw[hl];exact ha.t,ha.tree,ha.ups,λk a b=>by
  have:=ha.grp k a b;refine⟨this.1,λhu=>?_⟩;have hg:=this.2 hu;exact⟨hg.w1,hg.w2,hg.m,hg.m0,hg.s,hg.len,hg.root,hg.none,hg.IM⟩⟩
def SW.J'{K:Int}{W:Q7}(h:SW K W){t:Int}(t0:0<=t)(t1:t<12){x:MQ}(hx:x.state≠0->Q6 W.IE x.II/\0<=x.R2/\x.R2<(W.IF.length:Int))(v0:0<=x.v)(v1:x.v<=K):SW K (J' W t x):=by
 have hl:=h.a.t;have e:∀i:Int,0<=i->Q8 (YtjinkcmkgnofjaaGreatDoor.J' W t x) i=if t=i then x else Q8 W i:=λi i0=>QE _ _ t0 Qo i0
 refine⟨h.a.tk E',λi a b n=>?_,λi a b=>?_,h.s,h.cu⟩
 ·rw[e i a] at n ⊢;split
  ·rename_i he;rw[C' he] at n;exact hx n
  ·rename_i he;rw[B' he] at n;exact h.t i a b n
 ·rw[e i a];split
  ·exact⟨v0,v1⟩
  ·exact h.tv i a b
def Ll:Q7:=⟨0,[],[],[]⟩
def z0d:MW:=⟨none,0,none,0,none,0,λ_=>⟨none,0,none,0,none,0⟩⟩
noncomputable def Y7(W:Q7)(bar:Int)(W':Q7):Q7×Int:=if Qp W=false then (Ll,1) else if bar≠0 then (W,bar) else (W',0)
def zr3{W W':Q7}{bar:Int}(h:Qp W=false):Y7 W bar W'=(Ll,1):=C' h
def zav{W W':Q7}{bar:Int}(h:Qp W)(hb:bar≠0):Y7 W bar W'=(W,bar):=by unfold Y7;rw[B' (by rw[h];decide),C' hb]
def zkj{W W':Q7}{bar:Int}(h:Qp W)(hb:bar=0):Y7 W bar W'=(W',0):=by unfold Y7;rw[B' (by rw[h];decide),B' (by simpa using hb)]
def Yd(W:Q7)(t:Int):Bool:=YT t 0 ((W.IJ.length:Int)-1)&&((Q8 W t).state != 0)
def ZY{W:Q7}{t:Int}(h:Yd W t):0<=t/\t<(W.IJ.length:Int)/\(Q8 W t).state≠0:=by
 unfold Yd at h;simp only[A',It,ne_eq] at h;have:=Qv.1 h.1;exact⟨Qo,Qo,h.2⟩
noncomputable def VB(W:Q7)(t:Int):Int:=if Yd W t=false then 2 else if (Q8 W t).state≠1 then 6 else if QO W=false then 10 else 0
def zcf(W:Q7)(t:Int):Q7:=Qf (J' W t { Q8 W t with state:=2 })
def zcg{W:Q7}{t:Int}(hW:Qp W)(hb:VB W t=0):Yd W t/\(Q8 W t).state=1/\SW Qn W/\SW Qn (J' W t { Q8 W t with state:=2 }):=by
 have wp:=Qm.1 hW;unfold VB at hb
 split at hb
 ·cases hb
 ·rename_i h1
  split at hb
  ·cases hb
  ·rename_i h2
   split at hb
   ·cases hb
   ·rename_i h3;have h1:Yd W t:=by simpa using h1
    have h2:(Q8 W t).state=1:=by simpa using h2
    have h3:QO W:=by simpa using h3
    have sw:=MK wp (Qm.1 h3);obtain⟨t0,t1,n⟩:=ZY h1;have hl:=wp.a.t;have hv:=sw.tv t t0 Qo;exact⟨h1,h2,sw,sw.J' t0 Qo (λ_=>sw.t t t0 Qo n) hv.1 hv.2⟩
def Uy.same{α:Type}{enc:α->List Va}{z:Nat}{ty:TypeId}{base:Nat}{w:Wo}{o:OA}{cap:Nat}{l l':List α}(h:Uy enc z ty base w o cap l)(he:l'.flatMap enc=l.flatMap enc)(hl:l'.length=l.length):Uy enc z ty base w o cap l':=by
 rcases h with ⟨h1,rfl,h3⟩|⟨b,sp,rfl,h1,h2,h3,h4⟩
 ·exact .inl ⟨h1,List.eq_nil_of_length_eq_zero hl,h3⟩
 ·exact .inr ⟨b,sp,rfl,h1,by rw[he];exact h2,by rw[he];exact h3,Qo⟩
def DA{α:Type}{enc:α->List Va}:∀(l:List α) (i:Nat) (x:α),(∀y,l[i]? = some y->enc x=enc y)->(l.set i x).flatMap enc=l.flatMap enc
 |[],_,_,_=>rfl
 |y::r,0,x,h=>by simp only[List.set_cons_zero,List.flatMap_cons];rw[h y rfl]
 |y::r,i+1,x,h=>by
  simp only[List.set_cons_succ,List.flatMap_cons];rw[DA r i x λz hz=>h z (by simpa using hz)]
def z34{α:Type}[Inhabited α]{l:List α}{i:Int}(h0:0<=i)(hi:i<(l.length:Int)):l[i.toNat]? = some (gi l i):=by
 obtain⟨k,rfl⟩:=Int.eq_ofNat_of_zero_le h0;rw[Ig];exact z09 Qo
section
variable {base:Nat}{w w':Wo}{o:OA}{cap:Nat}{ps:List (Zb×MG)}
def Lo.Be6{α:Type}{enc:α->List Va}{z:Nat}{ty:TypeId}{bA y':Nat}{o':OA}{l:List α}(h:Lo base w o cap ps)(h':Uy enc z ty bA w o' y' l)(n1:QX≠ty)(n2:Qc≠ty)(n3:Zw≠ty)(n4:ZI≠ty)(hx:Q0 (QL o') w w'):Lo base w' o cap ps:=
 ⟨h.row.ext hx (h.row.Wl h' n1),λi a b=>(h.each i a b).ext hx λx hm=>by
  simp only[Qu,Im] at hm;rcases hm with (hm|hm)|hm
  ·exact(h.each i a b).loc.Wl h' n2 x hm
  ·exact(h.each i a b).RE.Wl h' n3 x hm
  ·exact(h.each i a b).shl.Wl h' n4 x hm,h.dj⟩
def Lo.Rx(h:Lo base w o cap ps){i:Int}(h0:0<=i)(hi:i<(ps.length:Int)){p:Zb×MG}(hp:PF base w p)(hd:∀j:Int,0<=j->j<(ps.length:Int)->i≠j->∀b∈Qu (gi ps j).2,b∉Qu p.2){j:Nat}{vs:List Va}(he:Oi p=(Oi (gi ps i)).take j++vs++(Oi (gi ps i)).drop (j+vs.length))(hj:j+vs.length<=14):Lo base (YtjinkcmkgnofjaaGreatDoor.Rx w o (Int.toNat i*14+j) vs) o cap (ps.set i.toNat p):=by
 have hx:=h.row.zS (Int.toNat i*14+j) vs;have hlen:(ps.set i.toNat p).length=ps.length:=E';refine⟨h.row.Rx Yw.len h0 hi he hj,λk hk vE=>?_,λa k ha hal hk vE hak b hb jR=>?_⟩
 ·rw[hlen] at vE;rw[QE _ _ h0 hi hk];split
  ·exact hp.ext hx (Jr h.row hp)
  ·exact(h.each k hk vE).ext hx (Jr h.row (h.each k hk vE))
 ·rw[hlen] at hal vE;rw[QE _ _ h0 hi ha] at hb;rw[QE _ _ h0 hi hk] at jR
  by_cases e1:i=a
  ·rw[C' e1] at hb
   by_cases e2:i=k
   ·omega
   ·rw[B' e2] at jR;exact hd k hk vE e2 b jR hb
  ·rw[B' e1] at hb
   by_cases e2:i=k
   ·rw[C' e2] at jR;exact hd a ha hal e1 b hb jR
   ·rw[B' e2] at jR;exact h.dj a k ha hal hk vE hak b hb jR
def Lo.in(h:Lo base w o cap ps){i:Int}(h0:0<=i)(hi:i<(ps.length:Int)){p:Zb×MG}{bs:List Nat}(hx:Q0 bs w w')(hb:∀x∈bs,x∈Qu (gi ps i).2)(hp:PF base w' p)(hm:p.2=(gi ps i).2)(he:Oi p=Oi (gi ps i)):Lo base w' o cap (ps.set i.toNat p):=by
 have hlen:(ps.set i.toNat p).length=ps.length:=E';refine⟨?_,λk hk vE=>?_,λa k ha hal hk vE hak b dG jR=>?_⟩
 ·refine(h.row.ext hx λb dG cH=>Jr h.row (h.each i h0 hi) b (hb b cH) dG).same (DA _ _ _ λy hy=>?_) hlen;rw[z34 h0 hi] at hy;cases hy;exact he
 ·rw[hlen] at vE;rw[QE _ _ h0 hi hk];split
  ·exact hp
  ·rename_i eO;exact(h.each k hk vE).ext hx λb dG cH=>h.dj i k h0 hi hk vE eO b (hb b cH) dG
 ·rw[hlen] at hal vE;rw[QE _ _ h0 hi ha] at dG;rw[QE _ _ h0 hi hk] at jR
  have e1:b∈Qu (gi ps a).2:=by
   by_cases e:i=a
   ·rw[C' e,hm,e] at dG;exact dG
   ·rw[B' e] at dG;exact dG
  have e2:b∈Qu (gi ps k).2:=by
   by_cases e:i=k
   ·rw[C' e,hm,e] at jR;exact jR
   ·rw[B' e] at jR;exact jR
  exact h.dj a k ha hal hk vE hak b e1 e2
end
def zs6(W:Q7)(m:MW):List (Zb×MG):=(List.range W.IE.length).map λ(k:Nat)=>(gi W.IE (k:Int),m.ms k)
def U9(W:Q7)(m:MW):(zs6 W m).length=W.IE.length:=by simp[zs6]
def MB{W:Q7}{m:MW}{i:Int}(h0:0<=i)(hi:i<(W.IE.length:Int)):gi (zs6 W m) i=(gi W.IE i,m.ms i.toNat):=by
 obtain⟨k,rfl⟩:=Int.eq_ofNat_of_zero_le h0;rw[Jq (by rw[U9];omega)];simp[zs6]
def QN(n:Nat)(m:MW):List Nat:=QL m.cO++QL m.tO++QL m.gO++(List.range n).flatMap λ(k:Nat)=>Qu (m.ms k)
structure Zj (n base:Nat) (w:Wo) (W:Q7) (m:MW):Prop where
 c:Uy Gm 5 Zd base w m.cO m.cC W.IF
 t:Uy X4 9 QS base w m.tO m.tC W.IJ
 g:Lo base w m.gO m.gC (zs6 W m)
 len:W.IE.length=n
section
variable {n base:Nat}{w w':Wo}{W:Q7}{m:MW}{bs:List Nat}
def zeb{x:Nat}(h:x∈QL m.cO):x∈QN n m:=by simp[QN,h]
def zed{x:Nat}(h:x∈QL m.tO):x∈QN n m:=by simp[QN,h]
def zec{x:Nat}(h:x∈QL m.gO):x∈QN n m:=by simp[QN,h]
def Uv{x k:Nat}(hk:k<n)(h:x∈Qu (m.ms k)):x∈QN n m:=by
 unfold QN;exact Iy _ (List.mem_flatMap.2 ⟨k,List.mem_range.2 hk,h⟩)
def Ax{x:Nat}(h:x∈QN n m):x∈QL m.cO\/x∈QL m.tO\/x∈QL m.gO\/∃k,k<n/\x∈Qu (m.ms k):=by
 unfold QN at h;simp only[Im,List.mem_flatMap,List.mem_range] at h;rcases h with ((h|h)|h)|⟨k,hk,h⟩
 ·exact .inl h
 ·exact .inr (.inl h)
 ·exact .inr (.inr (.inl h))
 ·exact .inr (.inr (.inr ⟨k,hk,h⟩))
def Zj.each(h:Zj n base w W m){i:Int}(h0:0<=i)(hi:i<(n:Int)):PF base w (gi W.IE i,m.ms i.toNat):=by
 have:=h.g.each i h0 (by rw[U9,h.len];exact hi)
 rwa[MB h0 (by rw[h.len];exact hi)] at this
def Zj.lt(h:Zj n base w W m):∀x∈QN n m,base<=x/\x<w.heap.size:=λx hx=>by
 rcases Ax hx with hx|hx|hx|⟨k,hk,hx⟩
 ·exact h.c.lt x hx
 ·exact h.t.lt x hx
 ·exact h.g.row.lt x hx
 ·exact(h.each (i:=(k:Int)) Qo Qo).lt x (by simpa using hx)
def Zj.ext(h:Zj n base w W m)(hx:Q0 bs w w')(hd:∀x∈QN n m,x∉bs):Zj n base w' W m:=
 ⟨h.c.ext hx λb hb=>hd b (zeb hb),h.t.ext hx λb hb=>hd b (zed hb),
  ⟨h.g.row.ext hx λb hb=>hd b (zec hb),λi a b=>by
   have b':i<(W.IE.length:Int):=by rw[U9] at b;exact b
   have hl:=h.len;refine(h.g.each i a b).ext hx λx hm=>?_
   rw[MB a b'] at hm;exact hd x (Uv Qo hm),h.g.dj⟩,h.len⟩
def Zj.WR(h:Zj n base w W m)(hx:Q0 [] w w'):Zj n base w' W m:=h.ext hx Qs
def Zj.mono{bA:Nat}(h:Zj n base w W m)(hb:bA<=base):Zj n bA w W m:=⟨h.c.mono hb,h.t.mono hb,h.g.mono hb,h.len⟩
def Zj.rd(h:Zj n base w W m)(hd:∀x∈QN n m,x∉bs):J6 bs w W m:=by
 have hl:=h.len;refine⟨h.c.rd HJ.len λb hb=>hd b (zeb hb),h.t.rd M5.len λb hb=>hd b (zed hb),⟨λi h0 hi=>?_,λi h0 hi=>?_,λi h0 hi=>?_,λi h0 hi=>?_⟩⟩
 ·have:=h.g.row.rd Yw.len (bs:=bs) (λb hb=>hd b (zec hb)) i h0 (by rw[U9];exact hi)
  rwa[MB h0 hi] at this
 ·exact(h.each h0 Qo).loc.rd X6.len λb hb=>hd b (Uv (k:=i.toNat) Qo (by simp[Qu];exact .inl hb))
 ·exact(h.each h0 Qo).RE.rd XX.len λb hb=>hd b (Uv (k:=i.toNat) Qo (by simp[Qu];exact .inr (.inl hb)))
 ·exact(h.each h0 Qo).shl.rd PR.len λb hb=>hd b (Uv (k:=i.toNat) Qo (by simp[Qu];exact .inr (.inr hb)))
def Zj.AP2(h:Zj n base w W m){i:Int}(h0:0<=i)(hi:i<(W.IJ.length:Int)){j:Nat}{vs:List Va}{x:MQ}(he:X4 x=(X4 (gi W.IJ i)).take j++vs++(X4 (gi W.IJ i)).drop (j+vs.length))(hj:j+vs.length<=9) :
  Zj n base (Rx w m.tO (Int.toNat i*9+j) vs) { W with IJ:=W.IJ.set i.toNat x } m:=
 ⟨h.c.ext (h.t.zS _ _) (h.c.Wl h.t Qd),h.t.Rx M5.len h0 hi he hj,h.g.Be6 h.t Qd Qd Qd Qd (h.t.zS _ _),h.len⟩
def Zj.AP1(h:Zj n base w W m){i:Int}(h0:0<=i)(hi:i<(W.IF.length:Int)){j:Nat}{vs:List Va}{x:PZ}(he:Gm x=(Gm (gi W.IF i)).take j++vs++(Gm (gi W.IF i)).drop (j+vs.length))(hj:j+vs.length<=5) :
  Zj n base (Rx w m.cO (Int.toNat i*5+j) vs) { W with IF:=W.IF.set i.toNat x } m:=
 ⟨h.c.Rx HJ.len h0 hi he hj,h.t.ext (h.c.zS _ _) (h.t.Wl h.c Qd),h.g.Be6 h.c Qd Qd Qd Qd (h.c.zS _ _),h.len⟩
def GB(m:MW)(k:Nat)(p:MG):MW:={ m with ms:=λj=>if k=j then p else m.ms j }
def zjr(m:MW)(k:Nat):GB m k (m.ms k)=m:=by
 unfold GB
 have:(λj=>if k=j then m.ms k else m.ms j)=m.ms:=by
  funext j
  split
  ·rename_i e;rw[e]
  ·rfl
 rw[this]
def zs7{i:Int}(h0:0<=i)(hi:i<(W.IE.length:Int))(g:Zb)(p:MG):zs6 { W with IE:=W.IE.set i.toNat g } (GB m i.toNat p)=(zs6 W m).set i.toNat (g,p):=by
 refine zqa (by rw[U9,E',E',U9]) λk hk=>?_
 rw[U9,E'] at hk;rw[MB Qo (by rw[E'];omega),QE _ _ h0 hi Qo,QE _ _ h0 (by rw[U9];exact hi) Qo];simp only[GB]
 by_cases e:i=(k:Int)
 ·rw[C' e,C' e,C' Qo]
 ·rw[B' e,B' e,B' Qo,MB Qo Qo]
def Zj.By6{p:MG}(h:Zj n base w W m){i:Int}(hn:∀x∈Qu p,x∉QN n m\/x∈Qu (m.ms i.toNat))(h0:0<=i)(hi:i<(n:Int)):∀j:Int,0<=j->j<((zs6 W m).length:Int)->i≠j->∀b∈Qu (gi (zs6 W m) j).2,b∉Qu p:=λj hj hjl hij b hb jR=>by
 have hl:=h.len;rw[U9] at hjl;have cH:=hb;rw[MB hj hjl] at hb;rcases hn b jR with h1|h1
 ·exact h1 (Uv Qo hb)
 ·have:=h.g.dj i j h0 (by rw[U9];omega) hj (by rw[U9];exact hjl) hij b (by rw[MB h0 Qo];exact h1);exact this cH
def Zj.B53(h:Zj n base w W m){i:Int}(h0:0<=i)(hi:i<(n:Int)){g:Zb}{p:MG}(hp:PF base w (g,p))(hn:∀x∈Qu p,x∉QN n m\/x∈Qu (m.ms i.toNat)){j:Nat}{vs:List Va}(he:Yq g p=(Yq (gi W.IE i) (m.ms i.toNat)).take j++vs++(Yq (gi W.IE i) (m.ms i.toNat)).drop (j+vs.length))(hj:j+vs.length<=14) :
  Zj n base (Rx w m.gO (Int.toNat i*14+j) vs) { W with IE:=W.IE.set i.toNat g } (GB m i.toNat p):=by
 have hl:=h.len;have hx:=h.g.row.zS (Int.toNat i*14+j) vs;refine⟨h.c.ext hx (h.c.Wl h.g.row Qd),h.t.ext hx (h.t.Wl h.g.row Qd),?_,by rw[E'];exact hl⟩;have:=h.g.Rx h0 (by rw[U9];omega) hp (h.By6 hn h0 hi) (j:=j) (vs:=vs) (by rw[MB h0 Qo];exact he) hj;rw[zs7 h0 Qo];exact this
def Zj.As2(h:Zj n base w W m){i:Int}(h0:0<=i)(hi:i<(n:Int)){g:Zb}(e1:g.IM.locals=(gi W.IE i).IM.locals)(e2:g.IM.RE=(gi W.IE i).IM.RE)(e3:g.IH=(gi W.IE i).IH){j:Nat}{vs:List Va}(he:Yq g (m.ms i.toNat)=(Yq (gi W.IE i) (m.ms i.toNat)).take j++vs++(Yq (gi W.IE i) (m.ms i.toNat)).drop (j+vs.length))(hj:j+vs.length<=14) :
  Zj n base (Rx w m.gO (Int.toNat i*14+j) vs) { W with IE:=W.IE.set i.toNat g } m:=by
 have hm:=h.each h0 hi;have:=h.B53 h0 hi (g:=g) (p:=m.ms i.toNat) ⟨by rw[e1];exact hm.loc,by rw[e2];exact hm.RE,by rw[e3];exact hm.shl⟩ (λx hx=>.inr hx) he hj
 rwa[zjr] at this
def Zj.in(h:Zj n base w W m){i:Int}(h0:0<=i)(hi:i<(n:Int)){g:Zb}(hx:Q0 bs w w')(hb:∀x∈bs,x∈Qu (m.ms i.toNat))(hp:PF base w' (g,m.ms i.toNat))(he:Yq g (m.ms i.toNat)=Yq (gi W.IE i) (m.ms i.toNat)) :
  Zj n base w' { W with IE:=W.IE.set i.toNat g } m:=by
 have hl:=h.len;have hmi:=h.each h0 hi
 have hf:∀{α:Type} {enc:α->List Va} {z:Nat} {ty:TypeId} {bA y':Nat} {o':OA} {l:List α},Uy enc z ty bA w o' y' l->ty≠Qc->ty≠Zw->ty≠ZI->∀b∈QL o',b∉bs:=λho n1 n2 n3 b dG cH=>by
  have hm:=hb b cH;simp only[Qu,Im] at hm;rcases hm with (hm|hm)|hm
  ·exact ho.Wl hmi.loc n1 b dG hm
  ·exact ho.Wl hmi.RE n2 b dG hm
  ·exact ho.Wl hmi.shl n3 b dG hm
 refine⟨h.c.ext hx (hf h.c Qd Qd Qd),h.t.ext hx (hf h.t Qd Qd Qd),?_,by rw[E'];exact hl⟩;have:=h.g.in h0 (by rw[U9];omega) (p:=(g,m.ms i.toNat)) hx (by rw[MB h0 Qo];exact hb) hp (by rw[MB h0 Qo]) (by rw[MB h0 Qo];exact he);have hs:=zs7 (m:=m) h0 (W:=W) Qo g (m.ms i.toNat);rw[zjr] at hs;rw[hs];exact this
def z2f(W:Q7)(i:Int)(c:Int)(x:KD)(mg:MG):Yq { gi W.IE i with IH:=(gi W.IE i).IH.set c.toNat x } mg=Yq (gi W.IE i) mg:=by
 simp[Yq]
def Zj.CE4(h:Zj n base w W m){i c:Int}(h0:0<=i)(hi:i<(n:Int))(c0:0<=c)(c1:c<((gi W.IE i).IH.length:Int)){j:Nat}{vs:List Va}{x:KD}(he:T4 x=(T4 (gi (gi W.IE i).IH c)).take j++vs++(T4 (gi (gi W.IE i).IH c)).drop (j+vs.length))(hj:j+vs.length<=5) :
  Zj n base (Rx w (m.ms i.toNat).sO (Int.toNat c*5+j) vs) { W with IE:=W.IE.set i.toNat { gi W.IE i with IH:=(gi W.IE i).IH.set c.toNat x } } m:=by
 have hm:=h.each h0 hi;have hx:=hm.shl.zS (Int.toNat c*5+j) vs;exact h.in h0 hi hx (λx hx=>by simp[Qu];exact .inr (.inr hx)) ⟨hm.loc.ext hx (hm.loc.Wl hm.shl Qd),hm.RE.ext hx (hm.RE.Wl hm.shl Qd),hm.shl.Rx PR.len c0 c1 he hj⟩ (z2f _ _ _ _ _)
def Zj.fY(h:Zj n base w W m){i c:Int}(h0:0<=i)(hi:i<(n:Int))(c0:0<=c)(c1:c<((gi W.IE i).IM.locals.length:Int))(x:Int) :
  Zj n base (Rx w (m.ms i.toNat).lO (Int.toNat c*1+0) [I x]) { W with IE:=W.IE.set i.toNat { gi W.IE i with IM:={ (gi W.IE i).IM with locals:=(gi W.IE i).IM.locals.set c.toNat x } } } m:=by
 have hm:=h.each h0 hi;have hx:=hm.loc.zS (Int.toNat c*1+0) [I x];exact h.in h0 hi hx (λx hx=>by simp[Qu];exact .inl hx) ⟨hm.loc.Rx X6.len c0 c1 (j:=0) (vs:=[I x]) (x:=x) rfl Qs,hm.RE.ext hx (hm.RE.Wl hm.loc Qd),hm.shl.ext hx (hm.shl.Wl hm.loc Qd)⟩ (by simp[Yq])
def Zj.CE3(h:Zj n base w W m){i c:Int}(h0:0<=i)(hi:i<(n:Int))(c0:0<=c)(c1:c<((gi W.IE i).IM.RE.length:Int))(x:Bool) :
  Zj n base (Rx w (m.ms i.toNat).dO (Int.toNat c*1+0) [.bool x]) { W with IE:=W.IE.set i.toNat { gi W.IE i with IM:={ (gi W.IE i).IM with RE:=(gi W.IE i).IM.RE.set c.toNat x } } } m:=by
 have hm:=h.each h0 hi;have hx:=hm.RE.zS (Int.toNat c*1+0) [.bool x];exact h.in h0 hi hx (λx hx=>by simp[Qu];exact .inr (.inl hx)) ⟨hm.loc.ext hx (hm.loc.Wl hm.RE Qd),hm.RE.Rx XX.len c0 c1 (j:=0) (vs:=[.bool x]) (x:=x) rfl Qs,hm.shl.ext hx (hm.shl.Wl hm.RE Qd)⟩ (by simp[Yq])
end
structure Mv (n base:Nat) (bs:List Nat) (w0:Wo) (m0:MW) (w:Wo) (W:Q7) (m:MW):Prop where
 own:Zj n base w W m
 ext:Q0 (QN n m0) w0 w
 sub:∀x∈QN n m,x∈QN n m0\/w0.heap.size<=x
 hd:m={ m0 with ms:=m.ms }
 nb:∀x∈QN n m,x∉bs
 new:∀x∈bs,w0.heap.size<=x
section
variable {n base:Nat}{bs cs:List Nat}{w0 w w':Wo}{W W':Q7}{m0 m m':MW}{b:Nat}
def Mv.start(h:Zj n base w W m):Mv n base [] w m w W m:=⟨h,Q0.refl _ _,λx hx=>.inl hx,rfl,Qs,Qs⟩
def Mv.add(h:Mv n base bs w0 m0 w W m)(hb:w.heap.size<=b):Mv n base (bs++[b]) w0 m0 w W m:=⟨h.own,h.ext,h.sub,h.hd,λx hx hm=>by
 rcases Im.1 hm with hm|hm
 ·exact h.nb x hx hm
 ·have:x=b:=by simpa using hm
  have:=(h.own.lt x hx).2;omega,λx hm=>by
 rcases Im.1 hm with hm|hm
 ·exact h.new x hm
 ·have:x=b:=by simpa using hm
  have:=h.ext.size;omega⟩
def Mv.Bb9(h:Mv n base bs w0 m0 w W m)(hs:∀x∈cs,x∈bs):Mv n base cs w0 m0 w W m:=⟨h.own,h.ext,h.sub,h.hd,λx hx hm=>h.nb x hx (hs x hm),λx hm=>h.new x (hs x hm)⟩
def Mv.close(h:Mv n base bs w0 m0 w W m):Mv n base [] w0 m0 w W m:=h.Bb9 Qs
def Mv.step(h:Mv n base bs w0 m0 w W m)(hx:Q0 bs w w'):Mv n base bs w0 m0 w' W m:=⟨h.own.ext hx h.nb,h.ext.fresh hx λx hm=>.inl (h.new x hm),h.sub,h.hd,h.nb,h.new⟩
def Mv.R5(h:Mv n base bs w0 m0 w W m)(hx:Q0 [] w w'):Mv n base bs w0 m0 w' W m:=⟨h.own.WR hx,h.ext.trans hx.of_nil,h.sub,h.hd,h.nb,h.new⟩
def Mv.call(h:Mv n base bs w0 m0 w W m)(k:Mv n base [] w m w' W' m')(hs:∀x∈bs,x<w.heap.size):Mv n base bs w0 m0 w' W' m':=
 ⟨k.own,h.ext.fresh k.ext λx hm=>(h.sub x hm).symm,λx hx=>by
  rcases k.sub x hx with h1|h1
  ·exact h.sub x h1
  ·have:=h.ext.size;exact .inr Qo,by rw[k.hd,h.hd],λx hx hm=>by
  rcases k.sub x hx with h1|h1
  ·exact h.nb x h1 hm
  ·have:=hs x hm;omega,h.new⟩
def Mv.Sv(h:Mv n base bs w0 m0 w W m)(k:Zj n base w' W' m)(hx:Q0 (QN n m) w w'):Mv n base bs w0 m0 w' W' m:=
 ⟨k,h.ext.fresh hx λx hm=>(h.sub x hm).symm,h.sub,h.hd,h.nb,h.new⟩
def Mv.kept(h:Mv n base bs w0 m0 w W m)(k:Mv n base [] w m w' W' m')(hs:∀x∈bs,x<w.heap.size):Q9 bs w w':=λx hm=>k.ext.block x (hs x hm) λjW=>h.nb x jW hm
def Mv.rd(h:Mv n base bs w0 m0 w W m):J6 bs w W m:=h.own.rd h.nb
def Mv.rd0(h:Mv n base bs w0 m0 w W m):J6 [] w W m:=h.own.rd Qs
def Mv.trans{w1:Wo}{W1:Q7}{m1:MW}(h:Mv n base [] w0 m0 w W m)(k:Mv n base [] w m w1 W1 m1):Mv n base [] w0 m0 w1 W1 m1:=h.call k Qs
def Mv.Aa0(h:Mv n base bs w0 m0 w W m){W0:Q7}(e0:W.now=W0.now)(e1:W.IF.length=W0.IF.length)(e2:W.IJ.length=W0.IJ.length)(e3:W.IE.length=W0.IE.length):Qa W m=Qa W0 m0:=by
 rw[h.hd];simp only[Qa,e0,e1,e2,e3]
end
structure OW (n base:Nat) (bs:List Nat) (w:Wo) (W:Q7) (m:MW):Prop where
 own:Zj n base w W m
 nb:∀x∈QN n m,x∉bs
section
variable {n base:Nat}{bs cs:List Nat}{w w':Wo}{W:Q7}{m:MW}{b:Nat}
def OW.of(h:Zj n base w W m)(hs:∀x∈bs,x<base):OW n base bs w W m:=⟨h,λx hx hm=>by
 have:=(h.lt x hx).1;have:=hs x hm;omega⟩
def OW.step(h:OW n base bs w W m)(hx:Q0 bs w w'):OW n base bs w' W m:=⟨h.own.ext hx h.nb,h.nb⟩
def OW.R5(h:OW n base bs w W m)(hx:Q0 [] w w'):OW n base bs w' W m:=⟨h.own.WR hx,h.nb⟩
def OW.call(h:OW n base bs w W m)(hx:Q0 cs w w')(hd:∀x∈QN n m,x∉cs):OW n base bs w' W m:=⟨h.own.ext hx hd,h.nb⟩
def OW.add(h:OW n base bs w W m)(hb:w.heap.size<=b):OW n base (bs++[b]) w W m:=⟨h.own,λx hx hm=>by
 rcases Im.1 hm with hm|hm
 ·exact h.nb x hx hm
 ·have:x=b:=by simpa using hm
  have:=(h.own.lt x hx).2;omega⟩
def OW.put(h:OW n base bs w W m)(hx:Q0 bs w w')(hb:w.heap.size<=b):OW n base (bs++[b]) w' W m:=⟨(h.step hx).own,(h.add hb).nb⟩
def OW.AH9{b2:Nat}(h:OW n base bs w W m)(hx:Q0 bs w w')(hb:w.heap.size<=b)(cH:w.heap.size<=b2):OW n base (bs++[b]++[b2]) w' W m:=⟨(h.step hx).own,((h.add hb).add cH).nb⟩
def OW.sub(h:OW n base bs w W m)(hs:∀x∈cs,x∈bs):OW n base cs w W m:=⟨h.own,λx hx hm=>h.nb x hx (hs x hm)⟩
def OW.mono{bA:Nat}(h:OW n base bs w W m)(hb:bA<=base):OW n bA bs w W m:=⟨h.own.mono hb,h.nb⟩
def OW.rd(h:OW n base bs w W m):J6 bs w W m:=h.own.rd h.nb
def OW.rd0(h:OW n base bs w W m):J6 [] w W m:=h.own.rd Qs
end
def Jp(b:Ue):Ue:=⟨b.I',b.I',0,List.replicate b.RE.length 0,List.replicate b.RE.length false⟩
def ZQ(b:Ue)(c:Int):Ue×Int:=
 if gi b.locals c>0 then (b,0)
 else (⟨b.I',b.RU-ZK 20 b.RU,b.SB,b.locals.set c.toNat (ZK 20 b.RU),b.RE.set c.toNat (ZK 20 b.RU==0)⟩,if ZK 20 b.RU=0 then 2 else 0)
def XG(b:Ue)(c n:Int):Ue×Int:=
 if n<1\/n>gi b.locals c then (b,3) else ({ b with SB:=b.SB+n,locals:=b.locals.set c.toNat (gi b.locals c-n) },0)
def ZL(b:Ue)(op:z5m):Ue×Int:=
 if op.kind=4 then (Jp b,0)
 else if YT op.wL 0 ((b.locals.length:Int)-1)=false then (b,1)
 else if op.kind=1 then ZQ b op.wL
 else if op.kind=2 then XG b op.wL op.n
 else if op.kind=3 then (YH b op.wL,0)
 else (b,1)
structure Zv (base:Nat) (w:Wo) (b:Ue) (p:MG):Prop where
 loc:Uy JW 1 Qc base w p.lO p.lC b.locals
 RE:Uy MT 1 Zw base w p.dO p.dC b.RE
def YD(p:MG):List Nat:=QL p.lO++QL p.dO
def Zv.lt{base:Nat}{w:Wo}{b:Ue}{p:MG}(h:Zv base w b p):∀x∈YD p,base<=x/\x<w.heap.size:=λx hx=>by
 rcases Im.1 hx with hx|hx
 ·exact h.loc.lt x hx
 ·exact h.RE.lt x hx
def Zv.ext{base:Nat}{w w':Wo}{b:Ue}{p:MG}{bs:List Nat}(h:Zv base w b p)(hx:Q0 bs w w')(hd:∀x∈YD p,x∉bs):Zv base w' b p:=
 ⟨h.loc.ext hx λx hm=>hd x (Ia _ hm),h.RE.ext hx λx hm=>hd x (Iy _ hm)⟩
def Zv.WR{base:Nat}{w w':Wo}{b:Ue}{p:MG}(h:Zv base w b p)(hx:Q0 [] w w'):Zv base w' b p:=h.ext hx Qs
def Zv.Cb7{base:Nat}{w w':Wo}{b:Ue}{p:MG}{bs:List Nat}(h:Zv base w b p)(hx:Q0 bs w w')(hb:∀x∈bs,x<base):Zv base w' b p:=h.ext hx λx hm jW=>by
 have:=(h.lt x hm).1;have:=hb x jW;omega
def Zv.mono{base bA:Nat}{w:Wo}{b:Ue}{p:MG}(h:Zv base w b p)(hb:bA<=base):Zv bA w b p:=⟨h.loc.mono hb,h.RE.mono hb⟩
def Zv.fY{base:Nat}{w:Wo}{b:Ue}{p:MG}(h:Zv base w b p){c:Int}(c0:0<=c)(c1:c<(b.locals.length:Int))(x:Int):Zv base (Rx w p.lO (Int.toNat c*1) [I x]) { b with locals:=b.locals.set c.toNat x } p:=
 ⟨h.loc.Rx X6.len c0 c1 (j:=0) (vs:=[I x]) (x:=x) rfl Qs,h.RE.ext (h.loc.zS _ _) (h.RE.Wl h.loc Qd)⟩
def Zv.CE3{base:Nat}{w:Wo}{b:Ue}{p:MG}(h:Zv base w b p){c:Int}(c0:0<=c)(c1:c<(b.RE.length:Int))(x:Bool):Zv base (Rx w p.dO (Int.toNat c*1) [.bool x]) { b with RE:=b.RE.set c.toNat x } p:=
 ⟨h.loc.ext (h.RE.zS _ _) (h.loc.Wl h.RE Qd),h.RE.Rx XX.len c0 c1 (j:=0) (vs:=[.bool x]) (x:=x) rfl Qs⟩
def Zv.xL{base:Nat}{w:Wo}{b:Ue}{p:MG}(h:Zv base w b p)(n:Nat)(vs:List Va):Q0 (YD p) w (Rx w p.lO n vs):=(h.loc.zS n vs).mono λx hx=>Ia _ hx
def Zv.xD{base:Nat}{w:Wo}{b:Ue}{p:MG}(h:Zv base w b p)(n:Nat)(vs:List Va):Q0 (YD p) w (Rx w p.dO n vs):=(h.RE.zS n vs).mono λx hx=>Iy _ hx
section
variable {b:Ue}{m:MG}{w:Wo}
def Hw{α:Type}[Inhabited α]{l:List α}{i:Nat}(h:i<l.length):l.take i++[gi l (i:Int)]=l.take (i+1):=by
 rw[List.take_succ_eq_append_getElem h,Jq h]
def FJ(h1:zm2 [] w m.lO b.locals)(h2:zwa [] w m.dO b.RE)(hd:b.RE.length=b.locals.length)(hl:b.locals.length<=1048576) :
  Cz OQ #[.agg (ZD b m).toArray] w λe w'=>∃p,e=.returned (.agg (ZD b p).toArray)/\Zv w.heap.size w' b p/\Q0 [] w w':=by
 refine(zk5 b.I' b.RU b.SB m.lO b.locals.length m.lC m.dO b.RE.length m.dC (R:=λv w'=>∃p,v=.agg (ZD b p).toArray/\Zv w.heap.size w' b p/\Q0 [] w w') ?_).mono λe w' ⟨v,he,p,hv,h3⟩=>⟨p,by rw[he,hv],h3⟩
 intro x hx0 x5 Sx x6 bM
 refine⟨λvs w1=>∃(i:Nat) (p:MG),vs=[I (i:Int),I b.I',I b.RU,I b.SB,.slice p.lO (b.locals.take i).length p.lC,.slice p.dO (b.RE.take i).length p.dC]/\i<=b.locals.length/\Sc w [x,x5,x6] w1/\Ob JW 1 Qc w.heap.size [x,x5,x6] w1 p.lO p.lC (b.locals.take i)/\Ob MT 1 Zw w.heap.size [x,x5,x6] w1 p.dO p.dC (b.RE.take i),
  Zp b.locals.length 0,λwr hx _=>⟨0,⟨none,0,none,0,none,0⟩,Qs,Ic _,(((Sc.start w).add hx0).add Sx |>.add bM).R5 hx,⟨.inl ⟨rfl,rfl,rfl⟩,by simp[QL]⟩,⟨.inl ⟨rfl,rfl,rfl⟩,by simp[QL]⟩⟩,?_⟩
 rintro c1 l l1 l2 RG RH RJ l4O l4L l4C wv hs ⟨i,p,he,hi,s1,hO,hD⟩;simp only[I4,I5,Iv,true_and,and_true] at he;obtain⟨rfl,rfl,rfl,rfl,⟨rfl,rfl,rfl⟩,rfl,rfl,rfl⟩:=he;refine⟨λIV=>?_,λRW=>?_⟩
 ·have IV:=Ot IV;have hr1:=h1.scb s1;refine⟨hr1.ix XP Qo IV,_,hr1 i Qo IV,λb8 hb8=>⟨rfl,λRD Rl jS WY=>?_⟩⟩;have s2:=s1.put Rl hb8;have vB:=hO.put Rl hb8;have hD2:=hD.put Rl hb8;obtain⟨o2,c2,w2,Wn,hk2,hO3,SX⟩:=vB.AQ6 X6 MN (x:=gi b.locals (i:Int)) jS s2.ext.size WY (z4o _) (by rw[List.length_take];omega) Qd YR #[false,false];rw[Hw Qo] at Wn hO3;have s3:=s2.call SX λx hm=>(vB.own.lt x hm).1
  have hD3:=hD2.call SX (hD2.own.Wl vB.own Qd);have hr2:=h2.scb s3;refine⟨_,_,_,w2,Wn,hk2,hr2.ix Lw Qo Qo,_,hr2 i Qo Qo,λb9 hb9=>⟨rfl,λRN W8 dX CP2=>?_⟩⟩;have s4:=s3.put W8 hb9;have hO4:=hO3.put W8 hb9;have hD4:=hD3.put W8 hb9;obtain⟨o4,c4,w4,CJ1,hk4,hD5,jX⟩:=hD4.AQ6 XX Li (x:=gi b.RE (i:Int)) dX s4.ext.size CP2 (z57 _) (by rw[List.length_take];omega) Qd J5 #[false,false];rw[Hw Qo] at CJ1 hD5;have s5:=s4.call jX λx hm=>(hD4.own.lt x hm).1
  have hO5:=hO4.call jX (hO4.own.Wl hD4.own Qd);refine⟨_,_,_,w4,CJ1,hk4,⟨Qo,Qo⟩,λw5 Sx _=>⟨⟨i+1,⟨o2,c2,o4,c4,none,0⟩,rfl,Qo,(s5.step Sx).sub Qs,(hO5.step Sx).sub Qs,(hD5.step Sx).sub Qs⟩,?_⟩⟩;simp only[Zp,Xp,Y4,Ie];omega
 ·have RW:=Ou RW;have e1:b.locals.take i=b.locals:=List.take_of_length_le Qo;have e2:b.RE.take i=b.RE:=List.take_of_length_le Qo;rw[e1] at hO ⊢;rw[e2] at hD ⊢;exact λw2 Rg=>⟨p,rfl,⟨(hO.step Rg).own,(hD.step Rg).own⟩,(s1.step Rg).ext⟩
def zpe(l:List Bool)(k:Nat)(h:k<l.length):(List.replicate k false++l.drop k).set k false=List.replicate (k+1) false++l.drop (k+1):=by
 rw[List.set_append,B' Qs,List.length_replicate,Nat.sub_self,List.drop_eq_getElem_cons h,List.set_cons_zero,List.replicate_succ',List.append_assoc,List.singleton_append]
def FK{base:Nat}(h:Zv base w b m)(hl:b.RE.length<=1048576) :
  Cz OR #[.agg (ZD b m).toArray] w λe w'=>e=.returned (.agg (ZD b m).toArray)/\Zv base w' { b with RE:=List.replicate b.RE.length false } m/\Q0 (YD m) w w':=by
 refine(zk6 b.I' b.RU b.SB m.lO b.locals.length m.lC m.dO b.RE.length m.dC (R:=λv w'=>v=.agg (ZD b m).toArray/\Zv base w' { b with RE:=List.replicate b.RE.length false } m/\Q0 (YD m) w w') ?_).mono λe w' ⟨v,he,hv,h3⟩=>⟨by rw[he,hv],h3⟩
 intro x hx0 x5 Sx
 have hnb:∀y∈YD m,y∉[x,x5]:=λy hy hm=>by
  have:=(h.lt y hy).2;simp only[Ii,List.not_mem_nil,or_false] at hm;rcases hm with rfl|rfl <;> omega
 have hfr:∀y∈[x,x5],w.heap.size<=y:=λy hm=>by
  simp only[Ii,List.not_mem_nil,or_false] at hm;rcases hm with rfl|rfl <;> assumption
 refine Jh b.RE.length 0 rfl (λk w1=>k<=b.RE.length/\Zv base w1 { b with RE:=List.replicate k false++b.RE.drop k } m/\Q0 (YD m) w w1) (λw1 Sn _=>⟨Ic _,by simpa using h.WR Sn,Sn.of_nil⟩) λk w1 hs ⟨hk,hO,hX⟩=>⟨λIV=>?_,λRW=>?_⟩
 ·have IV:=Ot IV;have hlen:(List.replicate k false++b.RE.drop k).length=b.RE.length:=by simp;omega
  have e1:=hO.CE3 (c:=(k:Int)) Qo (by show (k:Int)<((List.replicate k false++b.RE.drop k).length:Int);rw[hlen];exact IV) false;have e2:({ b with RE:=(List.replicate k false++b.RE.drop k).set k false }:Ue)={ b with RE:=List.replicate (k+1) false++b.RE.drop (k+1) }:=by rw[zpe _ _ Qo]
  have Wx:=hO.RE.ix (i:=(k:Int)) Qo (by show (k:Int)<((List.replicate k false++b.RE.drop k).length:Int);rw[hlen];exact IV);have hwr:=hO.RE.wr XX.len (bs:=[x,x5]) (λy hy=>hnb y (Iy _ hy)) (i:=(k:Int)) Qo (by show (k:Int)<((List.replicate k false++b.RE.drop k).length:Int);rw[hlen];exact IV) (j:=0) (n:=1) Qd;refine⟨by rw[<-hlen];exact Wx,hwr,⟨Qo,Qo⟩,λw2 Rg _=>Qx Qo ⟨Qo,?_,(hX.trans (hO.xD _ _)).fresh Rg λy hy=>.inl (hfr y hy)⟩⟩;rw[Ig] at e1;have:=(e2▸e1:Zv base (Rx w1 m.dO (k*1) [.bool false]) { b with RE:=List.replicate (k+1) false++b.RE.drop (k+1) } m);exact this.ext (by rw[Ig] at Rg;exact Rg) hnb
 ·have RW:=Ou RW;have hk2:k=b.RE.length:=Qo;subst hk2;rw[List.drop_length,List.append_nil] at hO;exact λw2 Rg=>⟨rfl,hO.ext Rg hnb,hX.fresh Rg λy hy=>.inl (hfr y hy)⟩
def za7{p:Int}(h:0<=p):0<=ZK 20 p/\ZK 20 p<=p:=by unfold ZK;split <;> omega
def Ve{op:z5m}(hb:OY b)(h1:zm2 [] w m.lO b.locals)(h2:zwa [] w m.dO b.RE) :
  Cz Xy #[.agg (ZD b m).toArray,.agg (z5x op).toArray] w λe w'=>∃p,e=.returned (.tuple #[.agg (ZD (ZL b op).1 p).toArray,I (ZL b op).2])/\Zv w.heap.size w' (ZL b op).1 p/\Q0 [] w w':=by
 refine(zg1 b.I' b.RU b.SB m.lO b.locals.length m.lC m.dO b.RE.length m.dC op.kind op.wL op.n (R:=λv w'=>∃p,v=.tuple #[.agg (ZD (ZL b op).1 p).toArray,I (ZL b op).2]/\Zv w.heap.size w' (ZL b op).1 p/\Q0 [] w w') ?_).mono λe w' ⟨v,he,p,hv,h3⟩=>⟨p,by rw[he,hv],h3⟩
 have hm9:=ZW;have hl2:=hb.l2;have hdl:=hb.dl;have q1:=hb.q1;have q2:=hb.q2;have p1:=hb.p1;have p2:=hb.p2;have s1':=hb.s1;have s2':=hb.s2;intro x hx0 x5 Sx x6 bM;have hok:=DG (bs:=[]) h1 h2 Qo;rw[Qm.2 hb] at hok;refine⟨true,hok,λh=>by simp at h,λ_ R6 Sn eR=>?_⟩;have t1:=((((Sc.start w).add hx0).add Sx).add bM).R5 Sn;refine(FJ (h1.ext Sn) (h2.ext Sn) hdl Qo).mono λe wv ⟨p,he,hO,dY⟩=>⟨_,_,_,_,_,_,_,_,_,he,Qg dY eR,λg4=>?_,λg4=>?_⟩
 ·have g4:op.kind=4:=by simpa using g4
  have t2:=t1.R5 dY;have hbl:∀y∈[x,x5,x6],y<R6.heap.size:=eR;refine λR7 Rg We=>⟨_,_,_,_,KA X6 MN b.RE.length Qo Qo R7,Qg (Z9 _ _) We,λRD Rl jS=>?_⟩
  have hLo:=(Vg (enc:=JW) X6.len Qc b.RE.length (0:Int) R7).ext Rl λy hy hm=>by
   have:y=R7.heap.size:=by simpa[QL] using hy
   have:=We y hm;omega
  have hD3:Uy MT 1 Zw R6.heap.size RD p.dO p.dC b.RE:=((hO.Cb7 Rg hbl).WR (Z9 R7 _)).Cb7 Rl hbl |>.RE
  have DC9:R6.heap.size<=R7.heap.size:=IB dY.size Rg.size;have hB3:Zv R6.heap.size RD { b with locals:=List.replicate b.RE.length 0 } ⟨some ⟨R7.heap.size,0,none⟩,b.RE.length,p.dO,p.dC,none,0⟩:=⟨hLo.mono DC9,hD3⟩;have t3:=((t2.step Rg).R5 (Z9 R7 (.cells ((List.replicate b.RE.length (0:Int)).flatMap JW).toArray Qc))).step Rl;have hw:=FK (b:=⟨b.I',b.I',0,List.replicate b.RE.length 0,b.RE⟩) (m:=⟨some ⟨R7.heap.size,0,none⟩,b.RE.length,p.dO,p.dC,none,0⟩) (base:=R6.heap.size) ⟨hB3.loc,hB3.RE⟩ (by show b.RE.length<=_;omega);simp only[ZD,List.length_replicate] at hw;refine I3 hw λe w4 ⟨he4,hO4,jX⟩=>⟨_,_,_,_,_,_,_,_,_,he4,λy hm=>jX.block y (jS y hm) λjW=>?_,λRN W8=>⟨⟨some ⟨R7.heap.size,0,none⟩,b.RE.length,p.dO,p.dC,none,0⟩,?_,?_,?_⟩⟩
  ·have:=(hB3.lt y jW).1;have:=eR y hm;omega
  ·have:ZL b op=(Jp b,0):=by unfold ZL;rw[C' g4]
   rw[this];simp[ZD,Jp]
  ·have:ZL b op=(Jp b,0):=by unfold ZL;rw[C' g4]
   rw[this]
   exact(Zv.mono ⟨hO4.loc,hO4.RE⟩ Sn.size).ext W8 λy hy hm=>by
    have:=(hB3.lt y hy).1;have:=eR y hm;omega
  ·exact((t3.call jX λy hy=>IB Sn.size (hB3.lt y hy).1).step W8).ext
 ·have g4:¬op.kind=4:=by simpa using g4
  have t2:=t1.R5 dY
  have hbl:∀y∈YD p,y∉[x,x5,x6]:=λy hy hm=>by
   have:=(hO.lt y hy).1;have:=eR y hm;omega
  have hO0:Zv w.heap.size wv b p:=hO.mono Sn.size
  have fin:∀{b':Ue} {c:Int} {w1 w2:Wo},ZL b op=(b',c)->Zv w.heap.size w1 b' p->Q0 (YD p) wv w1->Q0 [x,x5,x6] w1 w2->Zv w.heap.size w2 (ZL b op).1 p/\Q0 [] w w2:=λe hB hX hx=>by
   rw[e];exact⟨hB.ext hx hbl,((t2.call hX λy hy=>(hO0.lt y hy).1).step hx).ext⟩
  have hr1:zm2 [x,x5,x6] wv p.lO b.locals:=hO.loc.rd X6.len λy hy=>hbl y (Ia _ hy)
  refine⟨⟨Qo,Qo⟩,_,Qt,λg5 wr hx=>⟨p,?_,fin (b':=b) (c:=1) ?_ hO0 (Q0.refl _ _) hx⟩,λg5=>?_⟩
  ·have:ZL b op=(b,1):=by unfold ZL;rw[B' g4,C' (by simpa using g5)]
   rw[this];rfl
  ·unfold ZL;rw[B' g4,C' (by simpa using g5)]
  have g5':YT op.wL 0 ((b.locals.length:Int)-1):=by simpa using g5
  have gJ:ZL b op=if op.kind=1 then ZQ b op.wL else if op.kind=2 then XG b op.wL op.n else if op.kind=3 then (YH b op.wL,0) else (b,1):=by
   unfold ZL;rw[B' g4,B' (by rw[g5'];decide)]
  obtain⟨c0,c1⟩:=Qv.1 g5';have c1:op.wL<(b.locals.length:Int):=Qo;have he':=hb.each _ c0 c1;have Wx:=hr1.ix XP c0 c1;have hwL:Xd [x,x5,x6] wv p.lO (Int.toNat op.wL*1) 1:=hO.loc.wr X6.len (λy hy=>hbl y (Ia _ hy)) c0 c1 (j:=0) Qd;refine⟨λg6=>?_,λg6=>?_⟩
  ·have g6:op.kind=1:=by simpa using g6
   rw[C' g6] at gJ;refine⟨Wx,_,hr1 _ c0 c1,λg7 wr hx=>⟨p,?_,fin (b':=b) (c:=0) ?_ hO0 (Q0.refl _ _) hx⟩,λg7=>?_⟩
   ·rw[gJ];unfold ZQ;rw[C' (Ot g7)];rfl
   ·rw[gJ];unfold ZQ;rw[C' (Ot g7)]
   have g7:=Ou g7;have ht:ZQ b op.wL=(⟨b.I',b.RU-ZK 20 b.RU,b.SB,b.locals.set op.wL.toNat (ZK 20 b.RU),b.RE.set op.wL.toNat (ZK 20 b.RU==0)⟩,if ZK 20 b.RU=0 then 2 else 0):=by unfold ZQ;rw[B' g7]
   rw[ht] at gJ;have hm:=za7 p1;have e1:=hO0.fY c0 c1 (ZK 20 b.RU);have e2:=e1.CE3 (c:=op.wL) c0 (by show op.wL<(b.RE.length:Int);omega) (ZK 20 b.RU==0);have hX:=(hO0.xL (Int.toNat op.wL*1) [I (ZK 20 b.RU)]).trans (e1.xD (Int.toNat op.wL*1) [.bool (ZK 20 b.RU==0)]);refine⟨_,JB,⟨Qo,Qo⟩,Wx,hwL,e1.RE.ix c0 (by show op.wL<(b.RE.length:Int);omega),e1.RE.wr XX.len (λy hy=>hbl y (Iy _ hy)) c0 (by show op.wL<(b.RE.length:Int);omega) (j:=0) Qd,λg8 wr hx=>⟨p,?_,fin gJ ⟨e2.loc,e2.RE⟩ hX hx⟩,λg8 wr hx=>⟨p,?_,fin gJ ⟨e2.loc,e2.RE⟩ hX hx⟩⟩
   ·rw[gJ,C' (by simpa using g8)];simp[ZD]
   ·rw[gJ,B' (by simpa using g8)];simp[ZD]
  ·have g6:¬op.kind=1:=by simpa using g6
   rw[B' g6] at gJ;refine⟨λg7=>?_,λg7=>?_⟩
   ·have g7:op.kind=2:=by simpa using g7
    rw[C' g7] at gJ;refine⟨λ_=>Wx,_,λ_=>hr1 _ c0 c1,λg8 wr hx=>⟨p,?_,fin (b':=b) (c:=3) ?_ hO0 (Q0.refl _ _) hx⟩,λg8=>?_⟩
    ·rw[gJ];unfold XG;rw[C' (by simpa using g8)];rfl
    ·rw[gJ];unfold XG;rw[C' (by simpa using g8)]
    have g8':¬(op.n<1\/op.n>gi b.locals op.wL):=by simpa using g8
    have ht:XG b op.wL op.n=({ b with SB:=b.SB+op.n,locals:=b.locals.set op.wL.toNat (gi b.locals op.wL-op.n) },0):=by unfold XG;rw[B' g8']
    rw[ht] at gJ;have e1:=hO0.fY c0 c1 (gi b.locals op.wL-op.n);refine⟨Wx,_,hr1 _ c0 c1,⟨Qo,Qo⟩,Wx,hwL,⟨Qo,Qo⟩,λwr hx=>⟨p,?_,fin gJ ⟨e1.loc,e1.RE⟩ (hO0.xL _ _) hx⟩⟩;rw[gJ];simp[ZD]
   ·have g7:¬op.kind=2:=by simpa using g7
    rw[B' g7] at gJ;refine⟨λg8=>?_,λg8 wr hx=>⟨p,?_,fin (b':=b) (c:=1) ?_ hO0 (Q0.refl _ _) hx⟩⟩
    ·have g8:op.kind=3:=by simpa using g8
     rw[C' g8] at gJ;have e1:=hO0.fY c0 c1 0;refine⟨Wx,_,hr1 _ c0 c1,⟨Qo,Qo⟩,Wx,hwL,λg9 wr hx hs=>?_,λg9 wr hx=>⟨p,?_,fin gJ ?_ (hO0.xL _ _) hx⟩⟩
     ·have g9:=Ot g9;have e2:Zv w.heap.size wr ⟨b.I',b.RU+gi b.locals op.wL,b.SB,b.locals.set op.wL.toNat 0,b.RE⟩ p:=Zv.ext ⟨e1.loc,e1.RE⟩ hx hbl;have hw:=FK e2 (by show b.RE.length<=_;omega);simp only[ZD,E'] at hw;refine I3 hw λe w4 ⟨he4,hO4,jX⟩=>⟨_,_,_,_,_,_,_,_,_,he4,λy hm=>jX.block y (hs y hm) λjW=>hbl y jW hm,λRN W8=>⟨p,?_,?_,?_⟩⟩
      ·rw[gJ];simp[ZD,YH,C' g9]
      ·rw[gJ];have:YH b op.wL=⟨b.I',b.RU+gi b.locals op.wL,b.SB,b.locals.set op.wL.toNat 0,List.replicate b.RE.length false⟩:=by unfold YH;rw[C' g9]
       rw[this];exact Zv.ext ⟨hO4.loc,hO4.RE⟩ W8 hbl
      ·exact((((t2.call (hO0.xL _ _) λy hy=>(hO0.lt y hy).1).step hx).call jX λy hy=>(hO0.lt y hy).1).step W8).ext
     ·have g9:=Ou g9;rw[gJ];simp[ZD,YH,B' g9]
     ·have g9:=Ou g9;have:YH b op.wL=⟨b.I',b.RU+gi b.locals op.wL,b.SB,b.locals.set op.wL.toNat 0,b.RE⟩:=by unfold YH;rw[B' g9]
      rw[this];exact⟨e1.loc,e1.RE⟩
    ·rw[gJ,B' (by simpa using g8)];rfl
    ·rw[gJ,B' (by simpa using g8)]
end
section
variable {base:Nat}{W:Q7}{m:MW}{w:Wo}
def YF{w:Wo}{x x1:Nat}(h:w.heap.size<=x)(h1:w.heap.size<=x1):∀y∈[x,x1],w.heap.size<=y:=λy hm=>by
 simp only[Ii,List.not_mem_nil,or_false] at hm;rcases hm with rfl|rfl <;> assumption
def Mv.two{n:Nat}(h:Zj n base w W m){x x1:Nat}(hx:w.heap.size<=x)(Sn:w.heap.size<=x1):Mv n base [x,x1] w m w W m:=((Mv.start h).add hx).add Sn
def Du{n:Nat}{m:MW}{w:Wo}{k:Nat}{vs:List Va}:Q0 (QN n m) w (Rx w m.cO k vs):=TK λa ha=>zeb (by rw[ha];simp[QL])
def Hv{n:Nat}{m:MW}{w:Wo}{k:Nat}{vs:List Va}:Q0 (QN n m) w (Rx w m.tO k vs):=TK λa ha=>zed (by rw[ha];simp[QL])
def A3{n:Nat}{m:MW}{w:Wo}{k:Nat}{vs:List Va}:Q0 (QN n m) w (Rx w m.gO k vs):=TK λa ha=>zec (by rw[ha];simp[QL])
def zmj{n:Nat}{m:MW}{w:Wo}{i k:Nat}{vs:List Va}(hi:i<n):Q0 (QN n m) w (Rx w (m.ms i).sO k vs):=TK λa ha=>Uv hi (by simp[Qu,QL,ha])
def z2j{n:Nat}{m:MW}{w:Wo}{i k:Nat}{vs:List Va}(hi:i<n):Q0 (QN n m) w (Rx w (m.ms i).lO k vs):=TK λa ha=>Uv hi (by simp[Qu,QL,ha])
def z6e{n:Nat}{m:MW}{w:Wo}{i k:Nat}{vs:List Va}(hi:i<n):Q0 (QN n m) w (Rx w (m.ms i).dO k vs):=TK λa ha=>Uv hi (by simp[Qu,QL,ha])
def zpg{n:Nat}{bs:List Nat}(h:Zj n base w W m)(hd:∀x∈QN n m,x∉bs){i:Int}(h0:0<=i)(h1:i<(W.IF.length:Int)){j k:Nat}(hj:j+k<=5):Xd bs w m.cO (Int.toNat i*5+j) k:=h.c.wr HJ.len (λb hb=>hd b (zeb hb)) h0 h1 hj
def zts{n:Nat}{bs:List Nat}(h:Zj n base w W m)(hd:∀x∈QN n m,x∉bs){i:Int}(h0:0<=i)(h1:i<(W.IJ.length:Int)){j k:Nat}(hj:j+k<=9):Xd bs w m.tO (Int.toNat i*9+j) k:=h.t.wr M5.len (λb hb=>hd b (zed hb)) h0 h1 hj
def zru{n:Nat}{bs:List Nat}(h:Zj n base w W m)(hd:∀x∈QN n m,x∉bs){i:Int}(h0:0<=i)(h1:i<(n:Int)){j k:Nat}(hj:j+k<=14):Xd bs w m.gO (Int.toNat i*14+j) k:=h.g.row.wr Yw.len (λb hb=>hd b (zec hb)) h0 (by rw[U9,h.len];exact h1) hj
def z6l{n:Nat}{bs:List Nat}(h:Zj n base w W m)(hd:∀x∈QN n m,x∉bs){i c:Int}(h0:0<=i)(h1:i<(n:Int))(c0:0<=c)(c1:c<((gi W.IE i).IH.length:Int)){j k:Nat}(hj:j+k<=5):Xd bs w (m.ms i.toNat).sO (Int.toNat c*5+j) k:=
 (h.each h0 h1).shl.wr PR.len (λb hb=>hd b (Uv (k:=i.toNat) Qo (by simp[Qu];exact .inr (.inr hb)))) c0 c1 hj
def z7q{n:Nat}{bs:List Nat}(h:Zj n base w W m)(hd:∀x∈QN n m,x∉bs){i c:Int}(h0:0<=i)(h1:i<(n:Int))(c0:0<=c)(c1:c<((gi W.IE i).IM.locals.length:Int)){j k:Nat}(hj:j+k<=1):Xd bs w (m.ms i.toNat).lO (Int.toNat c*1+j) k:=
 (h.each h0 h1).loc.wr X6.len (λb hb=>hd b (Uv (k:=i.toNat) Qo (by simp[Qu];exact .inl hb))) c0 c1 hj
def z7p{n:Nat}{bs:List Nat}(h:Zj n base w W m)(hd:∀x∈QN n m,x∉bs){i c:Int}(h0:0<=i)(h1:i<(n:Int))(c0:0<=c)(c1:c<((gi W.IE i).IM.RE.length:Int)){j k:Nat}(hj:j+k<=1):Xd bs w (m.ms i.toNat).dO (Int.toNat c*1+j) k:=
 (h.each h0 h1).RE.wr XX.len (λb hb=>hd b (Uv (k:=i.toNat) Qo (by simp[Qu];exact .inr (.inl hb)))) c0 c1 hj
def zs1{n:Nat}(h:Zj n base w W m){c:Int}(c0:0<=c)(c1:c<(W.IF.length:Int)) :
  (Zj n base (Rx w m.cO (Int.toNat c*5+1) [I (-1)]) { W with IF:=W.IF.set c.toNat { gi W.IF c with cur := -1 } } m)/\
  Zj n base (Rx (Rx w m.cO (Int.toNat c*5+1) [I (-1)]) m.cO (Int.toNat c*5+2) [I 0]) (Rb W c) m:=by
 have e1:=h.AP1 c0 c1 (j:=1) (vs:=[I (-1)]) (x:={ gi W.IF c with cur := -1 }) rfl Qd;refine⟨e1,?_⟩;have hg:gi (W.IF.set c.toNat { gi W.IF c with cur := -1 }) c={ gi W.IF c with cur := -1 }:=by rw[QE _ _ c0 c1 c0,C' rfl]
 have e2:=e1.AP1 c0 (by simpa using c1) (j:=2) (vs:=[I 0]) (x:=Xv (gi W.IF c)) (by rw[hg];rfl) Qd;rw[List.set_set] at e2;exact e2
def ZM{n:Nat}(h:Zj n base w W m){c:Int}(c0:0<=c)(c1:c<(W.IF.length:Int)) :
  Cz Zf #[.agg (Qa W m).toArray,I c] w λe w'=>e=.returned (.agg (Qa (Rb W c) m).toArray)/\Mv n base [] w m w' (Rb W c) m:=by
 refine(zk7 _ _ _ _ _ _ _ _ _ _ c (R:=λv w'=>v=.agg (Qa (Rb W c) m).toArray/\Mv n base [] w m w' (Rb W c) m) ?_).mono λe w' ⟨v,he,hv,h3⟩=>⟨by rw[he,hv],h3⟩
 intro x hx x1 Sn;obtain⟨e1,e2⟩:=zs1 h c0 c1;have hr:=h.rd (bs:=[]) Qs;refine⟨hr.c.ix Y9 c0 c1,zpg h Qs c0 c1 Qd,hr.c.ix Y9 c0 c1,zpg e1 Qs c0 (by simpa using c1) Qd,λwr Rg=>⟨by simp[Qa,Rb,RM],((Mv.start h).Sv e2 (Du.trans Du)).R5 Rg⟩⟩
def z3c{W:Q7}{g c:Int}{s:KD}:Rw W g c s={ W with IE:=W.IE.set g.toNat { gi W.IE g with IH:=(gi W.IE g).IH.set c.toNat s } }:=rfl
def JZ{W W':Q7}{m:MW}(h:Fr W W'):Qa W' m=Qa W m:=by
 simp only[Qa,h.n,h.c,h.t,h.g.len]
def zky{gs:List Zb}(ht:Yh gs){k:Int}(hu:Q6 gs k):P7 (gs.length+1) gs k 0=dep 3 gs k:=by
 have hp:∀g:Int,g≠0->Q6 gs g->Q6 gs (gi gs g).IG:=λg hz hu=>(Y3 ht hu hz).1
 have hd:0<=dep 3 gs k/\dep 3 gs k<=3:=by
  by_cases hz:k=0
  ·subst hz;rw[ZS];omega
  ·obtain⟨_,_,_,d,e,_,hd⟩:=Y3 ht hu hz;omega
 have hm:=GT gs 3 gs.length k hd.1 (by rw[ht.len];omega);rw[FM hp _ _ _ hu,hm,B' Qo];omega
def zd6{F K:Int}{n:Nat}(rP:SF F K W)(h:Zj n base w W m)(hk:F+Qi<=K){k c:Int}(hu:Q6 W.IE k)(hn:n=8)(c0:0<=c)(c1:c<(W.IF.length:Int))(s:KD) :
  Zj n base (Rx w (m.ms k.toNat).sO (Int.toNat c*5) (T4 s)) (Rw W k c s) m:=by
 obtain⟨u0,u1,_⟩:=Q5.1 hu;have hl:=rP.w.a.gl;have hs:=rP.w.a.sl hu;exact h.CE4 u0 Qo c0 Qo (j:=0) (vs:=T4 s) (x:=s) (by simp[T4]) (by simp[T4])
def H9{F K:Int}(h:Zj 8 base w W m)(rP:SF F K W)(hk:F+Qi<=K)(hK:K<=1000000000000000000){c:Int}(c0:0<=c)(c1:c<(W.IF.length:Int)) :
  Cz Vq #[.agg (Qa W m).toArray,I c] w λe w'=>e=.returned (.agg (Qa W m).toArray)/\Mv 8 base [] w m w' (Qw W c) m:=by
 refine(zcz _ _ _ _ _ _ _ _ _ _ c (R:=λv w'=>v=.agg (Qa W m).toArray/\Mv 8 base [] w m w' (Qw W c) m) ?_).mono λe w' ⟨v,he,hv,h3⟩=>⟨by rw[he,hv],h3⟩
 intro x hx x1 Sn;have cZ:=rP.w.a.gl
 refine⟨λvs w1=>∃(j:Nat),vs=[I (3-(j:Int))]/\j<=3/\Mv 8 base [x,x1] w m w1 (ZP W c j) m,
  λvs _=>(Y4 0 vs).toNat,λwr hx0 _=>⟨0,rfl,Qd,(Mv.two h hx Sn).R5 hx0⟩,?_⟩
 rintro d wv hs ⟨j,he,j3,hM⟩;obtain⟨hS,hO⟩:=HM rP hk c0 c1 j j3;have hN:ZP W c (j+1)=Z4 (ZP W c j) c (3-(j:Int)) 8:=rfl;have hE:j=3->ZP W c j=Qw W c:=λe=>by rw[e];rfl
 generalize ZP W c j=W1 at hM hS hO hN hE;simp only[I4,I5,true_and,and_true] at he;refine⟨λhd=>?_,λhd=>?_⟩
 ·have hd:=Ot hd;have yZ:c<(W1.IF.length:Int):=by rw[hO.c];exact c1
  refine Jh W.IE.length 1 rfl (λk w2=>1<=k/\k<=8/\Mv 8 base [x,x1] w m w2 (Z4 W1 c d k) m) (λw2 Rg _=>⟨I7 _,Qd,?_⟩) λk w2 We ⟨hk1,hk8,WM⟩=>?_
  ·have e:Z4 W1 c d 1=W1:=zux Qo;rw[e];exact hM.step Rg
  obtain⟨sJ,vB⟩:=FN hS hk (c:=c) (d:=d) Qo c0 yZ k hk8;have hf2:=hO.trans vB;have e0:Qa (Z4 W1 c d k) m=Qa W m:=JZ hf2.fr;have hr:=WM.rd;have AA6:(Z4 W1 c d k).IE.length=W.IE.length:=hf2.g.len;have Ac1:(Z4 W1 c d k).IF.length=W.IF.length:=by rw[hf2.c]
  have Wg:Z4 W1 c d (k+1)=if (gi (Z4 W1 c d k).IE (k:Int)).IW=true/\dep 3 (Z4 W1 c d k).IE (k:Int)=d then Rw (Z4 W1 c d k) (k:Int) c (SC (Z4 W1 c d k) (k:Int) c) else Z4 W1 c d k:=rfl;have hN8:k=8->ZP W c (j+1)=Z4 W1 c d k:=λe=>by rw[hN,<-he,e]
  generalize Z4 W1 c d k=W2 at WM sJ vB hf2 e0 hr AA6 Ac1 Wg hN8;refine⟨λIV=>?_,λRW=>?_⟩
  ·have IV:=Ot IV;have Re:(k:Int)<(W2.IE.length:Int):=Qo;have hdp:=Ms (g:=(k:Int)) (c:=m.gC) hr.g (by have:=ZW;omega);rw[AA6] at hdp;refine⟨by have:=hr.g.ix (i:=(k:Int)) Qo Re;rwa[AA6] at this,(gi W2.IE (k:Int)).IW,hr.g.IW Qo Re,_,λ_=>hdp,λg=>?_,λg=>?_⟩
   ·refine⟨⟨Qo,Qo⟩,λw3 Rl _=>Qx Qo ⟨Qo,Qo,?_⟩⟩;rw[Wg,B']
    ·exact WM.step Rl
    ·rintro⟨h1,h2⟩;have hu:Q6 W2.IE (k:Int):=Q5.2 ⟨Qo,Re,h1⟩;have:=zky sJ.w.a.tree hu;rw[AA6] at this;rw[this,h1,h2] at g;simp at g
   ·simp only[H',I6,bne_eq_false_iff_eq] at g;have hu:Q6 W2.IE (k:Int):=Q5.2 ⟨Qo,Re,g.1⟩;have hdk:=zky sJ.w.a.tree hu;rw[AA6,g.2] at hdk;rw[C' ⟨g.1,hdk.symm⟩] at Wg;have hsl:=sJ.w.a.sl hu;have hz:(k:Int)≠0:=Qo;have hp:=sJ.w.a.up hu hz;obtain⟨p0,p1,_⟩:=Q5.1 hp;have hpl:=sJ.w.a.sl hp;have s1:=sJ.w.s _ c hu c0 Qo;have s2:=sJ.w.s _ c hp c0 Qo;have lc:=ZB ((Qb W2 (k:Int) c).v-(Qb W2 (gi W2.IE (k:Int)).IG c).IL) (Qb W2 (k:Int) c).w;have lm:=ZH (Qb W2 (k:Int) c).w;have Wx:Ix m.gO W.IE.length (k:Int):=by have:=hr.g.ix (i:=(k:Int)) Qo Re;rwa[AA6] at this
    have AY3:=(hr.g.IH (k:Int) Qo Re).ix YM c0 Qo;have A81:=Pw (g:=(k:Int)) hr sJ.w.a c0 Qo;have CB7:=LD (g:=(k:Int)) hr sJ.w.a hu c0 Qo;rw[e0] at A81 CB7;have T':=λs=>zd6 sJ WM.own hk hu rfl c0 (c:=c) Qo s
    have BY0:∀{vs:List Va},Q0 (QN 8 m) w2 (Rx w2 (m.ms k).sO (Int.toNat c*5) vs):=λ{vs}=>zmj Qo
    have hwr:=z6l WM.own WM.nb (i:=(k:Int)) Qo Qo c0 Qo (j:=0) (k:=5) Qd;simp only[Ig] at T' hwr AY3;refine⟨Wx,_,_,_,hr.g.Rn Qo Re,AY3,_,_,_,_,_,(hr.g.IH (k:Int) Qo Re) c c0 Qo,λb2 cH=>⟨QJ W2 (k:Int) c,A81,Jm W2 (k:Int) c,λ_=>CB7,λg2=>?_,λg2=>?_⟩⟩
    ·have hss:SC W2 (k:Int) c=⟨(Qb W2 (k:Int) c).IL,QJ W2 (k:Int) c && !Jm W2 (k:Int) c,(Qb W2 (gi W2.IE (k:Int)).IG c).IL+Y6 ((Qb W2 (k:Int) c).v-(Qb W2 (gi W2.IE (k:Int)).IG c).IL) (Qb W2 (k:Int) c).w,(Qb W2 (k:Int) c).w,(Qb W2 (k:Int) c).sum⟩:=by
      unfold SC;rw[C']
      simpa[Qb] using g2
     have T':=T' (SC W2 (k:Int) c);rw[hss] at T';have AR2:Ix m.gO W.IE.length (gi W2.IE (k:Int)).IG:=by have:=hr.g.ix p0 p1;rwa[AA6] at this
     refine⟨Wx,_,hr.g.IG Qo Re,AR2,_,_,_,hr.g.Rn p0 p1,(hr.g.IH _ p0 p1).ix YM c0 Qo,_,zm0.f (hr.g.IH _ p0 p1) c0 Qo (j:=0) rfl,⟨by show _<=(Qb W2 (k:Int) c).v-(Qb W2 (gi W2.IE (k:Int)).IG c).IL;omega,by show (Qb W2 (k:Int) c).v-(Qb W2 (gi W2.IE (k:Int)).IG c).IL<=_;omega⟩,_,Kx,⟨?_,?_⟩,Wx,_,_,_,hr.g.Rn Qo Re,AY3,hwr,⟨Qo,Qo⟩,λw3 Rl _=>Qx Qo ⟨Qo,Qo,?_⟩⟩
     ·show -9223372036854775808<=(Qb W2 (gi W2.IE (k:Int)).IG c).IL+Y6 ((Qb W2 (k:Int) c).v-(Qb W2 (gi W2.IE (k:Int)).IG c).IL) (Qb W2 (k:Int) c).w;omega
     ·show (Qb W2 (gi W2.IE (k:Int)).IG c).IL+Y6 ((Qb W2 (k:Int) c).v-(Qb W2 (gi W2.IE (k:Int)).IG c).IL) (Qb W2 (k:Int) c).w<=9223372036854775807;omega
     ·rw[Wg,hss];exact(WM.Sv T' BY0).step Rl
    ·have hss:SC W2 (k:Int) c=⟨(Qb W2 (k:Int) c).IL,QJ W2 (k:Int) c && !Jm W2 (k:Int) c,(Qb W2 (k:Int) c).v,(Qb W2 (k:Int) c).w,(Qb W2 (k:Int) c).sum⟩:=by
      unfold SC;rw[B'];intro h1;rw[h1.1,show (gi (gi W2.IE (k:Int)).IH c).on=false from h1.2] at g2;cases g2
     have T':=T' (SC W2 (k:Int) c);rw[hss] at T';refine⟨Wx,_,_,_,hr.g.Rn Qo Re,AY3,hwr,⟨Qo,Qo⟩,λw3 Rl _=>Qx Qo ⟨Qo,Qo,?_⟩⟩;rw[Wg,hss];exact(WM.Sv T' BY0).step Rl
  ·have RW:=Ou RW;have hN8:=hN8 Qo;refine⟨⟨Qo,Qo⟩,λw3 Rl _=>⟨⟨j+1,?_,Qo,?_⟩,?_⟩⟩
   ·rw[show d-1=3-((j+1:Nat):Int) by omega]
   ·rw[hN8];exact WM.step Rl
   ·show (d-1).toNat<d.toNat;omega
 ·have hd:=Ou hd;rw[<-hE Qo];exact λw2 Rg=>⟨rfl,(hM.step Rg).close⟩
end
def OM{n:Nat}{m:MW}{i:Nat}{p:MG}:∀x∈QN n (GB m i p),x∈QN n m\/x∈Qu p:=λx hx=>by
 rcases Ax hx with h|h|h|⟨k,hk,h⟩
 ·exact .inl (zeb h)
 ·exact .inl (zed h)
 ·exact .inl (zec h)
 ·simp only[GB] at h
  split at h
  ·exact .inr h
  ·exact .inl (Uv hk h)
def Mv.swap{n base:Nat}{bs:List Nat}{w0 w w':Wo}{W W':Q7}{m0 m m':MW}(h:Mv n base bs w0 m0 w W m)(k:Zj n base w' W' m')(hx:Q0 (QN n m) w w')(hm:m'={ m with ms:=m'.ms })(BY0:∀x∈QN n m',x∈QN n m\/(w0.heap.size<=x/\x∉bs)):Mv n base bs w0 m0 w' W' m':=
 ⟨k,h.ext.fresh hx λx hm=>(h.sub x hm).symm,λx hx=>by
  rcases BY0 x hx with h1|h1
  ·exact h.sub x h1
  ·exact .inr h1.1,by rw[hm,h.hd],λx hx=>by
  rcases BY0 x hx with h1|h1
  ·exact h.nb x h1
  ·exact h1.2,h.new⟩
section
variable {base:Nat}{W:Q7}{m:MW}{w:Wo}
def q9{K:Int}(h:Zj 8 base w W m)(rP:SW K W)(hK:0<=K){c:Int}(c0:0<=c)(c1:c<(W.IF.length:Int)) :
  Cz OC #[.agg (Qa W m).toArray,I c] w λe w'=>e=.returned (.agg (Qa W m).toArray)/\Mv 8 base [] w m w' (Z3 W c) m:=by
 refine(CM _ _ _ _ _ _ _ _ _ _ c (R:=λv w'=>v=.agg (Qa W m).toArray/\Mv 8 base [] w m w' (Z3 W c) m) ?_).mono λe w' ⟨v,he,hv,h3⟩=>⟨by rw[he,hv],h3⟩
 intro x hx x1 Sn;have cZ:=rP.a.gl;refine Jh W.IE.length 0 rfl (λk w2=>k<=8/\Mv 8 base [x,x1] w m w2 (QD W c k) m) (λw2 Rg _=>⟨Qd,(Mv.two h hx Sn).R5 Rg⟩) λk w2 We ⟨hk8,WM⟩=>?_
 obtain⟨sJ,vB⟩:=Oj rP hK c0 c1 k hk8;have e0:Qa (QD W c k) m=Qa W m:=JZ vB.fr;have hr:=WM.rd;have AA6:(QD W c k).IE.length=W.IE.length:=vB.g.len;have Ac1:(QD W c k).IF.length=W.IF.length:=by rw[vB.c]
 have Wg:QD W c (k+1)=if (gi (QD W c k).IE (k:Int)).IW=true/\Sw (QD W c k) (k:Int) c 20/\S3 (QD W c k) (k:Int) c 20>(Qb (QD W c k) (k:Int) c).IL then Rw (QD W c k) (k:Int) c (Kn (QD W c k) (k:Int) c) else QD W c k:=rfl;have hN8:k=8->Z3 W c=QD W c k:=λe=>by rw[e];rfl
 generalize QD W c k=W2 at WM sJ vB e0 hr AA6 Ac1 Wg hN8;refine⟨λIV=>?_,λRW=>?_⟩
 ·have IV:=Ot IV;have Re:(k:Int)<(W2.IE.length:Int):=Qo;have Wx:Ix m.gO W.IE.length (k:Int):=by have:=hr.g.ix (i:=(k:Int)) Qo Re;rwa[AA6] at this
  refine⟨Wx,(gi W2.IE (k:Int)).IW,hr.g.IW Qo Re,λg=>?_,λg=>?_⟩
  ·refine⟨⟨Qo,Qo⟩,λw3 Rl _=>Qx Qo ⟨Qo,?_⟩⟩;rw[Wg,B' (λh1=>by rw[h1.1] at g;cases g)];exact WM.step Rl
  ·have g:(gi W2.IE (k:Int)).IW:=by simpa using g
   have hu:Q6 W2.IE (k:Int):=Q5.2 ⟨Qo,Re,g⟩;have hsl:=sJ.a.sl hu;have hle:=H8 (g:=(k:Int)) hr sJ.a c0 Qo;rw[e0] at hle;have hss:=hr.g.IH (k:Int) Qo Re;have AY3:=hss.ix YM c0 Qo;have hwr:=z6l WM.own WM.nb (i:=(k:Int)) Qo Qo c0 Qo (j:=0) (k:=1) Qd;have T':=WM.own.CE4 (i:=(k:Int)) Qo Qo c0 Qo (j:=0) (vs:=[I (S3 W2 (k:Int) c 20)]) (x:=Kn W2 (k:Int) c) rfl Qs;rw[<-z3c] at T';have BY0:Q0 (QN 8 m) w2 (Rx w2 (m.ms k).sO (Int.toNat c*5+0) [I (S3 W2 (k:Int) c 20)]):=zmj Qo;simp only[Ig] at hwr AY3 T';refine⟨_,_,hle,λ_=>Wx,_,_,_,λ_=>hr.g.Rn Qo Re,λ_=>AY3,_,λ_=>zm0.f hss c0 Qo (j:=0) rfl,λg2=>?_,λg2=>?_⟩
   ·refine⟨Wx,_,_,_,hr.g.Rn Qo Re,AY3,hwr,⟨Qo,Qo⟩,λw3 Rl _=>Qx Qo ⟨Qo,?_⟩⟩;rw[Wg,C' ⟨g,by simpa[Qb] using g2⟩];exact(WM.Sv T' BY0).step Rl
   ·refine⟨⟨Qo,Qo⟩,λw3 Rl _=>Qx Qo ⟨Qo,?_⟩⟩;rw[Wg,B']
    ·exact WM.step Rl
    ·rintro⟨_,h1,h2⟩;rw[h1,show decide (S3 W2 (k:Int) c 20>(gi (gi W2.IE (k:Int)).IH c).IL)=true from Ih h2] at g2;cases g2
 ·have RW:=Ou RW;rw[hN8 Qo];exact λw3 Rl=>⟨rfl,(WM.step Rl).close⟩
def G6.Cn7{bs:List Nat}{w:Wo}{gs:List Zb}{ms:Nat->MG}{o:OA}(h:G6 bs w o gs ms){i:Int}(h0:0<=i)(h1:i<(gs.length:Int)):Q1 bs w o (Int.toNat i*14+8+3) [.slice (ms i.toNat).lO (gi gs i).IM.locals.length (ms i.toNat).lC]:=(h.cells i h0 h1).get 11 _ rfl
def G6.quo{bs:List Nat}{w:Wo}{gs:List Zb}{ms:Nat->MG}{o:OA}(h:G6 bs w o gs ms){i:Int}(h0:0<=i)(h1:i<(gs.length:Int)):Q1 bs w o (Int.toNat i*14+8+0) [I (gi gs i).IM.I']:=(h.cells i h0 h1).get 8 _ rfl
def Kz(m:MG)(p:MG):MG:=⟨p.lO,p.lC,p.dO,p.dC,m.sO,m.sC⟩
def OK{m p:MG}:∀x∈Qu (Kz m p),x∈YD p\/x∈Qu m:=λx hx=>by
 simp only[Qu,Kz,YD,Im] at hx ⊢;rcases hx with (h|h)|h
 ·exact .inl (.inl h)
 ·exact .inl (.inr h)
 ·exact .inr (.inr h)
def Zj.Bs6{n:Nat}(h:Zj n base w W m){i:Int}(h0:0<=i)(hi:i<(n:Int)){b:Ue}{p:MG}(hb:Zv base w b p)(hn:∀x∈YD p,x∉QN n m) :
  Zj n base (Rx w m.gO (Int.toNat i*14+8) (ZD b p)) (RZ W i b) (GB m i.toNat (Kz (m.ms i.toNat) p)):=by
 have hm:=h.each h0 hi;refine h.B53 h0 hi (g:={ gi W.IE i with IM:=b }) (p:=Kz (m.ms i.toNat) p) ⟨hb.loc,hb.RE,hm.shl⟩ (λx hx=>?_) rfl (by simp[ZD]);rcases OK x hx with h1|h1
 ·exact .inl (hn x h1)
 ·exact .inr h1
def zhk{F K:Int}(h:Zj 8 base w W m)(rP:SF F K W)(AC9:base<=w.heap.size) :
  Cz Me #[.agg (Qa W m).toArray] w λe w'=>∃m',e=.returned (.agg (Qa W m).toArray)/\Mv 8 base [] w m w' (Mk W) m':=by
 refine(zg4 _ _ _ _ _ _ _ _ _ _ (R:=λv w'=>∃m',v=.agg (Qa W m).toArray/\Mv 8 base [] w m w' (Mk W) m') ?_).mono λe w' ⟨v,he,m',hv,h3⟩=>⟨m',by rw[he,hv],h3⟩
 intro x hx x1 Sn;have cZ:=rP.w.a.gl;have Cf0:=rP.w.a.c2;have A90:=YF hx Sn;refine Jh W.IE.length 0 rfl (λk w2=>k<=8/\∃m2,Mv 8 base [x,x1] w m w2 (Y8 W k) m2) (λw2 Rg _=>⟨Qd,m,(Mv.two h hx Sn).R5 Rg⟩) λk w2 We ⟨hk8,m2,WM⟩=>?_
 obtain⟨sJ,vB⟩:=Vd rP k hk8;have AA6:(Y8 W k).IE.length=W.IE.length:=vB.g.len;have Ac1:(Y8 W k).IF.length=W.IF.length:=by rw[vB.c]
 have Wg:Y8 W (k+1)=if (gi (Y8 W k).IE (k:Int)).IW=true/\(gi (Y8 W k).IE (k:Int)).IM.I'≠0 then Y5 (Y8 W k) (k:Int) (Y8 W k).IF.length else Y8 W k:=rfl;have hN8:k=8->Mk W=Y8 W k:=λe=>by rw[e];rfl
 generalize Y8 W k=W2 at WM sJ vB AA6 Ac1 Wg hN8;have hmg:m2.gO=m.gO:=by rw[WM.hd]
 have hr:=WM.rd;refine⟨λIV=>?_,λRW=>?_⟩
 ·have IV:=Ot IV;have Re:(k:Int)<(W2.IE.length:Int):=Qo;have Wx:Ix m.gO W.IE.length (k:Int):=by have:=hr.g.ix (i:=(k:Int)) Qo Re;rwa[AA6,hmg] at this
  have hru:=hr.g.IW (i:=(k:Int)) Qo Re;have hrq:=hr.g.quo (i:=(k:Int)) Qo Re;rw[hmg] at hru hrq;refine⟨Wx,(gi W2.IE (k:Int)).IW,hru,λ_=>Wx,_,λ_=>hrq,λg=>?_,λg=>?_⟩
  ·refine⟨⟨Qo,Qo⟩,λw3 Rl _=>Qx Qo ⟨Qo,m2,?_⟩⟩;rw[Wg,B']
   ·exact WM.step Rl
   ·rintro⟨h1,h2⟩;rw[h1] at g;simp[h2] at g
  ·simp only[H',I6,beq_eq_false_iff_ne] at g;have hu:Q6 W2.IE (k:Int):=Q5.2 ⟨Qo,Re,g.1⟩;rw[C' ⟨g.1,g.2⟩] at Wg;refine Jh W.IF.length 0 rfl (λc w3=>c<=W.IF.length/\∃m3,Mv 8 base [x,x1] w m w3 (Y5 W2 (k:Int) c) m3) (λw3 Rl _=>⟨Ic _,m2,WM.step Rl⟩) λc w3 jS ⟨hc,m3,jC⟩=>?_
   obtain⟨hS3,hO3,hq3⟩:=H3 sJ hu g.2 c Qo;have Cg2:(Y5 W2 (k:Int) c).IE.length=W.IE.length:=by rw[hO3.g.len,AA6]
   have Ce9:(Y5 W2 (k:Int) c).IF.length=W.IF.length:=by rw[hO3.c,Ac1]
   have AM2:Y5 W2 (k:Int) (c+1)=if gi (gi (Y5 W2 (k:Int) c).IE (k:Int)).IM.locals (c:Int)>0/\QJ (Y5 W2 (k:Int) c) (k:Int) (c:Int)=false then RZ (Y5 W2 (k:Int) c) (k:Int) (YH (gi (Y5 W2 (k:Int) c).IE (k:Int)).IM (c:Int)) else Y5 W2 (k:Int) c:=rfl;have hN3:c=W.IF.length->Y8 W (k+1)=Y5 W2 (k:Int) c:=λe=>by rw[Wg,Ac1,e]
   have e3:Qa (Y5 W2 (k:Int) c) m3=Qa W m:=jC.Aa0 (by rw[hO3.n,vB.n]) Ce9 (by rw[hO3.t,vB.t]) Cg2;have hu3:Q6 (Y5 W2 (k:Int) c).IE (k:Int):=by rw[hO3.g.cD];exact hu
   generalize Y5 W2 (k:Int) c=W3 at jC hS3 hO3 hq3 Cg2 Ce9 AM2 hN3 e3 hu3;have Ci3:m3.gO=m.gO:=by rw[jC.hd]
   have hr3:=jC.rd;refine⟨λB12=>?_,λA87=>?_⟩
   ·have B12:=Ot B12;obtain⟨u0,u1,rO⟩:=hS3.w.a.u hu3;obtain⟨hb,hbl,_⟩:=rO.IM hq3;have Ao4:(k:Int)<(W3.IE.length:Int):=Qo;have hrl:=hr3.g.Cn7 (i:=(k:Int)) Qo Ao4;have hrb:=hr3.g.IM (i:=(k:Int)) Qo Ao4;rw[Ci3] at hrl hrb;have hLo:=hr3.g.locals (k:Int) Qo Ao4;have hDo:=hr3.g.RE (k:Int) Qo Ao4;have A81:=Pw (g:=(k:Int)) (c:=(c:Int)) hr3 hS3.w.a Qo Qo;rw[e3] at A81;refine⟨Wx,_,_,_,hrl,hLo.ix XP Qo Qo,_,hLo (c:Int) Qo Qo,_,λ_=>A81,λg3=>?_,λg3=>?_⟩
    ·simp only[A',Ij,ID] at g3;rw[C' g3] at AM2;refine⟨Wx,_,_,_,_,_,_,_,_,_,hrb,λRD Rl dX=>?_⟩;have dW:=jC.step Rl;have hr4:=dW.rd0;refine I3 (Ve (op:=⟨3,(c:Int),0⟩) hb (hr4.g.locals (k:Int) Qo Ao4) (hr4.g.RE (k:Int) Qo Ao4)) ?_;rintro e RO ⟨p,he,hO,hy⟩
     have gJ:ZL (gi W3.IE (k:Int)).IM ⟨3,(c:Int),0⟩=(YH (gi W3.IE (k:Int)).IM (c:Int),0):=by
      unfold ZL;rw[B' (show ¬(3:Int)=4 by decide),B' (by rw[Qv.2 (by show 0<=(c:Int)/\(c:Int)<=_;omega)];decide),B' (show ¬(3:Int)=1 by decide),B' (show ¬(3:Int)=2 by decide),C' rfl]
     rw[gJ] at he hO
     dsimp only at he hO
     have tV:=dW.R5 hy;have hbs:base<=RD.heap.size:=by have:=dW.ext.size;omega
     have hOb:∀y∈YD p,RD.heap.size<=y:=λy hy=>(hO.lt y hy).1
     have BX7:=tV.own.Bs6 (i:=(k:Int)) Qo Qo (hO.mono hbs) (λy hy hm=>by have:=hOb y hy;have:=(dW.own.lt y hm).2;omega);have hwr:=zru tV.own tV.nb (i:=(k:Int)) Qo Qo (j:=8) (k:=5) Qd;have hsz:=dW.ext.size
     have pY:=tV.swap BX7 A3 rfl λy hy=>by
      rcases OM y hy with h1|h1
      ·exact .inl h1
      ·rcases OK y h1 with h2|h2
       ·have:=hOb y h2;exact .inr ⟨Qo,λhm=>by have:=dX y hm;omega⟩
       ·exact .inl (Uv Qo h2)
     rw[Ci3] at hwr pY;refine⟨_,_,_,_,_,_,_,_,_,_,he,Qg hy dX,λb2 cH=>⟨Wx,hwr,⟨Qo,Qo⟩,λw5 Sx _=>Qx (w1:=w3) Qo ⟨Qo,GB m3 (Int.toNat (k:Int)) (Kz (m3.ms (Int.toNat (k:Int))) p),?_⟩⟩⟩;rw[AM2];exact pY.step Sx
    ·refine⟨⟨Qo,Qo⟩,λw5 Sx _=>Qx Qo ⟨Qo,m3,?_⟩⟩;rw[AM2,B']
     ·exact jC.step Sx
     ·rintro⟨h1,h2⟩;rw[h2,Ih h1] at g3;cases g3
   ·have A87:=Ou A87;refine⟨⟨Qo,Qo⟩,λw5 Sx _=>Qx Qo ⟨Qo,m3,?_⟩⟩;rw[hN3 Qo];exact jC.step Sx
 ·have RW:=Ou RW;rw[hN8 Qo];exact λw3 Rl=>⟨m2,rfl,(WM.step Rl).close⟩
end
section
variable {base:Nat}{W:Q7}{m:MW}{w:Wo}
def Ly{W W':Q7}(h:Fr W W'):W'.IF.length=W.IF.length/\W'.IJ.length=W.IJ.length/\W'.IE.length=W.IE.length:=⟨h.c,by rw[h.t],h.g.len⟩
def zqe{n:Nat}{bs:List Nat}{w0 w:Wo}{W0 W:Q7}{m0 m:MW}(h:Mv n base bs w0 m0 w W m)(hf:Fr W0 W):Qa W m=Qa W0 m0:=h.Aa0 hf.n hf.c (by rw[hf.t]) hf.g.len
def QB{K:Int}(h:Zj 8 base w W m)(rP:SW K W)(hK0:0<=K)(hK:K<=100000000000000000)(AC9:base<=w.heap.size) :
  Cz Qr #[.agg (Qa W m).toArray] w λe w'=>∃m',e=.returned (.agg (Qa (Qf W) m').toArray)/\Mv 8 base [] w m w' (Qf W) m':=by
 refine(CN _ _ _ _ _ _ _ _ _ _ (R:=λv w'=>∃m',v=.agg (Qa (Qf W) m').toArray/\Mv 8 base [] w m w' (Qf W) m') ?_).mono λe w' ⟨v,he,m',hv,h3⟩=>⟨m',by rw[he,hv],h3⟩
 intro x hx x1 Sn;have cZ:=rP.a.gl;have Cf0:=rP.a.c2;have hm9:=ZW;refine⟨λvs w1=>∃(k:Nat),vs=I (k:Int)::Qa W m/\k<=W.IF.length/\Mv 8 base [x,x1] w m w1 (Zr W k) m,Zp W.IF.length 0,λw1 hx0 _=>⟨0,rfl,Ic _,(Mv.two h hx Sn).R5 hx0⟩,?_⟩;rintro c1 l RA Rz RQ RF RL RP RG RH RJ RO We ⟨k,he,hk,hM⟩;obtain⟨hS,hO⟩:=VY (F:=K) (K:=K+Qi) (rP.sf.mono (I2 _) (by simp only[Qi];omega)) (I2 _) k hk;have Wg:Zr W (k+1)=Qw (Zr W k) (k:Int):=rfl;have AA5:k=W.IF.length->Zr W W.IF.length=Zr W k:=λe=>by rw[e]
 have e0:=zqe hM hO.fr;obtain⟨n1,n2,n3⟩:=Ly hO.fr;simp only[Qa,I4,I5,Iv,true_and,and_true] at he;obtain⟨rfl,rfl,⟨rfl,rfl,rfl⟩,⟨rfl,rfl,rfl⟩,rfl,rfl,rfl⟩:=he;generalize Zr W k=W1 at hM hS hO Wg AA5 e0 n1 n2 n3;refine⟨λIV RD Rl jS=>?_,λRW S5 Sx gQ=>?_⟩
 ·have IV:=Ot IV;have jC:=hM.step Rl;have RI:=H9 jC.own hS Qo (by simp only[Qi];omega) (c:=(k:Int)) Qo Qo;rw[e0] at RI;refine I3 RI ?_;rintro e Si ⟨he,hy⟩;refine⟨_,_,_,_,_,_,_,_,_,_,he,jC.kept hy jS,⟨Qo,Qo⟩,λRN W8 _=>⟨⟨k+1,rfl,Qo,?_⟩,?_⟩⟩
  ·rw[Wg];exact(jC.call hy jS).step W8
  ·simp only[Zp,Xp,Y4,Ie];omega
 ·have RW:=Ou RW;have hkk:k=W.IF.length:=Qo;have AA5:=AA5 hkk;have tV:=hM.step Sx;have hb5:base<=S5.heap.size:=by have:=tV.ext.size;omega
  have RI:=zhk tV.own hS hb5;rw[e0] at RI;refine I3 RI ?_;rintro e2 bZ ⟨m4,bS,SX⟩;obtain⟨hS4,hO4⟩:=Vd hS 8 Qd;have pY:=tV.call SX gQ;have T':Qf W=Xb (Mk W1) W.IF.length:=by unfold Qf;rw[AA5]
  have hf4:Fr W (Mk W1):=hO.fr.trans hO4.fr;have Cd9:SW (K+Qi) (Mk W1):=hS4.w;have Ch5:=Ly hf4;generalize Mk W1=W4 at pY T' hf4 Cd9 Ch5;refine⟨_,_,_,_,_,_,_,_,_,_,bS,tV.kept SX gQ,λvs w1=>∃(k:Nat) (m1:MW),vs=I (k:Int)::Qa W m/\k<=W.IF.length/\Mv 8 base [x,x1] w m w1 (Xb W4 k) m1,Zp W.IF.length 0,λw1 hx0 _=>⟨0,m4,rfl,Ic _,pY.step hx0⟩,?_⟩;rintro c3 l RA Rz RQ RF RL RP RG RH RJ fS hs7 ⟨k,m7,he,hk,rU⟩;obtain⟨hS7,hf7⟩:=Lf Cd9 (by simp only[Qi];omega) k Qo;have Ac3:Xb W4 (k+1)=Xc (Xb W4 k) (k:Int):=rfl;have Ac5:k=W.IF.length->Qf W=Xb W4 k:=λe=>by rw[T',e]
  have hfW:=hf4.trans hf7;have e7:=zqe rU hfW;obtain⟨q1,q2,q3⟩:=Ly hfW;simp only[Qa,I4,I5,Iv,true_and,and_true] at he;obtain⟨rfl,rfl,⟨rfl,rfl,rfl⟩,⟨rfl,rfl,rfl⟩,rfl,rfl,rfl⟩:=he;generalize Xb W4 k=W7 at rU hS7 hf7 Ac3 Ac5 hfW e7 q1 q2 q3;refine⟨λIV WK qU hs9=>?_,λRW=>?_⟩
  ·have IV:=Ot IV;have hM9:=rU.step qU;have hk4:(k:Int)<=4:=Qo;have hKb:K+Qi+(k:Int)*Qi+Qi<=1000000000000000000:=by simp only[Qi];omega
   have yZ:(k:Int)<(W7.IF.length:Int):=Qo;have hSF:=hS7.sf.mono (F':=K+Qi+(k:Int)*Qi) (K':=K+Qi+(k:Int)*Qi+Qi) (I2 _) (by simp only[Qi];omega);have RI:=H9 hM9.own hSF (I2 _) hKb (c:=(k:Int)) Qo yZ;rw[e7] at RI;refine I3 RI ?_;rintro e4 jQ ⟨he4,jX⟩;obtain⟨hS8,hO8⟩:=KX hSF (I2 _) (c:=(k:Int)) Qo yZ;have hM8:=hM9.call jX hs9;refine⟨_,_,_,_,_,_,_,_,_,_,he4,hM9.kept jX hs9,λSl zH sA=>?_⟩;have BW7:=hM8.step zH;have dH:Xc W7 (k:Int)=if Tz (Z3 (Qw W7 (k:Int)) (k:Int)) (k:Int)=true then Rb (Z3 (Qw W7 (k:Int)) (k:Int)) (k:Int) else Z3 (Qw W7 (k:Int)) (k:Int):=rfl;have c2':(k:Int)<((Qw W7 (k:Int)).IF.length:Int):=by rw[hO8.c];exact yZ
   have Bz9:=q9 BW7.own hS8.w (by simp only[Qi];omega) (c:=(k:Int)) Qo c2';rw[JZ hO8.fr,e7] at Bz9;obtain⟨CO3,CO1⟩:=Oj hS8.w (by simp only[Qi];omega) (c:=(k:Int)) Qo c2' 8 Qd;refine I3 Bz9 ?_;rintro e5 zU ⟨he5,hy5⟩;have Ao2:=BW7.call hy5 sA;have BW6:=BW7.kept hy5 sA;have Bq3:Fr W (Z3 (Qw W7 (k:Int)) (k:Int)):=(hfW.trans hO8.fr).trans CO1.fr;have AC8:SW (K+Qi+(k:Int)*Qi+Qi) (Z3 (Qw W7 (k:Int)) (k:Int)):=CO3;generalize Z3 (Qw W7 (k:Int)) (k:Int)=W11 at Ao2 Bq3 AC8 dH;have e11:=zqe Ao2 Bq3;have CC6:m7.cO=m.cO/\m7.tO=m.tO:=by rw[rU.hd];exact⟨rfl,rfl⟩
   obtain⟨r1,r2,r3⟩:=Ly Bq3;have hr:=Ao2.rd;have c3':(k:Int)<(W11.IF.length:Int):=Qo;have zD:=AC8.cu (k:Int) Qo c3';have qT:=AC8.a.t;have Ch0:=hr.c.ix Y9 (i:=(k:Int)) Qo c3';have hrC:=hr.c.f (i:=(k:Int)) Qo c3' (j:=1) rfl
   have hT:(decide ((gi W11.IF (k:Int)).cur>=0))->0<=(gi W11.IF (k:Int)).cur/\(gi W11.IF (k:Int)).cur<(W11.IJ.length:Int):=λg=>by
    have:=Ot g;exact⟨this,Qo⟩
   have vL:∀g:(decide ((gi W11.IF (k:Int)).cur>=0)),PX [x,x1] YQ #[.agg (Qa W m).toArray,I (gi W11.IF (k:Int)).cur] zU (.bool (Zq W11 (gi W11.IF (k:Int)).cur)):=λg=>by
    have:=Vw hr AC8.a (hT g).1 (hT g).2 (λhs=>AC8.li (hT g).1 (hT g).2 hs)
    rwa[e11] at this
   rw[r1,CC6.1] at Ch0;rw[CC6.1] at hrC;refine⟨_,_,_,_,_,_,_,_,_,_,he5,BW6,Ch0,_,hrC,λg=>?_,(Q8 W11 (gi W11.IF (k:Int)).cur).R2,λg=>?_,Zq W11 (gi W11.IF (k:Int)).cur,λ_ g=>vL g,λg Sm wQ AD3=>?_,λg=>?_⟩
   ·have:=hr.t.ix QT (hT g).1 (hT g).2
    rwa[r2,CC6.2] at this
   ·have:=hr.t.f (hT g).1 (hT g).2 (j:=2) rfl
    rwa[CC6.2] at this
   ·have BW8:=Ao2.step wQ;have B00:=ZM BW8.own (c:=(k:Int)) Qo c3';rw[e11] at B00;refine I3 B00 ?_;rintro e6 fN ⟨he6,hy6⟩;have e12:=JZ (m:=m7) (Nf W11 (k:Int));rw[e11] at e12;rw[e12] at he6;refine⟨_,_,_,_,_,_,_,_,_,_,he6,BW8.kept hy6 AD3,⟨Qo,Qo⟩,λSy AD5 _=>⟨⟨k+1,m7,rfl,Qo,?_⟩,?_⟩⟩
    ·rw[Ac3,dH,C' (by unfold Tz;exact g)];exact(BW8.call hy6 AD3).step AD5
    ·simp only[Zp,Xp,Y4,Ie];omega
   ·refine⟨⟨Qo,Qo⟩,λSy AD5 _=>⟨⟨k+1,m7,rfl,Qo,?_⟩,?_⟩⟩
    ·rw[Ac3,dH,B' (by unfold Tz;rw[g];decide)];exact Ao2.step AD5
    ·simp only[Zp,Xp,Y4,Ie];omega
  ·have RW:=Ou RW;have Ac5:=Ac5 Qo;rw[Ac5];refine λw9 qU=>⟨m7,?_,(rU.step qU).close⟩
   rw[e7];rfl
end
def Yr{n:Int}{w:Wo}{bs:List Nat}:PX bs ZF #[I n] w (.bool (decide (n<=Qn))):=zia n λwr hx=>rfl
section
variable {W:Q7}{m:MW}{w:Wo}{bs:List Nat}
def KT(h:J6 bs w W m)(hl:UV W):PX bs U4 #[.agg (Qa W m).toArray] w (.bool (Ju (XV W/\G7 W))):=
 NQ _ _ _ _ _ _ _ _ _ _ λwr hx=>by
  have h:=(h.ext hx).less (cs:=[]) Qs;intro x hx;refine⟨_,Ur h hl.c hl.t hl.g hl.f,_,λ_=>Yr,λg=>Gg ?_,λg=>?_⟩
  ·rintro⟨wp,r⟩;rw[show Qp W=true from Qm.2 wp,show decide (W.now<=Qn)=true from Ih r.n] at g;cases g
  ·simp only[H',I6] at g;have wp:XV W:=Qm.1 g.1;have Cj0:=Ot g.2;have cZ:=wp.a.gl;have qT:=wp.a.t;have hcl:=wp.a.c2;refine YU W.IF.length 0 rfl (λk=>k<=W.IF.length/\∀c:Int,0<=c->c<(k:Int)->(gi W.IF c).busy<=Qn/\(gi W.IF c).idle<=Qn) ⟨Ic _,λc a b=>by omega⟩ λk ⟨hk,hI⟩=>⟨λIV=>?_,λRW=>?_⟩
   ·have IV:=Ot IV;refine⟨h.c.ix Y9 Qo IV,_,h.c.f Qo IV (j:=3) rfl,_,Yr,λ_=>h.c.ix Y9 Qo IV,_,λ_=>h.c.f Qo IV (j:=4) rfl,_,λ_=>Yr,λg2=>Gg ?_,λg2=>⟨⟨Qo,Qo⟩,Qy Qo ⟨Qo,λc a b=>?_⟩⟩⟩
    ·rintro⟨_,r⟩;have:=r.c (k:Int) Qo IV;rw[Ih this.1,Ih this.2] at g2;cases g2
    ·by_cases e:c=(k:Int)
     ·subst e;simp only[H',I6] at g2;exact⟨Ot g2.1,Ot g2.2⟩
     ·exact hI c a Qo
   have RW:=Ou RW;have hC:∀c:Int,0<=c->c<(W.IF.length:Int)->(gi W.IF c).busy<=Qn/\(gi W.IF c).idle<=Qn:=λc a b=>hI c a Qo
   clear hI;refine YU W.IJ.length 0 rfl (λk=>k<=W.IJ.length/\∀t:Int,0<=t->t<(k:Int)->(gi W.IJ t).v<=Qn/\(gi W.IJ t).sum<=Qn/\(gi W.IJ t).IW<=Qn) ⟨Ic _,λc a b=>by omega⟩ λk ⟨hk,hI⟩=>⟨λIV=>?_,λRW=>?_⟩
   ·have IV:=Ot IV;have Wx:=h.t.ix QT (i:=(k:Int)) Qo IV;refine⟨Wx,_,h.t.f Qo IV (j:=5) rfl,_,Yr,λ_=>Wx,_,λ_=>h.t.f Qo IV (j:=6) rfl,_,λ_=>Yr,λ_=>Wx,_,λ_=>h.t.f Qo IV (j:=7) rfl,_,λ_=>Yr,λg2=>Gg ?_,λg2=>⟨⟨Qo,Qo⟩,Qy Qo ⟨Qo,λc a b=>?_⟩⟩⟩
    ·rintro⟨_,r⟩;have:=r.t (k:Int) Qo IV;rw[Ih this.1,Ih this.2.1,Ih this.2.2] at g2;cases g2
    ·by_cases e:c=(k:Int)
     ·subst e;simp only[H',I6] at g2;exact⟨Ot g2.1.1,Ot g2.1.2,Ot g2.2⟩
     ·exact hI c a Qo
   have RW:=Ou RW;have hT:∀t:Int,0<=t->t<(W.IJ.length:Int)->(gi W.IJ t).v<=Qn/\(gi W.IJ t).sum<=Qn/\(gi W.IJ t).IW<=Qn:=λc a b=>hI c a Qo
   clear hI;refine YU W.IE.length 0 rfl (λk=>k<=W.IE.length/\∀j:Int,0<=j->j<(k:Int)->(gi W.IE j).sum<=Qn/\∀c:Int,0<=c->c<((gi W.IE j).IH.length:Int)->(Qb W j c).IL<=Qn/\(Qb W j c).v<=Qn/\(Qb W j c).sum<=Qn) ⟨Ic _,λc a b=>by omega⟩ λk ⟨hk,hI⟩=>⟨λIV=>?_,λRW=>?_⟩
   ·have IV:=Ot IV;have Wx:=h.g.ix (i:=(k:Int)) Qo IV
    have hsl:(gi W.IE (k:Int)).IH.length<=4:=by
     have:=wp.a.grp (k:Int) Qo Qo
     cases hu:(gi W.IE (k:Int)).IW with
     |true=>have:=(this.2 hu).len;omega
     |false=>have:=(this.1 hu).l;omega
    refine⟨Wx,_,(h.g.cells (k:Int) Qo IV).get 7 _ rfl,_,Yr,λg2=>Gg ?_,λg2=>?_⟩
    ·rintro⟨_,r⟩;have:=r.g (k:Int) Qo IV;rw[Ih this] at g2;cases g2
    have g2:(gi W.IE (k:Int)).sum<=Qn:=by simpa using g2
    have hrs:=h.g.IH (k:Int) Qo IV;refine YU (gi W.IE (k:Int)).IH.length 0 rfl (λq=>q<=(gi W.IE (k:Int)).IH.length/\∀c:Int,0<=c->c<(q:Int)->(Qb W (k:Int) c).IL<=Qn/\(Qb W (k:Int) c).v<=Qn/\(Qb W (k:Int) c).sum<=Qn) ⟨Ic _,λc a b=>by omega⟩ λq ⟨hq,hJ⟩=>⟨Wx,_,_,_,h.g.Rn Qo IV,λRe=>?_,λbK=>?_⟩
    ·have Re:=Ot Re;refine⟨Wx,_,_,_,h.g.Rn Qo IV,hrs.ix YM Qo Re,_,_,_,_,_,hrs (q:Int) Qo Re,λb1 dG=>⟨_,Yr,_,λ_=>Yr,_,λ_=>Yr,λg3=>Gg ?_,λg3=>⟨⟨Qo,Qo⟩,Qy Qo ⟨Qo,λc a b=>?_⟩⟩⟩⟩
     ·rintro⟨_,r⟩;have:=r.s (k:Int) (q:Int) Qo IV Qo Re;unfold Qb at this;rw[Ih this.1,Ih this.2.1,Ih this.2.2] at g3;cases g3
     ·by_cases e:c=(q:Int)
      ·subst e;simp only[H',I6] at g3;exact⟨Ot g3.1.1,Ot g3.1.2,Ot g3.2⟩
      ·exact hJ c a Qo
    ·have bK:=Ou bK;refine⟨⟨Qo,Qo⟩,Qy Qo ⟨Qo,λj a b=>?_⟩⟩
     by_cases e:j=(k:Int)
     ·subst e;exact⟨g2,λc a b=>hJ c a Qo⟩
     ·exact hI j a Qo
   ·have RW:=Ou RW;exact zmy ⟨wp,⟨Cj0,hC,hT,λj a b=>(hI j a Qo).1,λj c a b c0 c1=>(hI j a Qo).2 c c0 c1⟩⟩
def JP{t:Int}(h:J6 bs w W m)(hl:W.IJ.length<=maxLen):PX bs X2 #[.agg (Qa W m).toArray,I t] w (.bool (Yd W t)):=
 zic _ _ _ _ _ _ _ _ _ _ t λwr hx=>by
  have h:=(h.ext hx).less (cs:=[]) Qs;intro x hx;have:=Xu;refine⟨⟨Qo,Qo⟩,_,Qt,λg=>?_,_,λg=>?_,rfl⟩
  ·have:=Qv.1 g;exact h.t.ix QT Qo Qo
  ·have:=Qv.1 g;exact h.t.f Qo Qo (j:=0) rfl
end
structure Bq (base:Nat) (bs:List Nat) (w:Wo) (o:OA) (cap:Nat) (ps:List (Zb×MG)):Prop where
 own:Lo base w o cap ps
 nb:∀x∈QL o,x∉bs
 nm:∀i:Int,0<=i->i<(ps.length:Int)->∀x∈Qu (gi ps i).2,x∉bs
section
variable {base:Nat}{bs cs:List Nat}{w w':Wo}{o:OA}{cap:Nat}{ps:List (Zb×MG)}{b:Nat}
def Bq.lt(h:Bq base bs w o cap ps):(∀x∈QL o,base<=x/\x<w.heap.size)/\∀i:Int,0<=i->i<(ps.length:Int)->∀x∈Qu (gi ps i).2,base<=x/\x<w.heap.size:=⟨h.own.row.lt,λi a b=>(h.own.each i a b).lt⟩
def Bq.ext(h:Bq base bs w o cap ps)(hx:Q0 cs w w')(h1:∀x∈QL o,x∉cs)(h2:∀i:Int,0<=i->i<(ps.length:Int)->∀x∈Qu (gi ps i).2,x∉cs):Bq base bs w' o cap ps:=
 ⟨⟨h.own.row.ext hx h1,λi a b=>(h.own.each i a b).ext hx (h2 i a b),h.own.dj⟩,h.nb,h.nm⟩
def Bq.step(h:Bq base bs w o cap ps)(hx:Q0 bs w w'):Bq base bs w' o cap ps:=h.ext hx h.nb h.nm
def Bq.R5(h:Bq base bs w o cap ps)(hx:Q0 [] w w'):Bq base bs w' o cap ps:=h.ext hx Qs Qs
def Bq.add(h:Bq base bs w o cap ps)(hb:w.heap.size<=b):Bq base (bs++[b]) w o cap ps:=
 have key:∀x,x<w.heap.size->x∉bs->x∉bs++[b]:=λx hl hx hm=>by
  rcases Im.1 hm with hm|hm
  ·exact hx hm
  ·have:x=b:=by simpa using hm
   omega
 ⟨h.own,λx hx=>key x (h.lt.1 x hx).2 (h.nb x hx),λi a c x hx=>key x (h.lt.2 i a c x hx).2 (h.nm i a c x hx)⟩
def Bq.put(h:Bq base bs w o cap ps)(hx:Q0 bs w w')(hb:w.heap.size<=b):Bq base (bs++[b]) w' o cap ps:=⟨(h.step hx).own,(h.add hb).nb,(h.add hb).nm⟩
def Bq.sub(h:Bq base bs w o cap ps)(hs:∀x∈cs,x∈bs):Bq base cs w o cap ps:=⟨h.own,λx hx hm=>h.nb x hx (hs x hm),λi a c x hx hm=>h.nm i a c x hx (hs x hm)⟩
def Bq.nil(base:Nat)(bs:List Nat)(w:Wo):Bq base bs w none 0 []:=⟨⟨.inl ⟨rfl,rfl,rfl⟩,λi a b=>by simp at b;omega,λi j a b=>by simp at b;omega⟩,by simp[QL],λi a b=>by simp at b;omega⟩
def z33{α:Type}[Inhabited α]{l:List α}{x:α}{i:Int}(h0:0<=i)(h1:i<(l.length:Int)):gi (l++[x]) i=gi l i:=by
 obtain⟨k,rfl⟩:=Int.eq_ofNat_of_zero_le h0;rw[Jq (by simp;omega),Jq Qo,List.getElem_append_left]
def z08{α:Type}[Inhabited α]{l:List α}{x:α}:gi (l++[x]) (l.length:Int)=x:=by
 rw[Jq Qs];simp
def Bq.AQ6{p:Zb×MG}{t':TypeId}{fz:Nat×Nat}(h:Bq base bs w o cap ps)(hs:∀x∈bs,x<w.heap.size)(AC9:base<=w.heap.size)(hp:PF base w p)(hpb:∀x∈Qu p.2,x∉bs)(hd:∀i:Int,0<=i->i<(ps.length:Int)->∀x∈Qu (gi ps i).2,x∉Qu p.2)(hb:w.heap[b]? = some (.cells (Oi p).toArray t' fz))(h1:Zg (Oi p))(hl:ps.length<=1048576)(tr:TypeId)(cs:Array Bool) :
  ∃o' y' w',(builtin .append #[QH,QH] tr cs #[.slice o ps.length cap,.slice (some ⟨b,0,none⟩) 1 1]).run Tryz.prog w=.ok (.value (.slice o' (ps++[p]).length y')) w'/\Q9 bs w w'/\Bq base bs w' o' y' (ps++[p])/\Q0 (QL o) w w':=by
 obtain⟨o2,c2,w2,Wn,hk,hO,hx⟩:=Ob.AQ6 Yw Py (⟨h.own.row,h.nb⟩:Ob Oi 14 QX base bs w o cap ps) hs AC9 hb h1 hl Qd tr cs;have hlen:(ps++[p]).length=ps.length+1:=Qs
 have Bf0:∀i:Int,0<=i->i<((ps++[p]).length:Int)->(i<(ps.length:Int)/\gi (ps++[p]) i=gi ps i)\/(i=(ps.length:Int)/\gi (ps++[p]) i=p):=λi a b=>by
  by_cases e:i<(ps.length:Int)
  ·exact .inl ⟨e,z33 a e⟩
  ·have:i=(ps.length:Int):=Qo;subst this;exact .inr ⟨rfl,z08⟩
 refine⟨o2,c2,w2,Wn,hk,⟨⟨hO.own,λi a b=>?_,λi j a b c d e=>?_⟩,hO.nb,λi a b=>?_⟩,hx⟩
 ·rcases Bf0 i a b with ⟨hi,hg⟩|⟨hi,hg⟩
  ·rw[hg];exact(h.own.each i a hi).ext hx (Jr h.own.row (h.own.each i a hi))
  ·rw[hg];exact hp.ext hx (Jr h.own.row hp)
 ·rcases Bf0 i a b with ⟨hi,hg⟩|⟨hi,hg⟩ <;> rcases Bf0 j c d with ⟨hj,hg'⟩|⟨hj,hg'⟩
  ·rw[hg,hg'];exact h.own.dj i j a hi c hj e
  ·rw[hg,hg'];exact hd i a hi
  ·rw[hg,hg'];exact λx hx hm=>hd j c hj x hm hx
  ·omega
 ·rcases Bf0 i a b with ⟨hi,hg⟩|⟨hi,hg⟩
  ·rw[hg];exact h.nm i a hi
  ·rw[hg];exact hpb
end
def z58(g:Zb)(m:MG):Zg (Yq g m):=rfl
def KH{W:Q7}(ha:WA W){k:Int}(k0:0<=k)(k1:k<8):(gi W.IE k).IM.RE.length=(gi W.IE k).IM.locals.length/\(gi W.IE k).IM.locals.length<=4/\(gi W.IE k).IH.length<=4:=by
 have hg:=ha.grp k k0 k1;have hc:=ha.c2
 cases hu:(gi W.IE k).IW with
 |false=>
  have:=hg.1 hu;have hb:=Hj this.b;have:=this.l;omega
 |true=>
  have:=hg.2 hu;have hl:=this.len
  by_cases hq:(gi W.IE k).IM.I'=0
  ·have hb:=Hj (this.none hq).1;omega
  ·have hb:=(this.IM hq).1;have h1:=hb.dl;have h2:=hb.l2;omega
section
variable {W:Q7}{m:MW}{w:Wo}{bs:List Nat}
def TZ(W:Q7)(ms:Nat->MG)(k:Nat):List (Zb×MG):=(List.range k).map λ(j:Nat)=>(gi W.IE (j:Int),ms j)
def X3(W:Q7)(ms:Nat->MG)(k:Nat):(TZ W ms k).length=k:=by simp[TZ]
def HT{W:Q7}{ms:Nat->MG}{k:Nat}{i:Int}(h0:0<=i)(h1:i<(k:Int)):gi (TZ W ms k) i=(gi W.IE i,ms i.toNat):=by
 obtain⟨j,rfl⟩:=Int.eq_ofNat_of_zero_le h0;rw[Jq (by rw[X3];omega)];simp[TZ]
def zvg(W:Q7)(ms:Nat->MG)(k:Nat)(p:MG):TZ W (λj=>if j=k then p else ms j) (k+1)=TZ W ms k++[(gi W.IE (k:Int),p)]:=by
 unfold TZ;rw[List.range_succ,List.map_append]
 congr 1
 ·refine List.map_congr_left λj hj=>?_
  have:=List.mem_range.1 hj;show (_,if j=k then p else ms j)=_;rw[B' Qo]
 ·simp
def PJ(h:J6 [] w W m)(ha:WA W) :
  Cz JN #[.agg (Qa W m).toArray] w λe w'=>∃m',e=.returned (.agg (Qa W m').toArray)/\Zj 8 w.heap.size w' W m'/\Q0 [] w w':=by
 refine(zk8 _ _ _ _ _ _ _ _ _ _ (R:=λv w'=>∃m',v=.agg (Qa W m').toArray/\Zj 8 w.heap.size w' W m'/\Q0 [] w w') ?_).mono λe w' ⟨v,he,m',hv,h3⟩=>⟨m',by rw[he,hv],h3⟩
 have hcl:=ha.c2;have qT:=ha.t;have cZ:=ha.gl;intro x hx x1 Sn x2 Rg;have s0:Sc w [x,x1,x2] w:=(((Sc.start w).add hx).add Sn).add Rg
 refine⟨λvs w1=>∃(i:Nat) (cO:OA) (cC:Nat),vs=[I (i:Int),I W.now,.slice cO (W.IF.take i).length cC,.slice none 0 0,.slice none 0 0]/\i<=W.IF.length/\Sc w [x,x1,x2] w1/\Ob Gm 5 Zd w.heap.size [x,x1,x2] w1 cO cC (W.IF.take i),
  Zp W.IF.length 0,λwr hx _=>⟨0,none,0,Qs,Ic _,s0.R5 hx,⟨.inl ⟨rfl,rfl,rfl⟩,by simp[QL]⟩⟩,?_⟩
 rintro c1 l RA Rz RQ RF RL RP RG RH RJ RO We ⟨i,cO,cC,he,hi,s1,hC⟩;simp only[I4,I5,Iv,true_and,and_true] at he;obtain⟨rfl,rfl,⟨rfl,rfl,rfl⟩,⟨rfl,rfl,rfl⟩,rfl,rfl,rfl⟩:=he;refine⟨λIV=>?_,λRW=>?_⟩
 ·have IV:=Ot IV;have hr:=h.c.scb s1;refine⟨hr.ix Y9 Qo IV,_,_,_,_,_,hr i Qo IV,λb4 hb4=>⟨rfl,λRD Rl jS WY=>?_⟩⟩;have s2:=s1.put Rl hb4;have hC2:=hC.put Rl hb4;obtain⟨o2,c2,w2,Wn,hk2,hC3,SX⟩:=hC2.AQ6 HJ KC (x:=gi W.IF (i:Int)) jS s2.ext.size WY (z4n _) (by rw[List.length_take];omega) Qd Zu #[false,false];rw[Hw Qo] at Wn hC3;have s3:=s2.call SX λy hm=>(hC2.own.lt y hm).1
  refine⟨_,_,_,w2,Wn,hk2,⟨Qo,Qo⟩,λw5 Sx _=>⟨⟨i+1,o2,c2,rfl,Qo,(s3.step Sx).sub Qs,(hC3.step Sx).sub Qs⟩,?_⟩⟩;simp only[Zp,Xp,Y4,Ie];omega
 have RW:=Ou RW;rw[show W.IF.take i=W.IF from List.take_of_length_le Qo] at hC ⊢
 refine⟨λvs w1=>∃(i:Nat) (tO:OA) (tC:Nat),vs=[I (i:Int),I W.now,.slice RA W.IF.length RQ,.slice tO (W.IJ.take i).length tC,.slice none 0 0]/\i<=W.IJ.length/\Sc w [x,x1,x2] w1/\Ob Gm 5 Zd w.heap.size [x,x1,x2] w1 RA RQ W.IF/\Ob X4 9 QS w.heap.size [x,x1,x2] w1 tO tC (W.IJ.take i),
  Zp W.IJ.length 0,λwr hx _=>⟨0,none,0,Qs,Ic _,s1.step hx,hC.step hx,⟨.inl ⟨rfl,rfl,rfl⟩,by simp[QL]⟩⟩,?_⟩
 clear hC s1 hi RW We;rintro t1 l4 rH iZ rG qY uJ qX kD sB rI gB hs6 ⟨i,tO,tC,he,hi,s1,hC,hT⟩;simp only[I4,I5,Iv,true_and,and_true] at he;obtain⟨rfl,rfl,⟨rfl,rfl,rfl⟩,⟨rfl,rfl,rfl⟩,rfl,rfl,rfl⟩:=he;refine⟨λIV=>?_,λRW=>?_⟩
 ·have IV:=Ot IV;have hr:=h.t.scb s1;refine⟨hr.ix QT Qo IV,_,_,_,_,_,_,_,_,_,hr i Qo IV,λb4 hb4=>⟨rfl,λRD Rl jS WY=>?_⟩⟩;have s2:=s1.put Rl hb4;have hC2:=hC.put Rl hb4;have hT2:=hT.put Rl hb4;obtain⟨o2,c2,w2,Wn,hk2,hT3,SX⟩:=hT2.AQ6 M5 MM (x:=gi W.IJ (i:Int)) jS s2.ext.size WY (z59 _) (by rw[List.length_take];omega) Qd Z5 #[false,false];rw[Hw Qo] at Wn hT3;have s3:=s2.call SX λy hm=>(hT2.own.lt y hm).1
  have hC3:=hC2.call SX (hC2.own.Wl hT2.own Qd);refine⟨_,_,_,w2,Wn,hk2,⟨Qo,Qo⟩,λw5 Sx _=>⟨⟨i+1,o2,c2,rfl,Qo,(s3.step Sx).sub Qs,(hC3.step Sx).sub Qs,(hT3.step Sx).sub Qs⟩,?_⟩⟩;simp only[Zp,Xp,Y4,Ie];omega
 have RW:=Ou RW;rw[show W.IJ.take i=W.IJ from List.take_of_length_le Qo] at hT ⊢
 refine⟨λvs w1=>∃(i:Nat) (gO:OA) (gC:Nat) (ms:Nat->MG),vs=[I (i:Int),I W.now,.slice rH W.IF.length rG,.slice qY W.IJ.length qX,.slice gO (TZ W ms i).length gC]/\i<=W.IE.length/\Sc w [x,x1,x2] w1/\Ob Gm 5 Zd w.heap.size [x,x1,x2] w1 rH rG W.IF/\Ob X4 9 QS w.heap.size [x,x1,x2] w1 qY qX W.IJ/\Bq w.heap.size [x,x1,x2] w1 gO gC (TZ W ms i),
  Zp W.IE.length 0,λwr hx _=>⟨0,none,0,λ_=>default,by simp[TZ],Ic _,s1.step hx,hC.step hx,hT.step hx,Bq.nil _ _ _⟩,?_⟩
 clear hC hT s1 hi RW hs6;rintro k1 l22 BJ2 Br9 BJ1 BJ4 Bs0 BJ3 BY9 B29 BY8 jP Dj4 ⟨i,gO,gC,ms,he,hi,s1,hC,hT,hG⟩;simp only[I4,I5,Iv,true_and,and_true] at he;obtain⟨rfl,rfl,⟨rfl,rfl,rfl⟩,⟨rfl,rfl,rfl⟩,rfl,rfl,rfl⟩:=he;refine⟨λIV=>?_,λRW=>?_⟩
 ·have IV:=Ot IV;have hr:=h.g.ext s1.ext;have hrb:G6 [x,x1,x2] jP m.gO W.IE m.ms:=(h.g.wide (cs:=[x,x1,x2]) λy hm=>.inr (s1.new y hm)).ext s1.ext.of_nil;have Wx:=hrb.ix (i:=(i:Int)) Qo IV;obtain⟨bl1,bl2,bl3⟩:=KH ha (k:=(i:Int)) Qo Qo;refine⟨Wx,_,_,_,_,_,_,_,_,_,_,_,_,_,_,_,_,_,_,_,_,hrb.cells (i:Int) Qo IV,λi' CB2=>⟨Wx,_,_,_,_,_,_,_,_,_,hrb.IM Qo IV,λdB CD2 CR6=>?_⟩⟩;have s2:=s1.put CD2 CB2;have hC2:=hC.put CD2 CB2;have hT2:=hT.put CD2 CB2;have hG2:=hG.put CD2 CB2;have hr2:=h.g.ext s2.ext;refine I3 (FJ (hr2.locals (i:Int) Qo IV) (hr2.RE (i:Int) Qo IV) bl1 Qo) ?_;rintro e sH ⟨p,he,hB,hy⟩;have s3:=s2.R5 hy;have hC3:=hC2.R5 hy;have hT3:=hT2.R5 hy;have hG3:=hG2.R5 hy;have hBn:∀y∈YD p,dB.heap.size<=y:=λy hm=>(hB.lt y hm).1
  have hBb:∀y∈YD p,y∉[x,x1,x2]++[i']:=λy hm jW=>by
   have:=hBn y hm;have:=CR6 y jW;omega
  refine⟨_,_,_,_,_,_,_,_,_,he,Qg hy CR6,λvs w1=>∃(c:Nat) (sO:OA) (sC:Nat),vs=[I (c:Int),.bool (gi W.IE (i:Int)).IW,I (gi W.IE (i:Int)).IG,.string (gi W.IE (i:Int)).name,I (gi W.IE (i:Int)).R3,I (gi W.IE (i:Int)).IF,I (gi W.IE (i:Int)).period,I (gi W.IE (i:Int)).next,I (gi W.IE (i:Int)).sum,I (gi W.IE (i:Int)).IM.I',I (gi W.IE (i:Int)).IM.RU,I (gi W.IE (i:Int)).IM.SB,.slice p.lO (gi W.IE (i:Int)).IM.locals.length p.lC,.slice p.dO (gi W.IE (i:Int)).IM.RE.length p.dC,.slice sO ((gi W.IE (i:Int)).IH.take c).length sC]/\c<=(gi W.IE (i:Int)).IH.length/\Sc w ([x,x1,x2]++[i']) w1/\dB.heap.size<=w1.heap.size/\Ob Gm 5 Zd w.heap.size ([x,x1,x2]++[i']) w1 BJ2 BJ1 W.IF/\Ob X4 9 QS w.heap.size ([x,x1,x2]++[i']) w1 BJ4 BJ3 W.IJ/\Bq w.heap.size ([x,x1,x2]++[i']) w1 BY9 BY8 (TZ W ms i)/\Zv dB.heap.size w1 (gi W.IE (i:Int)).IM p/\Ob T4 5 ZI dB.heap.size ([x,x1,x2]++[i']) w1 sO sC ((gi W.IE (i:Int)).IH.take c),
   Zp (gi W.IE (i:Int)).IH.length 0,λwr hx _=>⟨0,none,0,Qs,Ic _,s3.step hx,IB hy.size hx.size,hC3.step hx,hT3.step hx,hG3.step hx,hB.ext hx hBb,⟨.inl ⟨rfl,rfl,rfl⟩,by simp[QL]⟩⟩,?_⟩
  have hsz:w.heap.size<=dB.heap.size:=s2.ext.size;have Cd1:=hG2.lt;clear hB s3 hC3 hT3 hG3 hC2 hT2;rintro c4 l26 l27 l28 l29 l30 l31 l32 l33 l34 l35 l36 BJ7 BJ6 BJ5 BK0 BJ9 BJ8 BA4 BZ0 BA3 gH Dj5 ⟨c,sO,sC,he,hc,s4,hz4,hC4,hT4,hG4,hB4,hS4⟩;simp only[I4,I5,Iv,Value.bool.injEq,Value.string.injEq,true_and,and_true] at he;obtain⟨rfl,rfl,rfl,rfl,rfl,rfl,rfl,rfl,rfl,rfl,rfl,rfl,⟨rfl,rfl,rfl⟩,⟨rfl,rfl,rfl⟩,rfl,rfl,rfl⟩:=he;have CR4:G6 ([x,x1,x2]++[i']) gH m.gO W.IE m.ms:=(h.g.wide (cs:=[x,x1,x2]++[i']) λy hm=>.inr (s4.new y hm)).ext s4.ext.of_nil;refine⟨Wx,_,_,_,CR4.Rn Qo IV,λRe=>?_,λbK=>?_⟩
  ·have Re:=Ot Re;have hrs:=CR4.IH (i:Int) Qo IV;refine⟨Wx,_,_,_,CR4.Rn Qo IV,hrs.ix YM Qo Re,_,_,_,_,_,hrs c Qo Re,λyW Bz5=>⟨rfl,λfZ BY3 DB7 WY=>?_⟩⟩;have s5:=s4.put BY3 Bz5;have qR:=hS4.put BY3 Bz5;have Cl6:dB.heap.size<=fZ.heap.size:=IB hz4 BY3.size;obtain⟨o2,c2,w2,Wn,hk2,hS6,SX⟩:=qR.AQ6 PR Pz (x:=gi (gi W.IE (i:Int)).IH (c:Int)) DB7 Cl6 WY (z4p _) (by rw[List.length_take];omega) Qd Za #[false,false];rw[Hw Qo] at Wn hS6;have hG5:=hG4.put BY3 Bz5;have hC5:=hC4.put BY3 Bz5;have hT5:=hT4.put BY3 Bz5;have hB5:=hB4.ext BY3 hBb;have s6:=s5.call SX λy hm=>IB hsz (qR.own.lt y hm).1
   have hC6:=hC5.call SX (hC5.own.Wl qR.own Qd);have hT6:=hT5.call SX (hT5.own.Wl qR.own Qd)
   have hG6:=hG5.ext SX (hG5.own.row.Wl qR.own Qd) λj a b y hm jW=>by
    have:=(Cd1.2 j a b y hm).2;have:=(qR.own.lt y jW).1;omega
   have C29:∀y∈YD p,y∉[x,x1,x2]++[i']++[yW]:=λy hm jW=>by
    rcases Im.1 jW with h2|h2
    ·exact hBb y hm h2
    ·have:y=yW:=by simpa using h2
     have:=(hB4.lt y hm).2;omega
   have hB6:=hB5.ext SX λy hm=>by
    rcases Im.1 hm with hm|hm
    ·exact hB5.loc.Wl qR.own Qd y hm
    ·exact hB5.RE.Wl qR.own Qd y hm
   refine⟨_,_,_,w2,Wn,hk2,⟨Qo,Qo⟩,λw5 Sx _=>⟨⟨c+1,o2,c2,rfl,Qo,(s6.step Sx).sub Qs,?_,(hC6.step Sx).sub Qs,(hT6.step Sx).sub Qs,(hG6.step Sx).sub Qs,hB6.ext Sx C29,(hS6.step Sx).sub Qs⟩,?_⟩⟩
   ·have:=SX.size;have:=Sx.size;omega
   ·simp only[Zp,Xp,Y4,Ie];omega
  ·have bK:=Ou bK;rw[show (gi W.IE (i:Int)).IH.take c=(gi W.IE (i:Int)).IH from List.take_of_length_le Qo] at hS4 ⊢;intro b13 Bz6 qL Br6 DB8 WY;have s5:=s4.put Br6 Bz6;have hG5:=hG4.put Br6 Bz6;have hC5:=hC4.put Br6 Bz6;have hT5:=hT4.put Br6 Bz6;have hB5:=hB4.ext Br6 hBb;have qR:=hS4.put Br6 Bz6
   have CI7:∀y∈Qu ⟨p.lO,p.lC,p.dO,p.dC,BA4,BA3⟩,dB.heap.size<=y/\y<gH.heap.size:=λy hm=>by
    simp only[Qu,Im] at hm;rcases hm with (hm|hm)|hm
    ·exact hB4.loc.lt y hm
    ·exact hB4.RE.lt y hm
    ·exact hS4.own.lt y hm
   obtain⟨o2,c2,w2,Wn,hk2,hG6,SX⟩:=hG5.AQ6 (p:=(gi W.IE (i:Int),⟨p.lO,p.lC,p.dO,p.dC,BA4,BA3⟩)) DB8 s5.ext.size ⟨(hB5.mono hsz).loc,(hB5.mono hsz).RE,qR.own.mono hsz⟩ (λy hm jW=>by
     have h1:=CI7 y hm;rcases Im.1 jW with h2|h2
     ·have:=CR6 y h2;omega
     ·have:y=b13:=by simpa using h2
      omega) (λj a b y hm jW=>by
     have:=(Cd1.2 j a b y hm).2;have:=(CI7 y jW).1;omega) WY (z58 _ _) (by rw[X3];omega) QH #[false,false]
   rw[<-zvg] at Wn hG6;have s6:=s5.call SX λy hm=>(hG5.own.row.lt y hm).1
   have hC6:=hC5.call SX (hC5.own.Wl hG5.own.row Qd);have hT6:=hT5.call SX (hT5.own.Wl hG5.own.row Qd);refine⟨_,_,_,w2,Wn,hk2,⟨Qo,Qo⟩,λw5 Sx _=>⟨⟨i+1,o2,c2,_,rfl,Qo,(s6.step Sx).sub Qs,(hC6.step Sx).sub Qs,(hT6.step Sx).sub Qs,(hG6.step Sx).sub Qs⟩,?_⟩⟩;simp only[Zp,Xp,Y4,Ie];omega
 ·have RW:=Ou RW;have hi8:i=W.IE.length:=Qo;subst hi8;refine λw9 qU=>⟨⟨BJ2,BJ1,BJ4,BJ3,BY9,BY8,ms⟩,?_,⟨(hC.step qU).own,(hT.step qU).own,(hG.step qU).own,cZ⟩,(s1.step qU).ext⟩
  rw[X3];rfl
def Zi(h:J6 [] w W m)(hl:UV W) :
  Cz Z0 #[.agg (Qa W m).toArray] w λe w'=>(Qp W=false/\e=.returned (.tuple #[.agg (Qa Ll z0d).toArray,I 1])/\Q0 [] w w')\/(Qp W/\∃m',e=.returned (.tuple #[.agg (Qa W m').toArray,I (if QO W=true then 0 else 10)])/\Zj 8 w.heap.size w' W m'/\Q0 [] w w'):=by
 refine(CH _ _ _ _ _ _ _ _ _ _ (R:=λv w'=>(Qp W=false/\v=.tuple #[.agg (Qa Ll z0d).toArray,I 1]/\Q0 [] w w')\/(Qp W/\∃m',v=.tuple #[.agg (Qa W m').toArray,I (if QO W=true then 0 else 10)]/\Zj 8 w.heap.size w' W m'/\Q0 [] w w')) ?_).mono λe w' ⟨v,he,h3⟩=>by
  rw[he];rcases h3 with ⟨a,hv,b⟩|⟨a,m',hv,b⟩
  ·exact .inl ⟨a,by rw[hv],b⟩
  ·exact .inr ⟨a,m',by rw[hv],b⟩
 intro x hx x1 Sn;refine⟨_,Ur h hl.c hl.t hl.g hl.f,λg wr hx=>.inl ⟨by simpa using g,rfl,hx⟩,λg R6 Rg eR=>?_⟩;have hW:Qp W:=by simpa using g
 have wp:=Qm.1 hW;refine I3 (PJ (h.ext Rg) wp.a) ?_;rintro e wv ⟨m',he,hM,hy⟩
 have hnb:∀y∈QN 8 m',y∉[x,x1]:=λy hy hm=>by
  have:=(hM.lt y hy).1;have:=eR y hm;omega
 have hro:=KT (hM.rd hnb) hl;have BH9:∀w2,Q0 [x,x1] wv w2->Zj 8 w.heap.size w2 W m'/\Q0 [] w w2:=λw2 h2=>⟨(hM.mono Rg.size).ext h2 hnb,(Rg.trans hy).fresh h2 λy hm=>.inl (YF hx Sn y hm)⟩
 refine⟨_,_,_,_,_,_,_,_,_,_,he,Qg hy eR,_,hro,λg2 w2 h2=>.inr ⟨hW,m',?_,BH9 w2 h2⟩,λg2 w2 h2=>.inr ⟨hW,m',?_,BH9 w2 h2⟩⟩
 ·have:¬QO W:=λhr=>by
   rw[show Ju (XV W/\G7 W)=true from Qm.2 ⟨wp,Qm.1 hr⟩] at g2;cases g2
  rw[B' this];rfl
 ·have hd:Ju (XV W/\G7 W):=by simpa using g2
  have:QO W:=Qm.2 (Qm.1 hd).2;rw[C' this];rfl
end
structure Wk (n:Nat) (bs:List Nat) (w0 w:Wo) (W:Q7) (m:MW):Prop where
 s:Sc w0 bs w
 o:OW n w0.heap.size bs w W m
section
variable {n:Nat}{bs cs:List Nat}{w0 w w':Wo}{W W':Q7}{m m':MW}{b:Nat}
def Wk.step(h:Wk n bs w0 w W m)(hx:Q0 bs w w'):Wk n bs w0 w' W m:=⟨h.s.step hx,h.o.step hx⟩
def Wk.R5(h:Wk n bs w0 w W m)(hx:Q0 [] w w'):Wk n bs w0 w' W m:=⟨h.s.R5 hx,h.o.R5 hx⟩
def Wk.add(h:Wk n bs w0 w W m)(hb:w.heap.size<=b):Wk n (bs++[b]) w0 w W m:=⟨h.s.add hb,h.o.add hb⟩
def Wk.sub(h:Wk n bs w0 w W m)(hs:∀x∈cs,x∈bs):Wk n cs w0 w W m:=⟨h.s.sub hs,h.o.sub hs⟩
def Wk.rd(h:Wk n bs w0 w W m):J6 bs w W m:=h.o.rd
def Wk.own(h:Wk n bs w0 w W m):Zj n w0.heap.size w W m:=h.o.own
def Wk.nb(h:Wk n bs w0 w W m):∀x∈QN n m,x∉bs:=h.o.nb
def Wk.base(h:Wk n bs w0 w W m):w0.heap.size<=w.heap.size:=h.s.ext.size
def Wk.Sv(h:Wk n bs w0 w W m)(k:Mv n w0.heap.size [] w m w' W' m')(hs:∀x∈bs,x<w.heap.size):Wk n bs w0 w' W' m':=
 ⟨h.s.call k.ext λx hx=>(h.o.own.lt x hx).1,⟨k.own,λx hx hm=>by
  rcases k.sub x hx with h1|h1
  ·exact h.o.nb x h1 hm
  ·have:=hs x hm;omega⟩⟩
def Wk.kept(h:Wk n bs w0 w W m)(k:Mv n w0.heap.size [] w m w' W' m')(hs:∀x∈bs,x<w.heap.size):Q9 bs w w':=λx hm=>k.ext.block x (hs x hm) λjW=>h.o.nb x jW hm
def Wk.Rx(h:Wk n bs w0 w W m)(k:Zj n w0.heap.size w' W' m)(hx:Q0 (QN n m) w w'):Wk n bs w0 w' W' m:=⟨h.s.call hx λx hx=>(h.o.own.lt x hx).1,⟨k,h.o.nb⟩⟩
def Wk.fin(h:Wk n bs w0 w W m):Zj n w0.heap.size w W m/\Q0 [] w0 w:=⟨h.o.own,h.s.ext⟩
end
def QV(r:Q7×Int)(w:Wo)(v:Va)(w':Wo):Prop:=∃n m',v=.tuple #[.agg (Qa r.1 m').toArray,I r.2]/\Zj n w.heap.size w' r.1 m'/\Q0 [] w w'
def Zj.zero(base:Nat)(w:Wo):Zj 0 base w Ll z0d:=⟨.inl ⟨rfl,rfl,rfl⟩,.inl ⟨rfl,rfl,rfl⟩,⟨.inl ⟨rfl,rfl,rfl⟩,λi a b=>by simp[zs6,Ll] at b;omega,λi j a b=>by simp[zs6,Ll] at b;omega⟩,rfl⟩
section
variable {W W':Q7}{m:MW}{w:Wo}{bar:Int}
def QV.bad{w':Wo}(hW:Qp W=false)(hx:Q0 [] w w'):QV (Y7 W bar W') w (.tuple #[.agg (Qa Ll z0d).toArray,I 1]) w':=by
 rw[zr3 hW];exact⟨0,z0d,rfl,Zj.zero _ _,hx⟩
def QV.no{n:Nat}{bs:List Nat}{w':Wo}{m':MW}(hW:Qp W)(hb:bar≠0)(hk:Wk n bs w w' W m'){c:Int}(hc:bar=c):QV (Y7 W bar W') w (.tuple #[.agg (Qa W m').toArray,I c]) w':=by
 rw[zav hW hb,hc];exact⟨n,m',rfl,hk.fin⟩
def QV.ok{n:Nat}{bs:List Nat}{w':Wo}{m':MW}(hW:Qp W)(hb:bar=0)(hk:Wk n bs w w' W' m'):QV (Y7 W bar W') w (.tuple #[.agg (Qa W' m').toArray,I 0]) w':=by
 rw[zkj hW hb];exact⟨n,m',rfl,hk.fin⟩
def Wk.begin{x x1:Nat}{wr wv:Wo}{m':MW}(hx:w.heap.size<=x)(Sn:w.heap.size<=x1)(Rg:Q0 [] w wr)(hs:∀y∈[x,x1],y<wr.heap.size)(hM:Zj 8 wr.heap.size wv W m')(hy:Q0 [] wr wv):Wk 8 [x,x1] w wv W m':=
 ⟨⟨Rg.trans hy,YF hx Sn⟩,(OW.of hM hs).mono Rg.size⟩
def Nv{t:Int}(h:J6 [] w W m)(hl:UV W) :
  Cz Tq #[.agg (Qa W m).toArray,I t] w λe w'=>∃v,e=.returned v/\QV (Y7 W (VB W t) (zcf W t)) w v w':=by
 refine N6 _ _ _ _ _ _ _ _ _ _ t (R:=λv w'=>QV (Y7 W (VB W t) (zcf W t)) w v w') ?_;intro x hx x1 Sn wr Rg We;refine I3 (Zi (h.ext Rg) hl) ?_;rintro e wv (⟨hW,he,hy⟩|⟨hW,m',he,hM,hy⟩)
 ·exact⟨_,_,_,_,_,_,_,_,_,_,_,he,Qg hy We,λ_ R6 Rl=>QV.bad hW ((Rg.trans hy).fresh Rl λy hm=>.inl (YF hx Sn y hm)),λg=>by simp at g⟩
 have hK:=Wk.begin hx Sn Rg We hM hy;have hr:=hK.rd;refine⟨_,_,_,_,_,_,_,_,_,_,_,he,Qg hy We,λg=>by split at g <;> simp at g,λ_=>⟨_,JP hr hl.t,λg R7 Rl=>?_,λg=>?_⟩⟩
 ·have g:Yd W t=false:=by simpa using g
  have hb:VB W t=2:=by unfold VB;rw[C' g]
  exact QV.no hW (by rw[hb];decide) (hK.step Rl) hb
 have g:Yd W t:=by simpa using g
 obtain⟨t0,t1,tn⟩:=ZY g;have Wx:=hr.t.ix QT t0 t1;refine⟨Wx,_,hr.t.f t0 t1 (j:=0) rfl,λg2 RD Rl=>?_,λg2=>⟨λg3 RN Rl=>?_,λg3=>?_⟩⟩
 ·have g2:(Q8 W t).state≠1:=by simpa[Q8] using g2
  have hb:VB W t=6:=by unfold VB;rw[B' (by rw[g];decide),C' g2]
  exact QV.no hW (by rw[hb];decide) (hK.step Rl) hb
 ·have g2:¬(Q8 W t).state≠1:=by simpa[Q8] using g2
  have cA:¬QO W:=λhr=>by rw[C' hr] at g3;simp at g3
  have hb:VB W t=10:=by unfold VB;rw[B' (by rw[g];decide),B' g2,C' (by simpa using cA)]
  rw[B' cA];exact QV.no hW (by rw[hb];decide) (hK.step Rl) hb
 ·have g2:¬(Q8 W t).state≠1:=by simpa[Q8] using g2
  have cA:QO W:=Iq λhr=>by rw[B' hr] at g3;simp at g3
  have hb:VB W t=0:=by unfold VB;rw[B' (by rw[g];decide),B' g2,B' (by rw[cA];decide)]
  obtain⟨_,_,sw,sw1⟩:=zcg hW hb;have T':Zj 8 w.heap.size _ (J' W t { Q8 W t with state:=2 }) m':=hK.own.AP2 t0 t1 (j:=0) (vs:=[I 2]) (x:={ Q8 W t with state:=2 }) rfl Qs;refine⟨Wx,zts hK.own hK.nb t0 t1 Qd,λS5 Sx gQ=>?_⟩;have eI:=(hK.Rx T' Hv).step Sx;have RI:=QB eI.own sw1 Qd Qd eI.base;have e5:Qa (J' W t { Q8 W t with state:=2 }) m'=Qa W m':=by simp[Qa,J']
  rw[e5] at RI;refine I3 RI ?_;rintro e1 Rc ⟨m1,qC,dY⟩;exact⟨_,_,_,_,_,_,_,_,_,_,qC,eI.kept dY gQ,λSu bM=>QV.ok hW hb ((eI.Sv dY gQ).step bM)⟩
end
def Le{α:Type}[Inhabited α]{l:List α}{i:Int}(h0:0<=i)(h1:i<(l.length:Int)):l.set i.toNat (gi l i)=l:=by
 obtain⟨k,rfl⟩:=Int.eq_ofNat_of_zero_le h0;rw[Jq Qo,Ig,List.set_getElem_self]
def MD{W:Q7}{k:Int}{b:Ue}(h0:0<=k)(h1:k<(W.IE.length:Int)):gi (RZ W k b).IE k={ gi W.IE k with IM:=b }:=by
 unfold RZ;rw[Yt h0 h1 h0,C' rfl]
def zjp{W:Q7}{k:Int}{b b':Ue}(h0:0<=k)(h1:k<(W.IE.length:Int)):RZ (RZ W k b) k b'=RZ W k b':=by
 show R1 (RZ W k b) k { gi (RZ W k b).IE k with IM:=b' }=_;rw[MD h0 h1];unfold RZ R1;rw[List.set_set]
def zjq{W:Q7}{k:Int}{x y:Zb}:R1 (R1 W k x) k y=R1 W k y:=by unfold R1;rw[List.set_set]
def G0{W:Q7}{k:Int}(h0:0<=k)(h1:k<(W.IE.length:Int)):RZ W k (gi W.IE k).IM=W:=by
 show R1 W k (gi W.IE k)=W;unfold R1;rw[Le h0 h1]
section
variable {base:Nat}{W:Q7}{m:MW}{w:Wo}{k:Int}{b:Ue}
abbrev zop(m:MW)(k:Int):OA:=m.gO.map (·.add (Int.toNat k*14+8))
def BQ(h:Zj 8 base w (RZ W k b) m):W.IE.length=8:=by
 have:=h.len
 simpa[RZ,R1] using this
def Zj.BG2(h:Zj 8 base w (RZ W k b) m)(k0:0<=k)(k8:k<8):Q1 [] w m.gO (Int.toNat k*14+8) (ZD b (m.ms k.toNat))/\zm2 [] w (m.ms k.toNat).lO b.locals/\zwa [] w (m.ms k.toNat).dO b.RE:=by
 have hr:=(h.rd (bs:=[]) Qs).g;have hl:=BQ h;have hl2:=h.len;have hg:=MD (W:=W) (b:=b) k0 Qo;have h1:=hr.IM k0 Qo;have h2:=hr.locals k k0 Qo;have h3:=hr.RE k k0 Qo;rw[hg] at h1 h2 h3;exact⟨h1,h2,h3⟩
def Zj.bdC(h:Zj 8 base w (RZ W k b) m)(k0:0<=k)(k8:k<8){j:Nat}{v:Va}(hj:(ZD b (m.ms k.toNat))[j]? = some v):Q1 [] w (zop m k) (0+j) [v]:=JG (h.BG2 k0 k8).1 hj
def Zj.AC3(h:Zj 8 base w (RZ W k b) m)(k0:0<=k)(k8:k<8):(zop m k).isSome:=MH (h.BG2 k0 k8).1
def Zj.By1(h:Zj 8 base w (RZ W k b) m)(k0:0<=k)(k8:k<8){j n:Nat}(hj:j+n<=5):Xd [] w (zop m k) (0+j) n:=by
 have:=zru h (bs:=[]) Qs k0 Qo (j:=8+j) (k:=n) Qo;refine PP.2 ?_;rw[Nat.zero_add,Nat.add_assoc];exact this
def Zj.Be4(h:Zj 8 base w (RZ W k b) m)(k0:0<=k)(k8:k<8){c:Int}(c0:0<=c)(c1:c<(b.locals.length:Int)):Xd [] w (m.ms k.toNat).lO (Int.toNat c*1) 1:=by
 have hl:=BQ h;have:=z7q h (bs:=[]) Qs k0 Qo (c:=c) c0 (by rw[MD k0 Qo];exact c1) (j:=0) (k:=1) Qd;exact this
def Zj.CG4(h:Zj 8 base w (RZ W k b) m)(k0:0<=k)(k8:k<8){c:Int}(c0:0<=c)(c1:c<(b.RE.length:Int)):Xd [] w (m.ms k.toNat).dO (Int.toNat c*1) 1:=by
 have hl:=BQ h;have:=z7p h (bs:=[]) Qs k0 Qo (c:=c) c0 (by rw[MD k0 Qo];exact c1) (j:=0) (k:=1) Qd;exact this
def Zj.BG3(h:Zj 8 base w (RZ W k b) m)(k0:0<=k)(k8:k<8){b':Ue}(e1:b'.locals=b.locals)(e2:b'.RE=b.RE){j:Nat}{vs:List Va}(he:ZD b' (m.ms k.toNat)=(ZD b (m.ms k.toNat)).take j++vs++(ZD b (m.ms k.toNat)).drop (j+vs.length))(hj:j+vs.length<=5) :
  Zj 8 base (Rx w (zop m k) (0+j) vs) (RZ W k b') m:=by
 have hl:=BQ h;have hg:=MD (W:=W) (b:=b) k0 Qo
 have this:Zj 8 base _ (R1 (RZ W k b) k { gi W.IE k with IM:=b' }) m:=h.As2 k0 Qo (g:={ gi W.IE k with IM:=b' }) (by rw[hg];exact e1) (by rw[hg];exact e2) (by rw[hg]) (j:=8+j) (vs:=vs) (by
  rw[hg];have e:∀x:Ue,Yq { gi W.IE k with IM:=x } (m.ms k.toNat)=(Yq (gi W.IE k) (m.ms k.toNat)).take 8++ZD x (m.ms k.toNat)++[.slice (m.ms k.toNat).sO (gi W.IE k).IH.length (m.ms k.toNat).sC]:=λx=>rfl
  rw[e b',e b,he];have l8:((Yq (gi W.IE k) (m.ms k.toNat)).take 8).length=8:=rfl;have l5:(ZD b (m.ms k.toNat)).length=5:=rfl;generalize (Yq (gi W.IE k) (m.ms k.toNat)).take 8=A at l8;generalize ZD b (m.ms k.toNat)=B at l5
  have t1:(A++B++[Value.slice (m.ms k.toNat).sO (gi W.IE k).IH.length (m.ms k.toNat).sC]).take (8+j)=A++B.take j:=by
   rw[List.append_assoc,List.take_append,List.take_of_length_le Qo,l8,show 8+j-8=j by omega,List.take_append,show j-B.length=0 by omega,List.take_zero,List.append_nil]
  have t2:(A++B++[Value.slice (m.ms k.toNat).sO (gi W.IE k).IH.length (m.ms k.toNat).sC]).drop (8+j+vs.length)=B.drop (j+vs.length)++[Value.slice (m.ms k.toNat).sO (gi W.IE k).IH.length (m.ms k.toNat).sC]:=by
   rw[List.append_assoc,List.drop_append,List.drop_eq_nil_iff.2 Qo,List.nil_append,l8,show 8+j+vs.length-8=j+vs.length by omega,List.drop_append,show j+vs.length-B.length=0 by omega,List.drop_zero]
  rw[t1,t2];simp only[List.append_assoc]) Qo
 rw[show R1 (RZ W k b) k { gi W.IE k with IM:=b' }=RZ W k b' from zjq] at this;rw[TJ,Nat.zero_add,Nat.add_assoc];exact this
def Zj.Ab5{j:Nat}{vs:List Va}:Q0 (QN 8 m) w (Rx w (zop m k) (0+j) vs):=by rw[TJ];exact A3
def Zj.A79(h:Zj 8 base w (RZ W k b) m)(k0:0<=k)(k8:k<8){c:Int}(c0:0<=c)(c1:c<(b.locals.length:Int))(x:Int) :
  Zj 8 base (Rx w (m.ms k.toNat).lO (Int.toNat c*1) [I x]) (RZ W k { b with locals:=b.locals.set c.toNat x }) m:=by
 have hl:=BQ h;have hg:=MD (W:=W) (b:=b) k0 Qo;have hb:(gi (RZ W k b).IE k).IM=b:=by rw[hg]
 have this:Zj 8 base _ (RZ (RZ W k b) k { (gi (RZ W k b).IE k).IM with locals:=(gi (RZ W k b).IE k).IM.locals.set c.toNat x }) m:=h.fY k0 Qo c0 (by rw[hg];exact c1) x;rw[zjp k0 Qo,hb] at this;exact this
def Zj.By0(h:Zj 8 base w (RZ W k b) m)(k0:0<=k)(k8:k<8){c:Int}(c0:0<=c)(c1:c<(b.RE.length:Int))(x:Bool) :
  Zj 8 base (Rx w (m.ms k.toNat).dO (Int.toNat c*1) [.bool x]) (RZ W k { b with RE:=b.RE.set c.toNat x }) m:=by
 have hl:=BQ h;have hg:=MD (W:=W) (b:=b) k0 Qo;have hb:(gi (RZ W k b).IE k).IM=b:=by rw[hg]
 have this:Zj 8 base _ (RZ (RZ W k b) k { (gi (RZ W k b).IE k).IM with RE:=(gi (RZ W k b).IE k).IM.RE.set c.toNat x }) m:=h.CE3 k0 Qo c0 (by rw[hg];exact c1) x;rw[zjp k0 Qo,hb] at this;exact this
def zrx(base:Nat)(W:Q7)(m:MW)(k:Int)(b':Ue)(w w':Wo):Prop:=Zj 8 base w' (RZ W k b') m/\Q0 (QN 8 m) w w'
def zdu(h:Zj 8 base w (RZ W k b) m)(k0:0<=k)(k8:k<8)(hl:b.RE.length<=1048576) :
  Cz UD #[.pointer (zop m k)] w λe w'=>e=.returned (.tuple #[])/\zrx base W m k { b with RE:=List.replicate b.RE.length false } w w':=by
 refine(Cq (zop m k) (R:=λv w'=>v=.tuple #[]/\zrx base W m k { b with RE:=List.replicate b.RE.length false } w w') ?_).mono λe w' ⟨v,he,hv,h3⟩=>⟨by rw[he,hv],h3⟩
 refine⟨h.AC3 k0 k8,_,_,_,h.bdC k0 k8 (j:=4) rfl,?_⟩;refine Jh b.RE.length 0 rfl (λj w1=>j<=b.RE.length/\Zj 8 base w1 (RZ W k { b with RE:=List.replicate j false++b.RE.drop j }) m/\Q0 (QN 8 m) w w1) (λw1 Sn _=>⟨Ic _,by simpa using h.WR Sn,Sn.of_nil⟩) λj w1 hs ⟨hj,hO,hX⟩=>⟨λIV=>?_,λRW=>?_⟩
 ·have IV:=Ot IV;have hlen:(List.replicate j false++b.RE.drop j).length=b.RE.length:=by simp;omega
  have c1:(j:Int)<((List.replicate j false++b.RE.drop j).length:Int):=by rw[hlen];exact IV
  have e1:=hO.By0 k0 k8 (c:=(j:Int)) Qo c1 false;have WY:=hO.bdC k0 k8 (j:=4) rfl;have Wx:=(hO.BG2 k0 k8).2.2.ix Lw (i:=(j:Int)) Qo c1;refine⟨hO.AC3 k0 k8,_,_,_,WY,Wx,hO.CG4 k0 k8 Qo c1,⟨Qo,Qo⟩,λw2 Rg _=>Qx Qo ⟨Qo,?_,?_⟩⟩
  ·have e2:=e1.WR Rg;simp only[Ig] at e2;rw[zpe _ _ Qo] at e2;exact e2
  ·exact(hX.trans (z6e Qo)).trans Rg.of_nil
 ·have RW:=Ou RW;have hk2:j=b.RE.length:=Qo;subst hk2;rw[List.drop_length,List.append_nil] at hO;exact λw2 Rg=>⟨rfl,hO.WR Rg,hX.trans Rg.of_nil⟩
def zdr(h:Zj 8 base w (RZ W k b) m)(k0:0<=k)(k8:k<8)(hb:OY b){c:Int}(c0:0<=c)(c1:c<(b.locals.length:Int)) :
  Cz Ui #[.pointer (zop m k),I c] w λe w'=>e=.returned (I 0)/\zrx base W m k (YH b c) w w':=by
 refine(Dg (zop m k) c (R:=λv w'=>v=I 0/\zrx base W m k (YH b c) w w') ?_).mono λe w' ⟨v,he,hv,h3⟩=>⟨by rw[he,hv],h3⟩
 have he':=hb.each c c0 c1;have p1:=hb.p1;have p2:=hb.p2;have q2:=hb.q2;have hs:=h.AC3 k0 k8;have hL:=(h.BG2 k0 k8).2.1;have Wx:=hL.ix XP c0 c1;have e1:=h.BG3 k0 k8 (b':={ b with RU:=b.RU+gi b.locals c }) rfl rfl (j:=1) (vs:=[I (b.RU+gi b.locals c)]) rfl Qs;have e2:=e1.A79 k0 k8 c0 c1 0;have hX:=(Zj.Ab5 (m:=m) (k:=k) (w:=w) (j:=1) (vs:=[I (b.RU+gi b.locals c)])).trans (z2j (m:=m) (k:=Int.toNat c*1) (vs:=[I 0]) (i:=k.toNat) Qo);refine⟨hs,_,h.bdC k0 k8 (j:=1) rfl,hs,_,_,_,h.bdC k0 k8 (j:=3) rfl,Wx,_,hL c c0 c1,⟨Qo,Qo⟩,hs,h.By1 k0 k8 (j:=1) Qd,hs,_,_,_,e1.bdC k0 k8 (j:=3) rfl,Wx,e1.Be4 k0 k8 c0 c1,hs,_,e2.bdC k0 k8 (j:=1) rfl,λg wr hx _=>?_,λg wr hx=>⟨rfl,?_,hX.trans hx.of_nil⟩⟩
 ·have g:=Ot g;refine I3 (zdu (e2.WR hx) k0 k8 (by show b.RE.length<=_;have:=hb.dl;have:=hb.l2;omega)) ?_;rintro e wv ⟨he,hM,hy⟩;refine⟨he,Xj,λR6 Sn=>⟨rfl,?_,((hX.trans hx.of_nil).trans hy).trans Sn.of_nil⟩⟩;have:YH b c=⟨b.I',b.RU+gi b.locals c,b.SB,b.locals.set c.toNat 0,List.replicate b.RE.length false⟩:=by unfold YH;rw[C' g]
  rw[this];exact hM.WR Sn
 ·have g:=Ou g;have:YH b c=⟨b.I',b.RU+gi b.locals c,b.SB,b.locals.set c.toNat 0,b.RE⟩:=by unfold YH;rw[B' g]
  rw[this];exact e2.WR hx
def zp5(l:List Int)(k:Nat)(h:k<l.length):(List.replicate k (0:Int)++l.drop k).set k 0=List.replicate (k+1) 0++l.drop (k+1):=by
 rw[List.set_append,B' Qs,List.length_replicate,Nat.sub_self,List.drop_eq_getElem_cons h,List.set_cons_zero,List.replicate_succ',List.append_assoc,List.singleton_append]
def zdq(h:Zj 8 base w (RZ W k b) m)(k0:0<=k)(k8:k<8)(hb:OY b) :
  Cz Uh #[.pointer (zop m k)] w λe w'=>e=.returned (I 0)/\zrx base W m k (Jp b) w w':=by
 refine(Df (zop m k) (R:=λv w'=>v=I 0/\zrx base W m k (Jp b) w w') ?_).mono λe w' ⟨v,he,hv,h3⟩=>⟨by rw[he,hv],h3⟩
 have hdl:=hb.dl;have hl2:=hb.l2;have hs:=h.AC3 k0 k8;have e1:=h.BG3 k0 k8 (b':={ b with RU:=b.I' }) rfl rfl (j:=1) (vs:=[I b.I']) rfl Qs;have e2:=e1.BG3 k0 k8 (b':={ b with RU:=b.I',SB:=0 }) rfl rfl (j:=2) (vs:=[I 0]) rfl Qs;have hX2:=(Zj.Ab5 (m:=m) (k:=k) (w:=w) (j:=1) (vs:=[I b.I'])).trans (Zj.Ab5 (m:=m) (k:=k) (j:=2) (vs:=[I 0]));refine⟨hs,_,h.bdC k0 k8 (j:=0) rfl,hs,h.By1 k0 k8 (j:=1) Qd,hs,e1.By1 k0 k8 (j:=2) Qd,hs,_,_,_,e2.bdC k0 k8 (j:=3) rfl,?_⟩;refine Jh b.locals.length 0 rfl (λj w1=>j<=b.locals.length/\Zj 8 base w1 (RZ W k { b with RU:=b.I',SB:=0,locals:=List.replicate j 0++b.locals.drop j }) m/\Q0 (QN 8 m) w w1) (λw1 Sn _=>⟨Ic _,by simpa using e2.WR Sn,hX2.trans Sn.of_nil⟩) λj w1 hs ⟨hj,hO,hX⟩=>⟨λIV=>?_,λRW=>?_⟩
 ·have IV:=Ot IV;have hlen:(List.replicate j (0:Int)++b.locals.drop j).length=b.locals.length:=by simp;omega
  have c1:(j:Int)<((List.replicate j (0:Int)++b.locals.drop j).length:Int):=by rw[hlen];exact IV
  have e1:=hO.A79 k0 k8 (c:=(j:Int)) Qo c1 0;have WY:=hO.bdC k0 k8 (j:=3) rfl;have Wx:=(hO.BG2 k0 k8).2.1.ix XP (i:=(j:Int)) Qo c1;refine⟨hO.AC3 k0 k8,_,_,_,WY,Wx,hO.Be4 k0 k8 Qo c1,⟨Qo,Qo⟩,λw2 Rg _=>Qx Qo ⟨Qo,?_,?_⟩⟩
  ·have e2:=e1.WR Rg;simp only[Ig] at e2;rw[zp5 _ _ Qo] at e2;exact e2
  ·exact(hX.trans (z2j Qo)).trans Rg.of_nil
 ·have RW:¬(j:Int)<(b.locals.length:Int):=Ou RW;have hk2:j=b.locals.length:=Qo;subst hk2;rw[List.drop_length,List.append_nil] at hO;intro R7 Rg _;refine I3 (zdu (hO.WR Rg) k0 k8 (by show b.RE.length<=_;omega)) ?_;rintro e wv ⟨he,hM,hy⟩;refine⟨he,Xj,λR6 Sn=>⟨rfl,?_,((hX.trans Rg.of_nil).trans hy).trans Sn.of_nil⟩⟩;unfold Jp;rw[show List.replicate b.RE.length (0:Int)=List.replicate b.locals.length 0 by rw[hdl]];exact hM.WR Sn
def z52(p:Int):(if p<20 then p else 20)=ZK 20 p:=by
 unfold ZK
 split <;> split <;> omega
def zvj{l:List Bool}{c:Int}(c0:0<=c)(c1:c<(l.length:Int))(h:gi l c=false):l.set c.toNat false=l:=by
 have:=Le c0 c1
 rwa[h] at this
def zzf{l:List Int}{c:Int}(c0:0<=c)(c1:c<(l.length:Int))(h:gi l c=0):l.set c.toNat 0=l:=by
 have:=Le c0 c1
 rwa[h] at this
def zlm(h:Zj 8 base w (RZ W k b) m)(k0:0<=k)(k8:k<8)(hb:OY b){c:Int}(c0:0<=c)(c1:c<(b.locals.length:Int)) :
  Cz VE #[.pointer (zop m k),I c] w λe w'=>e=.returned (I (ZQ b c).2)/\zrx base W m k (ZQ b c).1 w w':=by
 refine(Fh (zop m k) c (R:=λv w'=>v=I (ZQ b c).2/\zrx base W m k (ZQ b c).1 w w') ?_).mono λe w' ⟨v,he,hv,h3⟩=>⟨by rw[he,hv],h3⟩
 have he':=hb.each c c0 c1;have hdl:=hb.dl;have p1:=hb.p1;have p2:=hb.p2;have q2:=hb.q2;have hm:=za7 p1;have hs:=h.AC3 k0 k8;have hL:=(h.BG2 k0 k8).2.1;have hD:=(h.BG2 k0 k8).2.2;have Wx:=hL.ix XP c0 c1;refine⟨hs,_,_,_,h.bdC k0 k8 (j:=3) rfl,Wx,_,hL c c0 c1,λg wr hx=>?_,λg=>⟨hs,_,h.bdC k0 k8 (j:=1) rfl,?_⟩⟩
 ·have ht:ZQ b c=(b,0):=by unfold ZQ;rw[C' (Ot g)]
  rw[ht];exact⟨rfl,h.WR hx,hx.of_nil⟩
 have g:=Ou g;have hz:gi b.locals c=0:=Qo;have ht:ZQ b c=(⟨b.I',b.RU-ZK 20 b.RU,b.SB,b.locals.set c.toNat (ZK 20 b.RU),b.RE.set c.toNat (ZK 20 b.RU==0)⟩,if ZK 20 b.RU=0 then 2 else 0):=by unfold ZQ;rw[B' g]
 rw[ht,z52];refine⟨λg2=>?_,λg2=>?_⟩
 ·have g2':ZK 20 b.RU=0:=by simpa using g2
  have e1:=h.By0 k0 k8 c0 Qo true;refine⟨hs,_,_,_,h.bdC k0 k8 (j:=4) rfl,hD.ix Lw c0 Qo,h.CG4 k0 k8 c0 Qo,λwr hx=>⟨by rw[C' g2'],?_,(z6e Qo).trans hx.of_nil⟩⟩
  dsimp only
  rw[g2',Int.sub_zero,zzf c0 c1 hz];exact e1.WR hx
 ·have g2':ZK 20 b.RU≠0:=by simpa using g2
  have hdr:gi b.RE c=false:=by
   cases hd:gi b.RE c with
   |false=>rfl
   |true=>have:=(he'.2.2 hd).2;omega
  have e1:=h.BG3 k0 k8 (b':={ b with RU:=b.RU-ZK 20 b.RU }) rfl rfl (j:=1) (vs:=[I (b.RU-ZK 20 b.RU)]) rfl Qs;have e2:=e1.A79 k0 k8 c0 c1 (ZK 20 b.RU);have hX:=(Zj.Ab5 (m:=m) (k:=k) (w:=w) (j:=1) (vs:=[I (b.RU-ZK 20 b.RU)])).trans (z2j (m:=m) (k:=Int.toNat c*1) (vs:=[I (ZK 20 b.RU)]) (i:=k.toNat) Qo);refine⟨hs,_,h.bdC k0 k8 (j:=1) rfl,⟨Qo,Qo⟩,hs,h.By1 k0 k8 (j:=1) Qd,hs,_,_,_,e1.bdC k0 k8 (j:=3) rfl,Wx,e1.Be4 k0 k8 c0 c1,λwr hx=>⟨by rw[B' g2'],?_,hX.trans hx.of_nil⟩⟩
  dsimp only
  rw[g2,zvj c0 Qo hdr];exact e2.WR hx
def zhf(h:Zj 8 base w (RZ W k b) m)(k0:0<=k)(k8:k<8)(hb:OY b){c n:Int}(c0:0<=c)(c1:c<(b.locals.length:Int)) :
  Cz V0 #[.pointer (zop m k),I c,I n] w λe w'=>e=.returned (I (XG b c n).2)/\zrx base W m k (XG b c n).1 w w':=by
 refine(E9 (zop m k) c n (R:=λv w'=>v=I (XG b c n).2/\zrx base W m k (XG b c n).1 w w') ?_).mono λe w' ⟨v,he,hv,h3⟩=>⟨by rw[he,hv],h3⟩
 have he':=hb.each c c0 c1;have q2:=hb.q2;have s1:=hb.s1;have s2:=hb.s2;have hs:=h.AC3 k0 k8;have hL:=(h.BG2 k0 k8).2.1;have Wx:=hL.ix XP c0 c1;refine⟨λ_=>hs,_,_,_,λ_=>h.bdC k0 k8 (j:=3) rfl,λ_=>Wx,_,λ_=>hL c c0 c1,λg wr hx=>?_,λg=>?_⟩
 ·have ht:XG b c n=(b,3):=by unfold XG;rw[C' (by simpa using g)]
  rw[ht];exact⟨rfl,h.WR hx,hx.of_nil⟩
 ·have g':¬(n<1\/n>gi b.locals c):=by simpa using g
  have ht:XG b c n=({ b with SB:=b.SB+n,locals:=b.locals.set c.toNat (gi b.locals c-n) },0):=by unfold XG;rw[B' g']
  rw[ht];have e1:=h.A79 k0 k8 c0 c1 (gi b.locals c-n);have e2:=e1.BG3 k0 k8 (b':={ b with SB:=b.SB+n,locals:=b.locals.set c.toNat (gi b.locals c-n) }) rfl rfl (j:=2) (vs:=[I (b.SB+n)]) rfl Qs;have hX:=(z2j (m:=m) (w:=w) (k:=Int.toNat c*1) (vs:=[I (gi b.locals c-n)]) (i:=k.toNat) (n:=8) Qo).trans (Zj.Ab5 (m:=m) (k:=k) (j:=2) (vs:=[I (b.SB+n)]));exact⟨hs,_,_,_,h.bdC k0 k8 (j:=3) rfl,Wx,_,hL c c0 c1,⟨Qo,Qo⟩,Wx,h.Be4 k0 k8 c0 c1,hs,_,e1.bdC k0 k8 (j:=2) rfl,⟨by show _<=b.SB+n;omega,by show b.SB+n<=_;omega⟩,hs,e1.By1 k0 k8 (j:=2) Qd,λwr hx=>⟨rfl,e2.WR hx,hX.trans hx.of_nil⟩⟩
def Nk(h:Zj 8 base w (RZ W k b) m)(k0:0<=k)(k8:k<8)(hb:OY b){op:z5m} :
  Cz JH #[.pointer (zop m k),.agg (z5x op).toArray] w λe w'=>e=.returned (I (ZL b op).2)/\zrx base W m k (ZL b op).1 w w':=by
 refine(zcq (zop m k) op.kind op.wL op.n (R:=λv w'=>v=I (ZL b op).2/\zrx base W m k (ZL b op).1 w w') ?_).mono λe w' ⟨v,he,hv,h3⟩=>⟨by rw[he,hv],h3⟩
 have hl2:=hb.l2;have hs:=h.AC3 k0 k8;intro b1 dG
 have one:∀{w1:Wo},Q0 [] w w1->∀y∈QN 8 m,y∉[b1]:=λ_ y hy hm=>by
  have:y=b1:=by simpa using hm
  have:=(h.lt y hy).2;omega
 have fin:∀{w1 w2 w3:Wo} {b':Ue} {c:Int},Q0 [] w w1->(∀y∈[b1],y<w1.heap.size)->zrx base W m k b' w1 w2->Q0 [b1] w2 w3->ZL b op=(b',c)->Q9 [b1] w1 w2/\zrx base W m k (ZL b op).1 w w3:=λh1 h2 h3 h4 h5=>by
  refine⟨λy hm=>h3.2.block y (h2 y hm) λjW=>one h1 y jW hm,?_⟩;rw[h5]
  exact ⟨h3.1.ext h4 (one h1), (h1.of_nil.trans h3.2).fresh h4 fun y hm => .inl (by have:y=b1:=by simpa using hm
                                                                                    omega)⟩
 refine⟨λg wr hx eR=>?_,λg=>⟨hs,_,_,_,h.bdC k0 k8 (j:=3) rfl,⟨Qo,Qo⟩,_,QK,λg2 wr hx=>?_,λg2=>?_⟩⟩
 ·have gJ:ZL b op=(Jp b,0):=by unfold ZL;rw[C' (by simpa using g)]
  refine I3 (zdq (h.WR hx) k0 k8 hb) ?_;rintro e wv ⟨he,hR⟩;exact⟨_,he,(fin hx eR hR (Q0.refl _ _) gJ).1,λR6 Sn=>⟨by rw[gJ],(fin hx eR hR Sn gJ).2⟩⟩
 all_goals have g:¬op.kind=4:=by simpa using g
 ·have gJ:ZL b op=(b,1):=by unfold ZL;rw[B' g,C' (by simpa using g2)]
  rw[gJ];exact⟨rfl,h.WR hx,hx.of_nil⟩
 have g2:YT op.wL 0 ((b.locals.length:Int)-1):=by simpa using g2
 obtain⟨c0,c1⟩:=Qv.1 g2;have c1:op.wL<(b.locals.length:Int):=Qo
 have gJ:ZL b op=if op.kind=1 then ZQ b op.wL else if op.kind=2 then XG b op.wL op.n else if op.kind=3 then (YH b op.wL,0) else (b,1):=by
  unfold ZL;rw[B' g,B' (by rw[g2];decide)]
 refine⟨λg3 wr hx eR=>?_,λg3=>⟨λg4 wr hx eR=>?_,λg4=>⟨λg5 wr hx eR=>?_,λg5 wr hx=>?_⟩⟩⟩
 ·rw[C' (by simpa using g3)] at gJ;refine I3 (zlm (h.WR hx) k0 k8 hb c0 c1) ?_;rintro e wv ⟨he,hR⟩;exact⟨_,he,(fin hx eR hR (Q0.refl _ _) gJ).1,λR6 Sn=>⟨by rw[gJ],(fin hx eR hR Sn gJ).2⟩⟩
 ·rw[B' (by simpa using g3),C' (by simpa using g4)] at gJ;refine I3 (zhf (n:=op.n) (h.WR hx) k0 k8 hb c0 c1) ?_;rintro e wv ⟨he,hR⟩;exact⟨_,he,(fin hx eR hR (Q0.refl _ _) gJ).1,λR6 Sn=>⟨by rw[gJ],(fin hx eR hR Sn gJ).2⟩⟩
 ·rw[B' (by simpa using g3),B' (by simpa using g4),C' (by simpa using g5)] at gJ;refine I3 (zdr (h.WR hx) k0 k8 hb c0 c1) ?_;rintro e wv ⟨he,hR⟩;exact⟨_,he,(fin hx eR hR (Q0.refl _ _) gJ).1,λR6 Sn=>⟨by rw[gJ],(fin hx eR hR Sn gJ).2⟩⟩
 ·rw[B' (by simpa using g3),B' (by simpa using g4),B' (by simpa using g5)] at gJ;rw[gJ];exact⟨rfl,h.WR hx,hx.of_nil⟩
end
structure PW (base pb:Nat) (w:Wo) (W:Q7) (m:MW):Prop where
 own:Zj 8 base w W m
 pt:w.heap[pb]? = some (.cells (Qa W m).toArray Q2 (0,0))
 pn:pb∉QN 8 m
abbrev pA(pb:Nat):OA:=some ⟨pb,0,none⟩
structure Mp (base pb:Nat) (bs:List Nat) (w0:Wo) (m0:MW) (w:Wo) (W:Q7) (m:MW):Prop where
 v:Mv 8 base bs w0 m0 w W m
 pt:w.heap[pb]? = some (.cells (Qa W m).toArray Q2 (0,0))
 pn:pb∉QN 8 m
 pb:pb∉bs
section
variable {base pb:Nat}{bs cs:List Nat}{w0 w w':Wo}{W W':Q7}{m0 m m':MW}{b:Nat}
def Mp.start(h:PW base pb w W m):Mp base pb [] w m w W m:=⟨Mv.start h.own,h.pt,h.pn,Qs⟩
def Mp.pw(h:Mp base pb bs w0 m0 w W m):PW base pb w W m:=⟨h.v.own,h.pt,h.pn⟩
def Mp.add(h:Mp base pb bs w0 m0 w W m)(hb:w.heap.size<=b):Mp base pb (bs++[b]) w0 m0 w W m:=⟨h.v.add hb,h.pt,h.pn,λhm=>by
 rcases Im.1 hm with hm|hm
 ·exact h.pb hm
 ·have:pb=b:=by simpa using hm
  have:=UX h.pt;omega⟩
def Mp.step(h:Mp base pb bs w0 m0 w W m)(hx:Q0 bs w w'):Mp base pb bs w0 m0 w' W m:=⟨h.v.step hx,QR h.pt hx h.pb,h.pn,h.pb⟩
def Mp.R5(h:Mp base pb bs w0 m0 w W m)(hx:Q0 [] w w'):Mp base pb bs w0 m0 w' W m:=⟨h.v.R5 hx,QR h.pt hx Qs,h.pn,h.pb⟩
def Mp.call(h:Mp base pb bs w0 m0 w W m)(k:Mp base pb [] w m w' W' m')(hs:∀x∈bs,x<w.heap.size):Mp base pb bs w0 m0 w' W' m':=⟨h.v.call k.v hs,k.pt,k.pn,h.pb⟩
def Mp.kept(h:Mp base pb bs w0 m0 w W m)(k:Mp base pb [] w m w' W' m')(hs:∀x∈bs,x<w.heap.size):Q9 bs w w':=h.v.kept k.v hs
def Mp.Sv(h:Mp base pb bs w0 m0 w W m)(k:Zj 8 base w' W' m)(hx:Q0 (QN 8 m) w w')(he:Qa W' m=Qa W m):Mp base pb bs w0 m0 w' W' m:=⟨h.v.Sv k hx,by rw[he];exact QR h.pt hx h.pn,h.pn,h.pb⟩
def Mp.sub(h:Mp base pb bs w0 m0 w W m)(hs:∀x∈cs,x∈bs):Mp base pb cs w0 m0 w W m:=⟨h.v.Bb9 hs,h.pt,h.pn,λhm=>h.pb (hs _ hm)⟩
def Mp.close(h:Mp base pb bs w0 m0 w W m):Mp base pb [] w0 m0 w W m:=h.sub Qs
def Mp.wpt(h:Mp base pb bs w0 m0 w W m):Ph bs w (pA pb) W m:=⟨VC h.pt h.pb (k0:=0) λj v hj=>by simpa using hj,h.v.rd⟩
def Mp.own(h:Mp base pb bs w0 m0 w W m):Zj 8 base w W m:=h.v.own
def Mp.nb(h:Mp base pb bs w0 m0 w W m):∀x∈QN 8 m,x∉bs:=h.v.nb
end
def zo0{W:Q7}{k c:Int}{s:KD}(h0:0<=k)(h1:k<(W.IE.length:Int)):gi (Rw W k c s).IE k={ gi W.IE k with IH:=(gi W.IE k).IH.set c.toNat s }:=by
 unfold Rw;rw[Yt h0 h1 h0,C' rfl]
def zvi{W:Q7}{k c:Int}{s s':KD}(h0:0<=k)(h1:k<(W.IE.length:Int)):Rw (Rw W k c s) k c s'=Rw W k c s':=by
 show R1 (Rw W k c s) k { gi (Rw W k c s).IE k with IH:=(gi (Rw W k c s).IE k).IH.set c.toNat s' }=_;rw[zo0 h0 h1]
 dsimp only
 rw[List.set_set];exact zjq
def zra{W:Q7}{k c:Int}(h0:0<=k)(h1:k<(W.IE.length:Int))(c0:0<=c)(c1:c<((gi W.IE k).IH.length:Int)):Rw W k c (Qb W k c)=W:=by
 show R1 W k { gi W.IE k with IH:=(gi W.IE k).IH.set c.toNat (gi (gi W.IE k).IH c) }=W;rw[Le c0 c1];unfold R1;rw[Le h0 h1]
section
variable {base pb:Nat}{bs:List Nat}{w:Wo}{W:Q7}{m:MW}{k c:Int}
def Zj.As0(h:Zj 8 base w W m)(k0:0<=k)(k8:k<8)(c0:0<=c)(c1:c<((gi W.IE k).IH.length:Int)){j:Nat}{vs:List Va}{s:KD}(he:T4 s=(T4 (Qb W k c)).take j++vs++(T4 (Qb W k c)).drop (j+vs.length))(hj:j+vs.length<=5) :
  Zj 8 base (Rx w (zv3 m k c) (0+j) vs) (Rw W k c s) m:=by
 have:=h.CE4 k0 Qo c0 c1 he hj;rw[<-z3c] at this;unfold zv3;rw[TJ,Nat.zero_add];exact this
def Zj.Bs7(h:Zj 8 base w W m)(hd:∀x∈QN 8 m,x∉bs)(k0:0<=k)(k8:k<8)(c0:0<=c)(c1:c<((gi W.IE k).IH.length:Int)){j n:Nat}(hj:j+n<=5):Xd bs w (zv3 m k c) (0+j) n:=by
 unfold zv3;refine PP.2 ?_;rw[Nat.zero_add];exact z6l h hd k0 Qo c0 c1 hj
def zjz{vs:List Va}{j:Nat}(k0:0<=k)(k8:k<8):Q0 (QN 8 m) w (Rx w (zv3 m k c) (0+j) vs):=by
 unfold zv3;rw[TJ];exact zmj Qo
def UM(h:PW base pb w W m)(c0:0<=c)(c1:c<(W.IF.length:Int)) :
  Cz Yf #[.agg #[.pointer (pA pb),I c]] w λe w'=>e=.returned (.tuple #[])/\Mp base pb [] w m w' (Rb W c) m:=by
 refine(GW (pA pb) c (R:=λv w'=>v=.tuple #[]/\Mp base pb [] w m w' (Rb W c) m) ?_).mono λe w' ⟨v,he,hv,h3⟩=>⟨by rw[he,hv],h3⟩
 intro b hb;obtain⟨e1,e2⟩:=zs1 h.own c0 c1;have hM:=Mp.start h;have hp:=hM.wpt;have hr:=h.own.rd (bs:=[]) Qs;have hs:=MH (n:=Int.toNat c*5) (hr.c c c0 c1);refine⟨_,VR hp c0 c1,_,VR hp c0 c1,hs,PP.2 (zpg h.own Qs c0 c1 Qd),hs,?_⟩;rw[TJ];refine⟨PP.2 (zpg e1 Qs c0 (by simpa using c1) Qd),?_⟩;rw[TJ];exact λwr hx=>⟨rfl,(hM.Sv e2 (Du.trans Du) (by simp[Qa,Rb,RM])).R5 hx⟩
def zhd{p:OA}{g:Int}(h:Ph bs w p W m)(ht:Yh W.IE)(hu:Q6 W.IE g):PX bs V1 #[.pointer p,I g] w (I (dep 3 W.IE g)):=
 Eu p g λwr hx=>by
  have h:=(h.ext hx).less (cs:=[]) Qs
  have hdr:∀x,Q6 W.IE x->0<=dep 3 W.IE x/\dep 3 W.IE x<=3:=λx hux=>by
   by_cases hz:x=0
   ·subst hz;rw[ZS];omega
   ·obtain⟨_,_,_,d,e,_,hd⟩:=Y3 ht hux hz;omega
  refine⟨λvs=>∃(x s:Int),vs=[I x,I s]/\Q6 W.IE x/\0<=s/\s+dep 3 W.IE x=dep 3 W.IE g,λvs=>(dep 3 W.IE (Y4 0 vs)).toNat,⟨g,0,rfl,hu,Qd,Qo⟩,?_⟩;rintro x s ⟨x',s',he,hux,hs0,hI⟩;simp only[I4,I5,true_and,and_true] at he;obtain⟨rfl,rfl⟩:=he;have hgd:=hdr g hu;have hxd:=hdr x hux;refine⟨λhz=>?_,λhz=>?_⟩
  ·have hz:x≠0:=by simpa using hz
   obtain⟨hp,a,b,d,e,e2,hd⟩:=Y3 ht hux hz;refine⟨⟨Qo,Qo⟩,h.some,_,_,_,h.IE,h.rd.g.ix a b,_,h.rd.g.IG a b,⟨_,_,rfl,hp,Qo,Qo⟩,?_⟩;show (dep 3 W.IE (gi W.IE x).IG).toNat<(dep 3 W.IE x).toNat;omega
  ·have hz:x=0:=by simpa using hz
   subst hz;rw[ZS] at hI;rw[show s=dep 3 W.IE g by omega]
def PC{F K:Int}(h:PW base pb w W m)(rP:SF F K W)(hk:F+Qi<=K)(hK:K<=1000000000000000000)(c0:0<=c)(c1:c<(W.IF.length:Int)) :
  Cz YE #[.agg #[.pointer (pA pb),I c]] w λe w'=>e=.returned (.tuple #[])/\Mp base pb [] w m w' (Qw W c) m:=by
 refine(Km (pA pb) c (R:=λv w'=>v=.tuple #[]/\Mp base pb [] w m w' (Qw W c) m) ?_).mono λe w' ⟨v,he,hv,h3⟩=>⟨by rw[he,hv],h3⟩
 intro x hx;have cZ:=rP.w.a.gl
 refine⟨λvs w1=>∃(j:Nat),vs=[I (3-(j:Int))]/\j<=3/\Mp base pb [x] w m w1 (ZP W c j) m,
  λvs _=>(Y4 0 vs).toNat,λwr hx0 _=>⟨0,rfl,Qd,((Mp.start h).add hx).R5 hx0⟩,?_⟩
 rintro d wv hs ⟨j,he,j3,hM⟩;obtain⟨hS,hO⟩:=HM rP hk c0 c1 j j3;have hN:ZP W c (j+1)=Z4 (ZP W c j) c (3-(j:Int)) 8:=rfl;have hE:j=3->ZP W c j=Qw W c:=λe=>by rw[e];rfl
 generalize ZP W c j=W1 at hM hS hO hN hE;simp only[I4,I5,true_and,and_true] at he;refine⟨λhd=>?_,λhd=>?_⟩
 ·have hd:=Ot hd;have yZ:c<(W1.IF.length:Int):=by rw[hO.c];exact c1
  have C74:W1.IE.length=W.IE.length:=hO.g.len;have hp:=hM.wpt;refine⟨hp.some,_,_,_,hp.IE,?_⟩;rw[C74];refine Jh W.IE.length 0 rfl (λk w2=>k<=8/\Mp base pb [x] w m w2 (Z4 W1 c d k) m) (λw2 Rg _=>⟨Qd,hM.step Rg⟩) λk w2 We ⟨hk8,WM⟩=>?_
  obtain⟨sJ,vB⟩:=FN hS hk (c:=c) (d:=d) Qo c0 yZ k hk8;have hf2:=hO.trans vB;have AA6:(Z4 W1 c d k).IE.length=W.IE.length:=hf2.g.len;have Ac1:(Z4 W1 c d k).IF.length=W.IF.length:=by rw[hf2.c]
  have Wg:Z4 W1 c d (k+1)=if (gi (Z4 W1 c d k).IE (k:Int)).IW=true/\dep 3 (Z4 W1 c d k).IE (k:Int)=d then Rw (Z4 W1 c d k) (k:Int) c (SC (Z4 W1 c d k) (k:Int) c) else Z4 W1 c d k:=rfl;have hN8:k=8->ZP W c (j+1)=Z4 W1 c d k:=λe=>by rw[hN,<-he,e]
  generalize Z4 W1 c d k=W2 at WM sJ vB hf2 AA6 Ac1 Wg hN8;have eQ:=WM.wpt;have hr:=eQ.rd;refine⟨λIV=>?_,λRW=>?_⟩
  ·have IV:=Ot IV;have Re:(k:Int)<(W2.IE.length:Int):=Qo;have Wx:=hr.g.ix (i:=(k:Int)) Qo Re;have hru:=hr.g.IW (i:=(k:Int)) Qo Re;refine⟨eQ.some,_,_,_,eQ.IE,Wx,(gi W2.IE (k:Int)).IW,hru,dep 3 W2.IE (k:Int),λg=>?_,λg=>?_,λg=>?_⟩
   ·exact zhd eQ sJ.w.a.tree (Q5.2 ⟨Qo,Re,by simpa using g⟩)
   ·refine⟨⟨Qo,Qo⟩,λw3 Rl _=>Qx Qo ⟨Qo,?_⟩⟩;rw[Wg,B']
    ·exact WM.step Rl
    ·rintro⟨h1,h2⟩;rw[h1,h2] at g;simp at g
   ·simp only[H',I6,bne_eq_false_iff_eq] at g;have hu:Q6 W2.IE (k:Int):=Q5.2 ⟨Qo,Re,g.1⟩;rw[C' ⟨g.1,g.2⟩] at Wg;have hsl:=sJ.w.a.sl hu
    have hz:(k:Int)≠0:=λe=>by
     rw[e,ZS] at g;omega
    have hpa:=sJ.w.a.up hu hz;obtain⟨p0,p1,_⟩:=Q5.1 hpa;have hpl:=sJ.w.a.sl hpa;have s1:=sJ.w.s _ c hu c0 Qo;have s2:=sJ.w.s _ c hpa c0 Qo;have lc:=ZB ((Qb W2 (k:Int) c).v-(Qb W2 (gi W2.IE (k:Int)).IG c).IL) (Qb W2 (k:Int) c).w;have lm:=ZH (Qb W2 (k:Int) c).w;have hsh:=eQ.sh (g:=(k:Int)) (c:=c) Qo Re c0 Qo;have Cl4:=eQ.sh (g:=(gi W2.IE (k:Int)).IG) (c:=c) p0 p1 c0 Qo;have A81:=Kt (g:=(k:Int)) eQ sJ.w.a c0 Qo;have CB7:=zdl (g:=(k:Int)) eQ sJ.w.a hu c0 Qo;have cS:c<((gi W2.IE (k:Int)).IH.length:Int):=Qo;refine⟨_,Zn eQ Qo Re c0 cS,QJ W2 (k:Int) c,A81,Jm W2 (k:Int) c,λ_=>CB7,λ_=>hsh.1,_,λ_=>hsh.2 (j:=1) rfl,λg2=>?_,λg2=>?_⟩
    ·have hss:SC W2 (k:Int) c=⟨(Qb W2 (k:Int) c).IL,QJ W2 (k:Int) c && !Jm W2 (k:Int) c,(Qb W2 (gi W2.IE (k:Int)).IG c).IL+Y6 ((Qb W2 (k:Int) c).v-(Qb W2 (gi W2.IE (k:Int)).IG c).IL) (Qb W2 (k:Int) c).w,(Qb W2 (k:Int) c).w,(Qb W2 (k:Int) c).sum⟩:=by
      unfold SC;rw[C']
      simpa[Qb] using g2
     have e1:=WM.own.As0 (k:=(k:Int)) (c:=c) Qo Qo c0 cS (j:=2) (vs:=[I ((Qb W2 (gi W2.IE (k:Int)).IG c).IL+Y6 ((Qb W2 (k:Int) c).v-(Qb W2 (gi W2.IE (k:Int)).IG c).IL) (Qb W2 (k:Int) c).w)]) (s:={ Qb W2 (k:Int) c with v:=(Qb W2 (gi W2.IE (k:Int)).IG c).IL+Y6 ((Qb W2 (k:Int) c).v-(Qb W2 (gi W2.IE (k:Int)).IG c).IL) (Qb W2 (k:Int) c).w }) rfl Qs;have cS1:c<((gi (Rw W2 (k:Int) c { Qb W2 (k:Int) c with v:=(Qb W2 (gi W2.IE (k:Int)).IG c).IL+Y6 ((Qb W2 (k:Int) c).v-(Qb W2 (gi W2.IE (k:Int)).IG c).IL) (Qb W2 (k:Int) c).w }).IE (k:Int)).IH.length:Int):=by rw[zju Qo Re Qo];exact cS
     have eR:Qb (Rw W2 (k:Int) c { Qb W2 (k:Int) c with v:=(Qb W2 (gi W2.IE (k:Int)).IG c).IL+Y6 ((Qb W2 (k:Int) c).v-(Qb W2 (gi W2.IE (k:Int)).IG c).IL) (Qb W2 (k:Int) c).w }) (k:Int) c={ Qb W2 (k:Int) c with v:=(Qb W2 (gi W2.IE (k:Int)).IG c).IL+Y6 ((Qb W2 (k:Int) c).v-(Qb W2 (gi W2.IE (k:Int)).IG c).IL) (Qb W2 (k:Int) c).w }:=by
      rw[XS Qo Re c0 cS Qo c0,C' ⟨rfl,rfl⟩]
     have e2:=e1.As0 (k:=(k:Int)) (c:=c) Qo Qo c0 cS1 (j:=1) (vs:=[.bool (QJ W2 (k:Int) c && !Jm W2 (k:Int) c)]) (s:=SC W2 (k:Int) c) (by rw[eR,hss];rfl) Qs;rw[zvi Qo Re] at e2;have hX:=(zjz (m:=m) (w:=w2) (k:=(k:Int)) (c:=c) (j:=2) (vs:=[I ((Qb W2 (gi W2.IE (k:Int)).IG c).IL+Y6 ((Qb W2 (k:Int) c).v-(Qb W2 (gi W2.IE (k:Int)).IG c).IL) (Qb W2 (k:Int) c).w)]) Qo Qo).trans (zjz (m:=m) (k:=(k:Int)) (c:=c) (j:=1) (vs:=[.bool (QJ W2 (k:Int) c && !Jm W2 (k:Int) c)]) Qo Qo);have heq:Qa (Rw W2 (k:Int) c (SC W2 (k:Int) c)) m=Qa W2 m:=JZ (UO Qo Re).fr;refine⟨eQ.some,_,_,_,eQ.IE,Wx,_,hr.g.IG Qo Re,_,Zn eQ p0 p1 c0 Qo,Cl4.1,_,Cl4.2 (j:=0) rfl,hsh.1,_,hsh.2 (j:=2) rfl,⟨Qo,Qo⟩,hsh.1,_,hsh.2 (j:=3) rfl,_,zg9,⟨Qo,Qo⟩,hsh.1,WM.own.Bs7 WM.nb Qo Qo c0 cS (j:=2) Qd,hsh.1,e1.Bs7 WM.nb Qo Qo c0 cS1 (j:=1) Qd,⟨Qo,Qo⟩,λw3 Rl _=>Qx Qo ⟨Qo,?_⟩⟩;rw[Wg];exact(WM.Sv e2 hX heq).step Rl
    ·have hss:SC W2 (k:Int) c=⟨(Qb W2 (k:Int) c).IL,QJ W2 (k:Int) c && !Jm W2 (k:Int) c,(Qb W2 (k:Int) c).v,(Qb W2 (k:Int) c).w,(Qb W2 (k:Int) c).sum⟩:=by
      unfold SC;rw[B'];intro h1;rw[h1.1,show (Qb W2 (k:Int) c).on=false from h1.2] at g2;cases g2
     have e2:=WM.own.As0 (k:=(k:Int)) (c:=c) Qo Qo c0 cS (j:=1) (vs:=[.bool (QJ W2 (k:Int) c && !Jm W2 (k:Int) c)]) (s:=SC W2 (k:Int) c) (by rw[hss];rfl) Qs;have heq:Qa (Rw W2 (k:Int) c (SC W2 (k:Int) c)) m=Qa W2 m:=JZ (UO Qo Re).fr;refine⟨hsh.1,WM.own.Bs7 WM.nb Qo Qo c0 cS (j:=1) Qd,⟨Qo,Qo⟩,λw3 Rl _=>Qx Qo ⟨Qo,?_⟩⟩;rw[Wg];exact(WM.Sv e2 (zjz Qo Qo) heq).step Rl
  ·have RW:=Ou RW;have hN8:=hN8 Qo;refine⟨⟨Qo,Qo⟩,λw3 Rl _=>⟨⟨j+1,?_,Qo,?_⟩,?_⟩⟩
   ·rw[show d-1=3-((j+1:Nat):Int) by omega]
   ·rw[hN8];exact WM.step Rl
   ·show (d-1).toNat<d.toNat;omega
 ·have hd:=Ou hd;rw[<-hE Qo];exact λw2 Rg=>⟨rfl,(hM.step Rg).close⟩
end
def TC(W:Q7)(g c:Int):Nat->Int
 |0=>100000000000000001
 |k+1=>if Sf W g c k=true then (if S9 W c k<TC W g c k then S9 W c k else TC W g c k) else TC W g c k
def An{W:Q7}{g c:Int}:∀k:Nat,(∀j,j<k->Sf W g c j->S9 W c j<=100000000000000000)->TC W g c k=if Sw W g c k=true then S3 W g c k else 100000000000000001
 |0,_=>by
  have:Sw W g c 0=false:=rfl;rw[this];rfl
 |k+1,h=>by
  have ih:=An k λj hj=>h j Qo
  simp only[TC]
  cases hp:Sf W g c k with
  |false=>
   have:=Fe (W:=W) (g:=g) (c:=c) (k:=k) (by rw[hp];rfl);rw[B' Qd,ih,this.1,this.2]
  |true=>
   have hv:=h k Qo hp;rw[C' rfl,ih]
   cases hb:Sw W g c k with
   |false=>
    have:=Ff (W:=W) (g:=g) (c:=c) (k:=k) (by rw[hp,hb];rfl);rw[this.1,this.2,B' (show ¬(false) by decide),C' (show S9 W c k<100000000000000001 by omega),C' (show true=true from rfl)]
   |true=>
    rw[C' rfl]
    by_cases IV:S9 W c k<S3 W g c k
    ·have:=Ff (W:=W) (g:=g) (c:=c) (k:=k) (by rw[hp,Ih IV];simp);rw[this.1,this.2,C' rfl,C' IV]
    ·have:=Fe (W:=W) (g:=g) (c:=c) (k:=k) (by rw[hp,hb,decide_eq_false IV];rfl);rw[this.1,this.2,hb,C' rfl,B' IV]
def z1y{K:Int}{W:Q7}(h:SW K W){g c:Int}(c0:0<=c)(c1:c<(W.IF.length:Int)){j:Nat}(hj:j<20)(hp:Sf W g c j):S9 W c j<=K:=by
 have hl:=h.a.gl;unfold S9
 by_cases h12:j<12
 ·rw[C' h12];exact(h.tv (j:Int) Qo Qo).2
 ·rw[B' h12];unfold Sf at hp;rw[B' h12] at hp;unfold WV at hp;simp only[A'] at hp;have hu:Q6 W.IE ((j-12:Nat):Int):=Q5.2 ⟨Qo,Qo,hp.1.2.1⟩;exact(h.s _ c hu c0 c1).2.2.2.1
section
variable {base pb:Nat}{w:Wo}{W:Q7}{m:MW}{k c:Int}
def zn1{K:Int}(h:PW base pb w W m)(rP:SW K W)(hK0:0<=K)(hK:K<=100000000000000000)(c0:0<=c)(c1:c<(W.IF.length:Int)) :
  Cz Te #[.agg #[.pointer (pA pb),I c]] w λe w'=>e=.returned (.tuple #[])/\Mp base pb [] w m w' (Z3 W c) m:=by
 refine(BZ (pA pb) c (R:=λv w'=>v=.tuple #[]/\Mp base pb [] w m w' (Z3 W c) m) ?_).mono λe w' ⟨v,he,hv,h3⟩=>⟨by rw[he,hv],h3⟩
 intro x hx;have cZ:=rP.a.gl;have hp0:=(Mp.start h).wpt;refine⟨hp0.some,_,_,_,hp0.IE,?_⟩;refine Jh W.IE.length 0 rfl (λk w2=>k<=8/\Mp base pb [x] w m w2 (QD W c k) m) (λw2 Rg _=>⟨Qd,((Mp.start h).add hx).R5 Rg⟩) λk w2 We ⟨hk8,WM⟩=>?_
 obtain⟨sJ,vB⟩:=Oj rP hK0 c0 c1 k hk8;have AA6:(QD W c k).IE.length=W.IE.length:=vB.g.len;have Ac1:(QD W c k).IF.length=W.IF.length:=by rw[vB.c]
 have Wg:QD W c (k+1)=if (gi (QD W c k).IE (k:Int)).IW=true/\Sw (QD W c k) (k:Int) c 20/\S3 (QD W c k) (k:Int) c 20>(Qb (QD W c k) (k:Int) c).IL then Rw (QD W c k) (k:Int) c (Kn (QD W c k) (k:Int) c) else QD W c k:=rfl;have hN8:k=8->Z3 W c=QD W c k:=λe=>by rw[e];rfl
 generalize QD W c k=W2 at WM sJ vB AA6 Ac1 Wg hN8;have hp:=WM.wpt;have hr:=hp.rd;have qT:=sJ.a.t;refine⟨λIV=>?_,λRW=>?_⟩
 ·have IV:=Ot IV;have Re:(k:Int)<(W2.IE.length:Int):=Qo;refine⟨hp.some,_,_,_,hp.IE,hr.g.ix (i:=(k:Int)) Qo Re,(gi W2.IE (k:Int)).IW,hr.g.IW Qo Re,λg=>?_,λg=>?_⟩
  ·refine⟨⟨Qo,Qo⟩,λw3 Rl _=>Qx Qo ⟨Qo,?_⟩⟩;rw[Wg,B' (λh1=>by rw[h1.1] at g;cases g)];exact WM.step Rl
  have g:(gi W2.IE (k:Int)).IW:=by simpa using g
  have hu:Q6 W2.IE (k:Int):=Q5.2 ⟨Qo,Re,g⟩;have hsl:=sJ.a.sl hu;have cS:c<((gi W2.IE (k:Int)).IH.length:Int):=Qo;have hlm:=An (W:=W2) (g:=(k:Int)) (c:=c) 20 λj hj hp=>IC (z1y sJ c0 Qo hj hp) hK
  refine⟨hp.some,_,_,_,hp.IJ,λvs w1=>∃(t:Nat),vs=[I (TC W2 (k:Int) c t),I (t:Int)]/\t<=12/\Mp base pb [x] w m w1 W2 m,Zp W2.IJ.length 1,λw3 Rl _=>⟨0,rfl,Qd,WM.step Rl⟩,?_⟩;rintro least x1 Rc jS ⟨t,he,ht,jC⟩;simp only[I4,I5,true_and,and_true] at he;obtain⟨rfl,rfl⟩:=he;have hp3:=jC.wpt;refine⟨λB13=>?_,λAY2=>?_⟩
  ·have B13:=Ot B13;have hq:=Kv (g:=(k:Int)) (c:=c) hp3 (t:=(t:Int)) Qo B13;rw[Ig] at hq;refine⟨hp3.rd.t.ix QT Qo B13,_,_,_,_,_,_,_,_,_,hp3.rd.t (t:Int) Qo B13,λb1 dG=>⟨dU W2 (k:Int) c t,hq,λga=>⟨⟨Qo,Qo⟩,λw4 W8 _=>⟨⟨t+1,?_,Qo,jC.step W8⟩,?_⟩⟩,λga=>⟨⟨Qo,Qo⟩,λw4 W8 _=>⟨⟨t+1,?_,Qo,jC.step W8⟩,?_⟩⟩⟩⟩
   ·simp only[TC];rw[Ji Qo,C' ga,Hd Qo];rfl
   ·simp only[Zp,Xp,Y4,Ie,List.getElem?_cons_succ];omega
   ·simp only[TC];rw[Ji Qo,B' (by rw[ga];decide)];rfl
   ·simp only[Zp,Xp,Y4,Ie,List.getElem?_cons_succ];omega
  have AY2:=Ou AY2;have CS3:t=12:=Qo;subst CS3;refine⟨hp3.some,_,_,_,hp3.IE,λvs w1=>∃(i:Nat),vs=[I (TC W2 (k:Int) c (12+i)),I (i:Int)]/\i<=8/\Mp base pb [x] w m w1 W2 m,Zp W2.IE.length 1,λw4 W8 _=>⟨0,rfl,Qd,jC.step W8⟩,?_⟩;rintro jL x9 RO dX ⟨i,he,hi,dW⟩;simp only[I4,I5,true_and,and_true] at he;obtain⟨rfl,rfl⟩:=he;have hp4:=dW.wpt;refine⟨λBq8=>?_,λCg0=>?_⟩
  ·have Bq8:=Ot Bq8;have hh:=LB (g:=(k:Int)) hp4 sJ.a (k:=(i:Int)) Qo Bq8 c0 Qo;rw[Ig] at hh
   have dH:TC W2 (k:Int) c (12+(i+1))=if WV W2 (k:Int) c i=true then (if (Qb W2 (i:Int) c).v<TC W2 (k:Int) c (12+i) then (Qb W2 (i:Int) c).v else TC W2 (k:Int) c (12+i)) else TC W2 (k:Int) c (12+i):=by
    rw[show 12+(i+1)=12+i+1 from rfl];simp only[TC];rw[J3,Hc]
   refine⟨WV W2 (k:Int) c i,hh,λga=>?_,λga=>⟨⟨Qo,Qo⟩,λw5 Sx _=>⟨⟨i+1,?_,Qo,dW.step Sx⟩,?_⟩⟩⟩
   ·have hui:Q6 W2.IE (i:Int):=by
     unfold WV at ga;simp only[A'] at ga;exact Q5.2 ⟨Qo,Bq8,ga.1.2.1⟩
    have Dk2:=sJ.a.sl hui;have hsh:=hp4.sh (g:=(i:Int)) (c:=c) Qo Bq8 c0 Qo;refine⟨_,Zn hp4 Qo Bq8 c0 Qo,hsh.1,_,hsh.2 (j:=2) rfl,⟨Qo,Qo⟩,λw5 Sx _=>⟨⟨i+1,?_,Qo,dW.step Sx⟩,?_⟩⟩
    ·rw[dH,C' ga];rfl
    ·simp only[Zp,Xp,Y4,Ie,List.getElem?_cons_succ];omega
   ·rw[dH,B' (by rw[ga];decide)];rfl
   ·simp only[Zp,Xp,Y4,Ie,List.getElem?_cons_succ];omega
  have Cg0:=Ou Cg0;have hi8:i=8:=Qo;subst hi8;rw[show 12+8=20 from rfl,hlm];have hsh:=hp4.sh (g:=(k:Int)) (c:=c) Qo Re c0 cS;have br:=zce sJ (k:=(k:Int)) c0 Qo hK0;refine⟨λgl=>?_,λgl=>?_⟩
  ·have hb:Sw W2 (k:Int) c 20:=Iq λhb=>by rw[B' hb] at gl;revert gl;decide
   rw[C' hb];have e1:=dW.own.As0 (k:=(k:Int)) (c:=c) Qo Qo c0 cS (j:=0) (vs:=[I (if S3 W2 (k:Int) c 20>(Qb W2 (k:Int) c).IL then S3 W2 (k:Int) c 20 else (Qb W2 (k:Int) c).IL)]) (s:={ Qb W2 (k:Int) c with IL:=if S3 W2 (k:Int) c 20>(Qb W2 (k:Int) c).IL then S3 W2 (k:Int) c 20 else (Qb W2 (k:Int) c).IL }) rfl Qs
   have heq:Rw W2 (k:Int) c { Qb W2 (k:Int) c with IL:=if S3 W2 (k:Int) c 20>(Qb W2 (k:Int) c).IL then S3 W2 (k:Int) c 20 else (Qb W2 (k:Int) c).IL }=QD W c (k+1):=by
    rw[Wg]
    by_cases hgt:S3 W2 (k:Int) c 20>(Qb W2 (k:Int) c).IL
    ·rw[C' hgt,C' (show (gi W2.IE (k:Int)).IW/\Sw W2 (k:Int) c 20/\_>_ from ⟨g,hb,hgt⟩)];rfl
    ·rw[B' hgt,B' (λh=>hgt h.2.2)];exact zra Qo Re c0 cS
   have hfr:Qa (Rw W2 (k:Int) c { Qb W2 (k:Int) c with IL:=if S3 W2 (k:Int) c 20>(Qb W2 (k:Int) c).IL then S3 W2 (k:Int) c 20 else (Qb W2 (k:Int) c).IL }) m=Qa W2 m:=JZ (UO Qo Re).fr;refine⟨_,Zn hp4 Qo Re c0 cS,_,Zn hp4 Qo Re c0 cS,hsh.1,_,hsh.2 (j:=0) rfl,hsh.1,dW.own.Bs7 dW.nb Qo Qo c0 cS (j:=0) Qd,⟨Qo,Qo⟩,λw5 Sx _=>Qx (w1:=w2) Qo ⟨Qo,?_⟩⟩;rw[<-heq];exact(dW.Sv e1 (zjz Qo Qo) hfr).step Sx
  ·have hb:¬Sw W2 (k:Int) c 20:=λhb=>by
    rw[C' hb] at gl;have:=Ou gl;omega
   refine⟨⟨Qo,Qo⟩,λw5 Sx _=>Qx (w1:=w2) Qo ⟨Qo,?_⟩⟩;rw[Wg,B' (λh=>hb h.2.1)];exact dW.step Sx
 ·have RW:=Ou RW;rw[hN8 Qo];exact λw3 Rl=>⟨rfl,(WM.step Rl).close⟩
def Mp.nil{w0 w:Wo}{m0:MW}(h:Mp base pb [] w0 m0 w W m){w':Wo}(hx:Q0 [] w w'):Mp base pb [] w0 m0 w' W m:=h.step hx
def JO{K:Int}(h:PW base pb w W m)(rP:SW K W)(hK0:0<=K)(hK:K+UQ<=100000000000000000) :
  Cz Zx #[.pointer (pA pb)] w λe w'=>e=.returned (.tuple #[])/\Mp base pb [] w m w' (Qf W) m:=by
 refine(Dh (pA pb) (R:=λv w'=>v=.tuple #[]/\Mp base pb [] w m w' (Qf W) m) ?_).mono λe w' ⟨v,he,hv,h3⟩=>⟨by rw[he,hv],h3⟩
 have cZ:=rP.a.gl;have Cf0:=rP.a.c2;simp only[UQ,Qi] at hK;have hp0:=(Mp.start h).wpt;refine⟨hp0.some,_,_,_,hp0.IF,?_⟩;refine Jh W.IF.length 0 rfl (λk w1=>k<=W.IF.length/\Mp base pb [] w m w1 (Zr W k) m) (λw1 Sn _=>⟨Ic _,(Mp.start h).R5 Sn⟩) λk w1 eR ⟨hk,hM⟩=>?_
 obtain⟨hS,hO⟩:=VY (F:=K) (K:=K+Qi) (rP.sf.mono (I2 _) (by simp only[Qi];omega)) (I2 _) k hk;have Wg:Zr W (k+1)=Qw (Zr W k) (k:Int):=rfl;have AA5:k=W.IF.length->Zr W W.IF.length=Zr W k:=λe=>by rw[e]
 obtain⟨n1,n2,n3⟩:=Ly hO.fr;generalize Zr W k=W1 at hM hS hO Wg AA5 n1 n2 n3;refine⟨λIV=>⟨_,_,Uq,λR6 Sn We=>?_⟩,λRW=>?_⟩
 ·have IV:=Ot IV;have hM1:=hM.nil Sn;refine I3 (PC hM1.pw hS Qo (by simp only[Qi];omega) (c:=(k:Int)) Qo Qo) ?_;rintro e RO ⟨he,hy⟩;refine⟨he,Xj,⟨Qo,Qo⟩,λw3 Rl _=>Qx Qo ⟨Qo,?_⟩⟩;rw[Wg];exact(hM1.call hy Qs).nil Rl
 have RW:=Ou RW;have AA5:=AA5 Qo;have T':Qf W=Xb (Mk W1) W.IF.length:=by unfold Qf;rw[AA5]
 have hp1:=hM.wpt;refine⟨hp1.some,_,_,_,hp1.IE,?_⟩;refine Jh W1.IE.length 0 rfl (λg w2=>g<=8/\Mp base pb [] w m w2 (Y8 W1 g) m) (λw2 Rg _=>⟨Qd,hM.nil Rg⟩) λg w2 We ⟨hg8,WM⟩=>?_
 obtain⟨sJ,vB⟩:=Vd hS g hg8;have AW6:Y8 W1 (g+1)=if (gi (Y8 W1 g).IE (g:Int)).IW=true/\(gi (Y8 W1 g).IE (g:Int)).IM.I'≠0 then Y5 (Y8 W1 g) (g:Int) (Y8 W1 g).IF.length else Y8 W1 g:=rfl;have Ac4:g=8->Mk W1=Y8 W1 g:=λe=>by rw[e];rfl
 have hf2:=hO.fr.trans vB.fr;generalize Y8 W1 g=W2 at WM sJ vB AW6 Ac4 hf2;obtain⟨q1,q2,q3⟩:=Ly hf2;have eQ:=WM.wpt;refine⟨λIV=>?_,λbK=>?_⟩
 ·have IV:=Ot IV;have Re:(g:Int)<(W2.IE.length:Int):=Qo;have hrl:=eQ.rd.g.Cn7 (i:=(g:Int)) Qo Re;refine⟨eQ.some,_,_,_,eQ.IE,eQ.rd.g.ix Qo Re,_,_,_,hrl,?_⟩
  by_cases hq:(gi W2.IE (g:Int)).IW/\(gi W2.IE (g:Int)).IM.I'≠0
  ·rw[C' hq] at AW6;have hu:Q6 W2.IE (g:Int):=Q5.2 ⟨Qo,Re,hq.1⟩;have hbl:=((sJ.w.a.u hu).2.2.IM hq.2).2.1;refine Jh (gi W2.IE (g:Int)).IM.locals.length 0 rfl (λc w3=>c<=W2.IF.length/\Mp base pb [] w m w3 (Y5 W2 (g:Int) c) m) (λw3 Rl _=>⟨Ic _,WM.nil Rl⟩) λc w3 jS ⟨hc,jC⟩=>?_
   obtain⟨hS3,hO3,hq3⟩:=H3 sJ hu hq.2 c hc;have AM2:Y5 W2 (g:Int) (c+1)=if gi (gi (Y5 W2 (g:Int) c).IE (g:Int)).IM.locals (c:Int)>0/\QJ (Y5 W2 (g:Int) c) (g:Int) (c:Int)=false then RZ (Y5 W2 (g:Int) c) (g:Int) (YH (gi (Y5 W2 (g:Int) c).IE (g:Int)).IM (c:Int)) else Y5 W2 (g:Int) c:=rfl;have CH5:c=W2.IF.length->Y8 W1 (g+1)=Y5 W2 (g:Int) c:=λe=>by rw[AW6,e]
   have hu3:Q6 (Y5 W2 (g:Int) c).IE (g:Int):=by rw[hO3.g.cD];exact hu
   have hf3:=hf2.trans hO3.fr;generalize Y5 W2 (g:Int) c=W3 at jC hS3 hO3 hq3 AM2 CH5 hu3 hf3;obtain⟨r1,r2,r3⟩:=Ly hf3;obtain⟨u0,u1,rO⟩:=hS3.w.a.u hu3;obtain⟨wM,C59,_⟩:=rO.IM hq3;have Ao4:(g:Int)<(W3.IE.length:Int):=Qo;have hp3:=jC.wpt;have hLo:=hp3.rd.g.locals (g:Int) Qo Ao4;refine⟨λrZ=>?_,λAc7=>?_⟩
   ·have rZ:=Ot rZ;have Ch1:=hLo.ix XP (i:=(c:Int)) Qo Qo;rw[C59,r1,<-q1,<-hbl] at Ch1;have A81:=Kt (g:=(g:Int)) (c:=(c:Int)) hp3 hS3.w.a Qo Qo;refine⟨Ch1,_,hLo (c:Int) Qo Qo,_,_,λ_=>Uq,_,λ_=>A81,λg3 S5 Sx _=>?_,λg3=>?_⟩
    ·simp only[A',Ij,ID] at g3;rw[C' g3] at AM2;have tV:=jC.nil Sx;have B17:Zj 8 base S5 (RZ W3 (g:Int) (gi W3.IE (g:Int)).IM) m:=by rw[G0 Qo Ao4];exact tV.own
     refine I3 (Nk (op:=⟨3,(c:Int),0⟩) B17 Qo Qo wM) ?_;rintro e1 eD ⟨qC,hB,hX⟩
     have gJ:ZL (gi W3.IE (g:Int)).IM ⟨3,(c:Int),0⟩=(YH (gi W3.IE (g:Int)).IM (c:Int),0):=by
      unfold ZL;rw[B' (show ¬(3:Int)=4 by decide),B' (by rw[Qv.2 (by show 0<=(c:Int)/\(c:Int)<=_;omega)];decide),B' (show ¬(3:Int)=1 by decide),B' (show ¬(3:Int)=2 by decide),C' rfl]
     rw[gJ] at qC hB
     dsimp only at qC hB
     refine⟨_,qC,Xj,⟨Qo,Qo⟩,λw6 bM _=>Qx Qo ⟨Qo,?_⟩⟩;rw[AM2];exact(tV.Sv hB hX (JZ (HP Qo Ao4).fr)).nil bM
    ·refine⟨⟨Qo,Qo⟩,λw6 bM _=>Qx Qo ⟨Qo,?_⟩⟩;rw[AM2,B']
     ·exact jC.nil bM
     ·rintro⟨h1,h2⟩;rw[h2,Ih h1] at g3;cases g3
   ·have Ac7:=Ou Ac7;refine⟨⟨Qo,Qo⟩,λw6 bM _=>Qx Qo ⟨Qo,?_⟩⟩;rw[CH5 Qo];exact jC.nil bM
  ·rw[B' hq] at AW6
   have hz:(gi W2.IE (g:Int)).IM.locals.length=0:=by
    have hgp:=sJ.w.a.grp (g:Int) Qo Qo
    cases hu:(gi W2.IE (g:Int)).IW with
    |false=>exact(Hj (hgp.1 hu).b).2.2.2.1
    |true=>
     have h0:(gi W2.IE (g:Int)).IM.I'=0:=Iq λhn=>hq ⟨hu,hn⟩
     exact(Hj ((hgp.2 hu).none h0).1).2.2.2.1
   rw[hz];refine Jh 0 0 rfl (λc w3=>c<=0/\Mp base pb [] w m w3 W2 m) (λw3 Rl _=>⟨Ic _,WM.nil Rl⟩) λc w3 jS ⟨hc,jC⟩=>⟨λrZ=>?_,λ_=>⟨⟨Qo,Qo⟩,λw6 bM _=>Qx Qo ⟨Qo,?_⟩⟩⟩
   ·have:=Ot rZ;omega
   ·rw[AW6];exact jC.nil bM
 have bK:=Ou bK;have Ac4:=Ac4 Qo;rw[Ac4] at T';have hS4:SW (K+Qi) W2:=sJ.w;refine⟨eQ.some,_,_,_,eQ.IF,?_⟩;refine Jh W2.IF.length 0 rfl (λk w3=>k<=W2.IF.length/\Mp base pb [] w m w3 (Xb W2 k) m) (λw3 Rl _=>⟨Ic _,WM.nil Rl⟩) λk w3 jS ⟨hk,rU⟩=>?_
 obtain⟨hS7,hf7⟩:=Lf hS4 (by simp only[Qi];omega) k hk;have Ac3:Xb W2 (k+1)=Xc (Xb W2 k) (k:Int):=rfl;have Ac5:k=W2.IF.length->Qf W=Xb W2 k:=λe=>by rw[T',<-q1,e]
 have hfW:=hf2.trans hf7;obtain⟨q1,q2,q3⟩:=Ly hfW;generalize Xb W2 k=W7 at rU hS7 hf7 Ac3 Ac5 hfW q1 q2 q3;refine⟨λIV=>⟨_,_,Uq,λb hb Sl zH sA=>?_⟩,λRW=>?_⟩
 ·have IV:=Ot IV;have hM9:=(rU.add hb).R5 zH;have hk4:(k:Int)<=4:=Qo;have yZ:(k:Int)<(W7.IF.length:Int):=Qo;have hSF:=hS7.sf.mono (F':=K+Qi+(k:Int)*Qi) (K':=K+Qi+(k:Int)*Qi+Qi) (I2 _) (by simp only[Qi];omega);refine I3 (PC hM9.pw hSF (I2 _) (by simp only[Qi];omega) (c:=(k:Int)) Qo yZ) ?_;rintro e2 fS ⟨bS,SX⟩;obtain⟨hS8,hO8⟩:=KX hSF (I2 _) (c:=(k:Int)) Qo yZ;have hM8:=hM9.call SX sA;refine⟨bS,hM9.kept SX sA,λSm wQ AD3=>?_⟩;have BW7:=hM8.step wQ;have dH:Xc W7 (k:Int)=if Tz (Z3 (Qw W7 (k:Int)) (k:Int)) (k:Int)=true then Rb (Z3 (Qw W7 (k:Int)) (k:Int)) (k:Int) else Z3 (Qw W7 (k:Int)) (k:Int):=rfl;have c2':(k:Int)<((Qw W7 (k:Int)).IF.length:Int):=by rw[hO8.c];exact yZ
  refine I3 (zn1 BW7.pw hS8.w (by simp only[Qi];omega) (by simp only[Qi];omega) (c:=(k:Int)) Qo c2') ?_;rintro e3 jQ ⟨gZ,fU⟩;obtain⟨CO3,CO1⟩:=Oj hS8.w (by simp only[Qi];omega) (c:=(k:Int)) Qo c2' 8 Qd;have Ao2:=BW7.call fU AD3;have BW6:=BW7.kept fU AD3;have Bq3:Fr W (Z3 (Qw W7 (k:Int)) (k:Int)):=(hfW.trans hO8.fr).trans CO1.fr;have AC8:SW (K+Qi+(k:Int)*Qi+Qi) (Z3 (Qw W7 (k:Int)) (k:Int)):=CO3;generalize Z3 (Qw W7 (k:Int)) (k:Int)=W11 at Ao2 Bq3 AC8 dH;obtain⟨r1,r2,r3⟩:=Ly Bq3;have hp:=Ao2.wpt;have c3':(k:Int)<(W11.IF.length:Int):=Qo;have zD:=AC8.cu (k:Int) Qo c3';have qT:=AC8.a.t
  have hT:((gi W11.IF (k:Int)).cur != -1)->0<=(gi W11.IF (k:Int)).cur/\(gi W11.IF (k:Int)).cur<(W11.IJ.length:Int):=λg=>by
   have:(gi W11.IF (k:Int)).cur≠-1:=by simpa using g
   exact⟨Qo,Qo⟩
  have CB5:=VR (c:=(k:Int)) hp Qo c3';have CJ3:=MH (n:=Int.toNat (k:Int)*5) (hp.rd.c (k:Int) Qo c3');have WY:=JG (hp.rd.c (k:Int) Qo c3') (j:=1) rfl
  have CH8:Tz W11 (k:Int)=(((gi W11.IF (k:Int)).cur != -1) && !(((Q8 W11 (gi W11.IF (k:Int)).cur).R2==(k:Int))&&Zq W11 (gi W11.IF (k:Int)).cur)):=by
   unfold Tz
   have e:decide ((gi W11.IF (k:Int)).cur>=0)=((gi W11.IF (k:Int)).cur != -1):=by
    by_cases hc:(gi W11.IF (k:Int)).cur = -1
    ·rw[hc];rfl
    ·rw[It.2 hc,Ih Qo]
   rw[e,Bool.not_and];rfl
  refine⟨gZ,BW6,_,CB5,CJ3,_,WY,_,λ_=>CB5,λ_=>CJ3,_,λ_=>WY,_,λg=>DD hp AC8.a (hT g).1 (hT g).2 Qo c3' (λhs=>(AC8.li (hT g).1 (hT g).2 hs).1),λg Sy AD5 Ad3=>?_,λg=>?_⟩
  ·have BW8:=Ao2.step AD5;refine I3 (UM BW8.pw (c:=(k:Int)) Qo c3') ?_;rintro e4 zU ⟨he4,jX⟩;refine⟨he4,BW8.kept jX Ad3,⟨Qo,Qo⟩,λw6 bM _=>Qx Qo ⟨Qo,?_⟩⟩;rw[Ac3,dH,C' (by rw[CH8];exact g)];exact((BW8.call jX Ad3).step bM).close
  ·refine⟨⟨Qo,Qo⟩,λw6 bM _=>Qx Qo ⟨Qo,?_⟩⟩;rw[Ac3,dH,B' (by rw[CH8,g];decide)];exact(Ao2.step bM).close
 ·have RW:=Ou RW;rw[Ac5 Qo];exact λw9 qU=>⟨rfl,rU.nil qU⟩
end
section
variable {b:Ue}{m:MG}{w:Wo}
def zqh(h1:zm2 [] w m.lO b.locals)(h2:zwa [] w m.dO b.RE)(l1:b.locals.length<=1048576)(l2:b.RE.length<=1048576) :
  Cz Ok #[.agg (ZD b m).toArray] w λe w'=>∃p,e=.returned (.agg (ZD b p).toArray)/\Zv w.heap.size w' b p/\Q0 [] w w':=by
 refine(Ct b.I' b.RU b.SB m.lO b.locals.length m.lC m.dO b.RE.length m.dC (R:=λv w'=>∃p,v=.agg (ZD b p).toArray/\Zv w.heap.size w' b p/\Q0 [] w w') ?_).mono λe w' ⟨v,he,p,hv,h3⟩=>⟨p,by rw[he,hv],h3⟩
 have hm9:=ZW;intro x hx x5 Sx wr hx0 hs0;have s0:Sc w [x,x5] wr:=(((Sc.start w).add hx).add Sx).R5 hx0;refine⟨_,_,_,_,KA X6 MN b.locals.length Qo Qo wr,Qg (Z9 _ _) hs0,λR6 Sn eR=>?_⟩;have hL0:Ob JW 1 Qc wr.heap.size [x,x5] _ (some ⟨wr.heap.size,0,none⟩) b.locals.length (List.replicate b.locals.length (0:Int)):=Ob.of (Vg (enc:=JW) X6.len Qc b.locals.length (0:Int) wr) hs0;have s1:=(s0.R5 (Z9 wr (.cells ((List.replicate b.locals.length (0:Int)).flatMap JW).toArray Qc))).step Sn;have hL1:=hL0.step Sn;obtain⟨n1,w2,BI5,hL2,dY⟩:=ztc X6 MN z4o Qd (c2:=m.lC) hL1.own (h1.ext s1.ext) (m:=b.locals) Qs Qc #[false,false];rw[List.length_replicate] at BI5;have s2:=s1.call dY λy hy=>IB s0.ext.size (hL1.own.lt y hy).1
 have C42:Ob JW 1 Qc wr.heap.size [x,x5] w2 (some ⟨wr.heap.size,0,none⟩) b.locals.length b.locals:=⟨hL2,hL1.nb⟩;refine⟨_,_,BI5,KW dY eR hL1.nb,λR7 Rg We=>⟨_,_,_,_,KA XX Li b.RE.length Qo Qo R7,Qg (Z9 _ _) We,λRD Rl jS=>?_⟩⟩;have s3:=((s2.step Rg).R5 (Z9 R7 (.cells ((List.replicate b.RE.length false).flatMap MT).toArray Zw))).step Rl;have hL3:=((C42.step Rg).R5 (Z9 R7 (.cells ((List.replicate b.RE.length false).flatMap MT).toArray Zw))).step Rl;have hD0:Ob MT 1 Zw R7.heap.size [x,x5] _ (some ⟨R7.heap.size,0,none⟩) b.RE.length (List.replicate b.RE.length false):=Ob.of (Vg (enc:=MT) XX.len Zw b.RE.length false R7) We;have hD1:=hD0.step Rl;obtain⟨n2,w4,BI6,hD2,SX⟩:=ztc XX Li z57 Qd (c2:=m.dC) hD1.own (h2.ext s3.ext) (m:=b.RE) Qs Qc #[false,false];rw[List.length_replicate] at BI6;have hz2:w.heap.size<=R7.heap.size:=(s2.step Rg).ext.size;have s4:=s3.call SX λy hy=>IB hz2 (hD1.own.lt y hy).1
 have hL4:=hL3.call SX (hL3.own.Wl hD1.own Qd);have hD3:Ob MT 1 Zw R7.heap.size [x,x5] w4 (some ⟨R7.heap.size,0,none⟩) b.RE.length b.RE:=⟨hD2,hD1.nb⟩;exact⟨_,_,BI6,KW SX jS hD1.nb,λRN W8=>⟨⟨some ⟨wr.heap.size,0,none⟩,b.locals.length,some ⟨R7.heap.size,0,none⟩,b.RE.length,none,0⟩,rfl,⟨(hL4.step W8).own.mono s0.ext.size,(hD3.step W8).own.mono hz2⟩,(s4.step W8).ext⟩⟩
end
def Ba{α:Type}[Inhabited α]{P:Program}{enc:α->List Va}{z:Nat}{ty t:TypeId}{bytes:Nat}{zero:α}(E:zph P enc z ty bytes zero)(ht:P.underlying t=some (.slice ty))(B16:∀x,Zg (enc x))(hz0:0<z){w:Wo}{o:OA}{c:Nat}{l:List α}(h:Rd enc z [] w o l)(hl:l.length<=1048576)(hby:bytes<=1000)(tr:TypeId)(cs:Array Bool) :
  ∃o' c' w',(builtin .append #[t,t] tr cs #[.slice none 0 0,.slice o l.length c]).run P w=.ok (.value (.slice o' l.length c')) w'/\Uy enc z ty w.heap.size w' o' c' l/\Q0 [] w w':=by
 have hO:Uy enc z ty w.heap.size w none 0 ([]:List α):=.inl ⟨rfl,rfl,rfl⟩
 have hbb:(2*(([]:List α).length+l.length))*bytes<=281474976710656:=by
  rw[List.length_nil,Nat.zero_add];exact IB (Nat.mul_le_mul (show 2*l.length<=2097152 by omega) hby) Qd
 obtain⟨o',c',w',h1,h2,h3,_⟩:=ztb E ht hO (zzk E.len B16 ht h (c:=c) hz0) hbb (by rw[List.length_nil];omega) tr (I7 _);rw[List.length_nil,Nat.zero_add] at h1;exact⟨o',c',w',zci h1,h2,h3⟩
def zoo(W:Q7)(ms:Nat->MG)(n k:Nat)(hk:k<n)(p:MG):(TZ W ms n).set k (gi W.IE (k:Int),p)=TZ W (λj=>if j=k then p else ms j) n:=by
 refine zqa (by rw[E',X3,X3]) λj hj=>?_
 rw[E',X3] at hj;have:=QE (TZ W ms n) (gi W.IE (k:Int),p) (i:=(k:Int)) Qo (by rw[X3];omega) (j:=(j:Int)) Qo;rw[Ig] at this;rw[this,HT Qo Qo,HT Qo Qo]
 by_cases e:k=j
 ·subst e;simp
 ·rw[B' Qo,B' (by simp;omega)]
def zqy(W:Q7){ms ms':Nat->MG}{n:Nat}(h:∀j,j<n->ms j=ms' j):TZ W ms n=TZ W ms' n:=by
 unfold TZ;exact List.map_congr_left λj hj=>by rw[h j (List.mem_range.1 hj)]
section
variable {W:Q7}{m:MW}{w:Wo}
def Am(h:J6 [] w W m)(ha:WA W) :
  Cz U2 #[.agg (Qa W m).toArray] w λe w'=>∃m',e=.returned (.agg (Qa W m').toArray)/\Zj 8 w.heap.size w' W m'/\Q0 [] w w':=by
 refine(N0 _ _ _ _ _ _ _ _ _ _ (R:=λv w'=>∃m',v=.agg (Qa W m').toArray/\Zj 8 w.heap.size w' W m'/\Q0 [] w w') ?_).mono λe w' ⟨v,he,m',hv,h3⟩=>⟨m',by rw[he,hv],h3⟩
 have hcl:=ha.c2;have qT:=ha.t;have cZ:=ha.gl;intro x hx x1 Sn x2 Rg wr hx0 hs0;have s0:Sc w [x,x1,x2] wr:=((((Sc.start w).add hx).add Sn).add Rg).R5 hx0;obtain⟨cO,cC,w1,BI5,hC1,dY⟩:=Ba HJ KC z4n Qd (c:=m.cC) (h.c.ext s0.ext) Qo Qd Zu #[false,false];refine⟨_,_,_,_,BI5,Qg dY hs0,λR6 Cm2 eR=>?_⟩;have s1:=(s0.R5 dY).step Cm2;have hC2:=(Ob.of hC1 hs0).step Cm2;obtain⟨tO,tC,w2,BI6,hT1,SX⟩:=Ba M5 MM z59 Qd (c:=m.tC) (h.t.ext s1.ext) Qo Qd Z5 #[false,false];refine⟨_,_,_,_,BI6,Qg SX eR,λR7 CS5 We=>?_⟩;have s2:=(s1.R5 SX).step CS5;have hC3:=(hC2.R5 SX).step CS5;have hT3:=(Ob.of hT1 eR).step CS5
 have hrp:Rd Oi 14 [] R7 m.gO (TZ W m.ms 8):=λi h0 hi=>by
  rw[X3] at hi;rw[HT h0 hi];exact(h.g.ext s2.ext).cells i h0 Qo
 obtain⟨gO,gC,w3,B22,hG1,fU⟩:=Ba Yw Py (λp=>z58 p.1 p.2) Qd (c:=m.gC) hrp (by rw[X3];decide) Qd QH #[false,false];rw[X3] at B22;have B23:(builtin .append #[QH,QH] QH #[false,false] #[.slice none 0 0,.slice m.gO W.IE.length m.gC]).run Tryz.prog R7=.ok (.value (.slice gO W.IE.length gC)) w3:=by rw[cZ];exact B22
 have z1:w.heap.size<=R6.heap.size:=s1.ext.size;have z2:w.heap.size<=R7.heap.size:=s2.ext.size;have s3:=s2.R5 fU;have hC4:=(hC3.R5 fU).mono s0.ext.size;have hT4:=(hT3.R5 fU).mono z1;have hG4:=Ob.of hG1 We
 refine⟨_,_,_,_,B23,Qg fU We,λvs w4=>∃(k:Nat) (ms:Nat->MG),vs=[I (k:Int)]/\k<=8/\Sc w [x,x1,x2] w4/\R7.heap.size<=w4.heap.size/\Ob Gm 5 Zd w.heap.size [x,x1,x2] w4 cO cC W.IF/\Ob X4 9 QS w.heap.size [x,x1,x2] w4 tO tC W.IJ/\Ob Oi 14 QX R7.heap.size [x,x1,x2] w4 gO gC (TZ W ms 8)
   /\ (∀j,j<k->PF R7.heap.size w4 (gi W.IE (j:Int),ms j)/\∀y∈Qu (ms j),y∉[x,x1,x2])/\(∀i j,i<k->j<k->i≠j->∀y∈Qu (ms i),y∉Qu (ms j))/\(∀j,k<=j->ms j=m.ms j),
  Zp W.IE.length 0,λw4 W8 _=>⟨0,m.ms,rfl,Qd,s3.step W8,IB fU.size W8.size,hC4.step W8,hT4.step W8,hG4.step W8,λj hj=>by omega,λi j hi=>by omega,λj _=>rfl⟩,?_⟩
 clear s3 hC4 hT4 hG4 hG1 hrp B22 B23 hC3 hT3 hC2 hT1 BI5 BI6 hC1;rintro x9 Si jS ⟨k,ms,he,hk,s3,z3,hC,hT,hG,hE,hJ,hF⟩;simp only[I4,I5,true_and,and_true] at he;subst he;refine⟨λIV=>?_,λRW=>?_⟩
 ·have IV:=Ot IV;have hrb:G6 [x,x1,x2] Si m.gO W.IE m.ms:=(h.g.wide (cs:=[x,x1,x2]) λy hm=>.inr (s3.new y hm)).ext s3.ext.of_nil;have Wx:=hrb.ix (i:=(k:Int)) Qo IV;obtain⟨bl1,bl2,bl3⟩:=KH ha (k:=(k:Int)) Qo Qo;refine⟨Wx,_,_,_,_,_,_,_,_,_,_,_,_,_,_,_,_,_,_,_,_,hrb.cells (k:Int) Qo IV,λb3 wM RN W8 dX=>?_⟩;have s4:=s3.put W8 wM;have hC4:=hC.put W8 wM;have hT4:=hT.put W8 wM;have hG4:=hG.put W8 wM;have hr4:=h.g.ext s4.ext;have z4:R7.heap.size<=RN.heap.size:=IB z3 W8.size;refine I3 (zqh (hr4.locals (k:Int) Qo IV) (hr4.RE (k:Int) Qo IV) Qo Qo) ?_;rintro e bZ ⟨p,he,hB,jX⟩;have s5:=s4.R5 jX;have hC5:=hC4.R5 jX;have hT5:=hT4.R5 jX;have hG5:=hG4.R5 jX;have hgk:gi (TZ W ms 8) (k:Int)=(gi W.IE (k:Int),ms k):=by rw[HT Qo Qo,Ig]
  have hmk:ms k=m.ms k:=hF k (I7 _);have hBn:∀y∈YD p,RN.heap.size<=y:=λy hm=>(hB.lt y hm).1
  have e1:=hG5.own.Rx Yw.len (i:=(k:Int)) Qo (by rw[X3];omega) (j:=8) (vs:=ZD (gi W.IE (k:Int)).IM p) (x:=(gi W.IE (k:Int),Kz (ms k) p)) (by rw[hgk];rfl) (by simp[ZD]);have Cg1:=hG5.own.ix (i:=(k:Int)) Qo (by rw[X3];omega);have Cg4:=hG5.own.wr Yw.len hG5.nb (i:=(k:Int)) Qo (by rw[X3];omega) (j:=8) (n:=5) Qd;rw[X3] at Cg1;have CH7:Ix gO W.IE.length (k:Int):=by rw[cZ];exact Cg1
  simp only[Ig] at e1 Cg4;rw[zoo W ms 8 k Qo] at e1;refine⟨_,_,_,_,_,_,_,_,_,he,Qg jX dX,rfl,CH7,Cg4,λS5 Sx gQ=>?_⟩;have hX5:=hG5.own.zS (k*14+8) (ZD (gi W.IE (k:Int)).IM p);have s6:=(s5.call hX5 λy hy=>IB z2 (hG5.own.lt y hy).1).step Sx;have hC6:=(hC5.call hX5 (hC5.own.Wl hG5.own Qd)).step Sx;have hT6:=(hT5.call hX5 (hT5.own.Wl hG5.own Qd)).step Sx;have hG6:Ob Oi 14 QX R7.heap.size ([x,x1,x2]++[b3]) S5 gO gC (TZ W (λj=>if j=k then Kz (ms k) p else ms j) 8):=(⟨e1,hG5.nb⟩:Ob Oi 14 QX R7.heap.size ([x,x1,x2]++[b3]) _ gO gC _).step Sx
  have CA1:∀y∈YD p,y∉[x,x1,x2]++[b3]:=λy hm jW=>by
   have:=hBn y hm;have:=dX y jW;omega
  have hBg:∀y∈YD p,y∉QL gO:=λy hm jW=>by
   have:=hBn y hm;have:=(hG4.own.lt y jW).2;omega
  have hB6:=(hB.ext hX5 hBg).ext Sx CA1;have z5:RN.heap.size<=S5.heap.size:=IB (IB jX.size hX5.size) Sx.size;obtain⟨sO,sC,w6,Ck8,hS6,hy6⟩:=Ba PR Pz z4p Qd (c:=(m.ms k).sC) ((h.g.ext s6.ext).IH (k:Int) Qo IV) Qo Qd Za #[true,false];have s7:=s6.R5 hy6;have hC7:=hC6.R5 hy6;have hT7:=hT6.R5 hy6;have hG7:=hG6.R5 hy6;have hB7:=hB6.WR hy6
  have C73:gi (TZ W (λj=>if j=k then Kz (ms k) p else ms j) 8) (k:Int)=(gi W.IE (k:Int),Kz (ms k) p):=by
   rw[HT Qo Qo,Ig,C' rfl]
  have e2:=hG7.own.Rx Yw.len (i:=(k:Int)) Qo (by rw[X3];omega) (j:=13) (vs:=[.slice sO (gi W.IE (k:Int)).IH.length sC]) (x:=(gi W.IE (k:Int),⟨p.lO,p.lC,p.dO,p.dC,sO,sC⟩)) (by rw[C73];rfl) Qs;have CI0:=hG7.own.wr Yw.len hG7.nb (i:=(k:Int)) Qo (by rw[X3];omega) (j:=13) (n:=1) Qd;simp only[Ig] at e2 CI0;rw[zoo _ _ 8 k Qo] at e2
  have C98:TZ W (λj=>if j=k then (⟨p.lO,p.lC,p.dO,p.dC,sO,sC⟩:MG) else if j=k then Kz (ms k) p else ms j) 8=TZ W (λj=>if j=k then (⟨p.lO,p.lC,p.dO,p.dC,sO,sC⟩:MG) else ms j) 8:=zqy W λj _=>by
   by_cases e:j=k
   ·rw[C' e,C' e]
   ·rw[B' e,B' e,B' e]
  rw[C98] at e2;have hX7:=hG7.own.zS (k*14+13) [.slice sO (gi W.IE (k:Int)).IH.length sC];refine⟨_,_,_,_,Ck8,Qg hy6 gQ,rfl,CH7,CI0,⟨Qo,Qo⟩,λw9 qU _=>⟨⟨k+1,λj=>if j=k then (⟨p.lO,p.lC,p.dO,p.dC,sO,sC⟩:MG) else ms j,rfl,Qo,?_,?_,?_,?_,?_,?_,?_,?_⟩,?_⟩⟩
  ·exact((s7.call hX7 λy hy=>IB z2 (hG7.own.lt y hy).1).step qU).sub Qs
  ·exact IB (IB (IB (IB z4 z5) hy6.size) hX7.size) qU.size
  ·exact((hC7.call hX7 (hC7.own.Wl hG7.own Qd)).step qU).sub Qs
  ·exact((hT7.call hX7 (hT7.own.Wl hG7.own Qd)).step qU).sub Qs
  ·exact((⟨e2,hG7.nb⟩:Ob Oi 14 QX R7.heap.size ([x,x1,x2]++[b3]) _ gO gC _).step qU).sub Qs
  ·intro j hj;have hSn:∀y∈QL sO,S5.heap.size<=y:=λy hm=>(hS6.lt y hm).1
   by_cases e:j=k
   ·subst e;simp only[if_true]
    have Ce3:∀y∈QL sO,y∉[x,x1,x2]++[b3]:=λy hm jW=>by
     have:=hSn y hm;have:=gQ y jW;omega
    have hO9:PF R7.heap.size w9 (gi W.IE (j:Int),⟨p.lO,p.lC,p.dO,p.dC,sO,sC⟩):=by
     have hB9:=((hB7.ext hX7 hBg).ext qU CA1).mono z4;exact⟨hB9.loc,hB9.RE,(((hS6.ext hX7 (hS6.Wl hG7.own Qd)).ext qU Ce3)).mono (IB z4 z5)⟩
    refine⟨hO9,λy hm jW=>?_⟩;have CQ6:y∈[x,x1,x2]++[b3]:=Ia _ jW;simp only[Qu,Im] at hm;rcases hm with (hm|hm)|hm
    ·exact CA1 y (Ia _ hm) CQ6
    ·exact CA1 y (Iy _ hm) CQ6
    ·exact Ce3 y hm CQ6
   ·dsimp only
    rw[B' e];obtain⟨hm1,hm2⟩:=hE j Qo;refine⟨?_,hm2⟩
    have Ci8:∀y∈Qu (ms j),y∉[x,x1,x2]++[b3]:=λy hm jW=>by
     rcases Im.1 jW with h1|h1
     ·exact hm2 y hm h1
     ·have:y=b3:=by simpa using h1
      have:=(hm1.lt y hm).2;omega
    have hgg:∀y∈Qu (ms j),y∉QL gO:=Jr (p:=(gi W.IE (j:Int),ms j)) hG.own hm1;exact((((((hm1.ext W8 hm2).WR jX).ext hX5 hgg).ext Sx Ci8).WR hy6).ext hX7 hgg).ext qU Ci8
  ·intro i j hi hj hij y hm jW
   dsimp only at hm jW
   have A90:∀y∈Qu (⟨p.lO,p.lC,p.dO,p.dC,sO,sC⟩:MG),RN.heap.size<=y:=λy hm=>by
    simp only[Qu,Im] at hm;rcases hm with (hm|hm)|hm
    ·exact hBn y (Ia _ hm)
    ·exact hBn y (Iy _ hm)
    ·exact IB z5 (hS6.lt y hm).1
   have hold:∀j,j<k->∀y∈Qu (ms j),y<RN.heap.size:=λj hj y hm=>Nat.lt_of_lt_of_le ((hE j hj).1.lt y hm).2 W8.size
   by_cases e1:i=k
   ·rw[C' e1] at hm
    by_cases e2:j=k
    ·omega
    ·rw[B' e2] at jW;have:=A90 y hm;have:=hold j Qo y jW;omega
   ·rw[B' e1] at hm
    by_cases e2:j=k
    ·rw[C' e2] at jW;have:=A90 y jW;have:=hold i Qo y hm;omega
    ·rw[B' e2] at jW;exact hJ i j Qo Qo hij y hm jW
  ·intro j hj
   dsimp only
   rw[B' Qo];exact hF j Qo
  ·simp only[Zp,Xp,Y4,Ie];omega
 ·have RW:=Ou RW;have hk8:k=8:=Qo;subst hk8;refine λw9 qU=>⟨⟨cO,cC,tO,tC,gO,gC,ms⟩,rfl,⟨(hC.step qU).own,(hT.step qU).own,?_,cZ⟩,(s3.step qU).ext⟩
  have e:zs6 W ⟨cO,cC,tO,tC,gO,gC,ms⟩=TZ W ms 8:=by unfold zs6 TZ;rw[cZ]
  rw[e]
  have hgi:∀i:Int,0<=i->i<((TZ W ms 8).length:Int)->i.toNat<8/\gi (TZ W ms 8) i=(gi W.IE ((i.toNat:Nat):Int),ms i.toNat):=λi a b=>by
   rw[X3] at b;refine⟨Qo,?_⟩;rw[HT a b,show ((i.toNat:Nat):Int)=i by omega]
  refine⟨(hG.step qU).own.mono z2,λi a b=>?_,λi j a b a' b' hij=>?_⟩
  ·obtain⟨c1,c2⟩:=hgi i a b;rw[c2];exact((hE _ c1).1.ext qU (hE _ c1).2).mono z2
  ·obtain⟨c1,c2⟩:=hgi i a b;obtain⟨d1,d2⟩:=hgi j a' b';rw[c2,d2];exact hJ _ _ c1 d1 Qo
end
end Go.Proofs.YtjinkcmkgnofjaaGreatDoor
