/- Part 14 of what the law FnEither needs. -/
import Derived.Test.YtjinkcmkgnofjaaGreatDoorFnEitherPm
set_option linter.all false
set_option maxRecDepth 100000
set_option maxHeartbeats 8000000
namespace Go.Proofs.YtjinkcmkgnofjaaGreatDoor
open Go.RowKit
def znw{b b':Ue}{c:Int}{e:Nat}(he:(e:Int)≠c)(h0:gi b'.locals (e:Int)=0)(h1:gi b.locals (e:Int)>0)(h:∀d:Nat,d≠e->gi b'.locals (d:Int)=gi b.locals (d:Int)):∀n:Nat,zg6 b' c n+(if e<n then 1 else 0)=zg6 b c n
 |0=>rfl
 |n+1=>by
  have ih:=znw he h0 h1 h n;simp only[zg6]
  by_cases hn:n=e
  ·subst hn;rw[B' (Nat.lt_irrefl n)] at ih;rw[C' (Nat.lt_succ_self n),B' (by rintro⟨_,h⟩;omega),C' ⟨he,h1⟩];omega
  ·rw[h n hn];generalize (if (n:Int)≠c/\gi b.locals (n:Int)>0 then 1 else 0)=y
   by_cases IV:e<n
   ·rw[C' IV] at ih;rw[C' Qo];omega
   ·rw[B' IV] at ih;rw[B' Qo];omega
def zy2{b:Ue}(h:OY b){c:Int}{e:Nat}(e1:(e:Int)<(b.locals.length:Int))(hp:gi b.locals (e:Int)>0):Jk (YH b (e:Int)) c<=Jk b c:=by
 have hl:=h.l2
 have T':∀d:Nat,gi (YH b (e:Int)).locals (d:Int)=if e=d then 0 else gi b.locals (d:Int):=λd=>by
  show gi (b.locals.set (e:Int).toNat 0) (d:Int)=_;rw[QE _ _ Qo e1 Qo]
  by_cases h:e=d
  ·subst h;simp
  ·rw[B' h,B' Qo]
 unfold Jk
 by_cases hc:(e:Int)=c
 ·have h1:=HK (b:=b) (b':=YH b (e:Int)) (c:=c) (λd hd=>by rw[T' d,B' (λh=>hd (by rw[<-h];exact hc))]) 4
  have hw:gi b.RE c=false:=by
   cases hd:gi b.RE c with
   |false=>rfl
   |true=>
    have:=((h.each c Qo Qo).2.2 hd).1;rw[<-hc] at this;omega
  rw[h1];unfold zrr;rw[hw]
  split <;> simp
 ·have h1:=znw (b:=b) (b':=YH b (e:Int)) (c:=c) hc (by rw[T' e,C' rfl]) hp (λd hd=>by rw[T' d,B' (λh=>hd h.symm)]) 4;rw[C' Qo] at h1;have:zrr (YH b (e:Int)) c<=1:=by unfold zrr;split <;> omega
  omega
def zy3{b:Ue}{c:Int}(c0:0<=c)(c1:c<(b.locals.length:Int))(hdl:b.RE.length=b.locals.length)(hw:gi b.RE c=false):Jk (ZQ b c).1 c<=Jk b c/\((ZQ b c).2=2->Jk (ZQ b c).1 c<Jk b c)/\((ZQ b c).2≠2->gi (ZQ b c).1.RE c=false):=by
 unfold ZQ;split
 ·exact⟨I7 _,λh=>(by cases h),λ_=>hw⟩
 ·have h1:=HK (b:=b) (b':=⟨b.I',b.RU-ZK 20 b.RU,b.SB,b.locals.set c.toNat (ZK 20 b.RU),b.RE.set c.toNat (ZK 20 b.RU==0)⟩) (c:=c) (λd hd=>by
   show gi (b.locals.set c.toNat (ZK 20 b.RU)) (d:Int)=_;rw[QE _ _ c0 c1 Qo,B' λh=>hd h.symm]) 4
  have hd:gi (b.RE.set c.toNat (ZK 20 b.RU==0)) c=(ZK 20 b.RU==0):=by rw[QE _ _ c0 Qo c0,C' rfl]
  unfold Jk;rw[h1];unfold zrr;rw[hw];simp only[hd]
  by_cases hm:ZK 20 b.RU=0
  ·rw[C' (show (ZK 20 b.RU==0)=true by rw[hm];rfl),B' Qd];exact⟨Qo,λ_=>by omega,λh=>Ir (C' hm) h⟩
  ·have hb:(ZK 20 b.RU==0)=false:=by simpa using hm
   rw[hb];exact⟨I7 _,λh=>(by rw[B' hm] at h;cases h),λ_=>rfl⟩
def zvc{b:Ue}{c n:Int}(c0:0<=c)(c1:c<(b.locals.length:Int)):Jk (XG b c n).1 c=Jk b c:=by
 unfold XG;split
 ·rfl
 ·unfold Jk zrr
  rw[HK (b:=b) (c:=c) (λd hd=>by
   show gi (b.locals.set c.toNat (gi b.locals c-n)) (d:Int)=_;rw[QE _ _ c0 c1 Qo,B' λh=>hd h.symm]) 4]
def zjg{F K:Int}{W:Q7}(h:SF F K W){k:Int}(hu:Q6 W.IE k)(hq:(gi W.IE k).IM.I'≠0)(c:Int):∀d:Nat,d<=W.IF.length->(∀j:Int,0<=j->Jk (gi (Y5 W k d).IE j).IM c<=Jk (gi W.IE j).IM c)
 |0,_=>λ_ _=>I7 _
 |d+1,hd=>by
  have ih:=zjg h hu hq c d Qo;obtain⟨a,b,q⟩:=H3 h hu hq d Qo;simp only[Y5];split
  ·rename_i hc;have hu':Q6 (Y5 W k d).IE k:=by rw[b.g.cD];exact hu
   obtain⟨u0,u1,hg⟩:=a.w.a.u hu';have hb:=hg.IM q;have hl:=a.w.a.gl;intro j hj;show Jk (gi (R1 _ k _).IE j).IM c<=_;rw[Yt u0 Qo hj];split
   ·rename_i e;subst e;exact IB (zy2 hb.1 (by rw[hb.2.1,b.c];omega) hc.1) (ih k hj)
   ·exact ih j hj
  ·exact ih
def zjh{F K:Int}{W:Q7}(h:SF F K W)(c:Int):∀k:Nat,k<=8->∀j:Int,0<=j->Jk (gi (Y8 W k).IE j).IM c<=Jk (gi W.IE j).IM c
 |0,_=>λ_ _=>I7 _
 |k+1,hk=>by
  have ih:=zjh h c k Qo;obtain⟨a,b⟩:=Vd h k Qo;have hl:=a.w.a.gl;simp only[Y8];split
  ·rename_i hc;exact λj hj=>IB (zjg a (Q5.2 ⟨Qo,Qo,hc.1⟩) hc.2 c _ (I7 _) j hj) (ih j hj)
  ·exact ih
def zt3{K:Int}{W:Q7}(sw:SW K W){c:Int}(c0:0<=c)(c1:c<(W.IF.length:Int))(i:Int)(hi:0<=i):(gi (Xc W c).IE i).IM=(gi W.IE i).IM:=(zfl sw c0 c1).1.b i hi
def BT{K:Int}{W:Q7}(sw:SW K W)(hK:0<=K)(i:Int)(hi:0<=i):∀c:Nat,c<=W.IF.length->(gi (Xb W c).IE i).IM=(gi W.IE i).IM
 |0,_=>rfl
 |c+1,hc=>by
  obtain⟨s1,f1⟩:=Lf sw hK c Qo;rw[show Xb W (c+1)=Xc (Xb W c) (c:Int) from rfl,zt3 s1 Qo (by rw[f1.c];omega) i hi,BT sw hK i hi c Qo]
def zqw{K:Int}{W:Q7}(sw:SW K W)(hK:0<=K)(c:Int):Gw (Qf W) c<=Gw W c:=by
 obtain⟨s1,o1⟩:=VY (F:=K) (K:=K+Qi) (sw.sf.mono (I2 _) (by simp only[Qi];omega)) (I2 _) W.IF.length (I7 _);obtain⟨s2,b2⟩:=Vd s1 8 (I7 _);refine HR (λk hk=>?_) 8 (I7 _);have h1:(gi (Qf W).IE (k:Int)).IM=(gi (Y8 (Zr W W.IF.length) 8).IE (k:Int)).IM:=BT s2.w (by simp only[Qi];omega) (k:Int) Qo W.IF.length (by show W.IF.length<=(Y8 (Zr W W.IF.length) 8).IF.length;rw[b2.c,o1.c];exact I7 _);rw[h1];have h2:=zjh s1 c 8 (I7 _) (k:Int) Qo;rw[o1.b (k:Int) Qo] at h2;exact h2
def Z7(W:Q7)(t:Int):List Int:=QM W.IE (Q8 W t).II++[0]
def Lm(W:Q7)(c g:Int):Q7×Bool:=if (gi W.IE g).IM.I'=0 then (W,true) else (RZ W g (ZQ (gi W.IE g).IM c).1,decide ((ZQ (gi W.IE g).IM c).2≠2))
def Br(c:Int):List Int->Q7->Q7×Bool
 |[],W=>(W,true)
 |g::l,W=>if (Lm W c g).2=true then Br c l (Lm W c g).1 else ((Lm W c g).1,false)
def Gs(W:Q7)(c g n:Int):Int:=if (gi W.IE g).IM.I'>0 then ZK n (gi (gi W.IE g).IM.locals c) else n
def MU(W:Q7)(c:Int):List Int->Int->Int
 |[],n=>n
 |g::l,n=>MU W c l (Gs W c g n)
def GG(W:Q7)(c n g:Int):KD:={ Qb W g c with v:=if g≠0 then (Qb W g c).v+Z2 n (Qb W g c).w else (Qb W g c).v,sum:=(Qb W g c).sum+n }
def BU(W:Q7)(c n g:Int):Ue:=if (gi W.IE g).IM.I'>0 then (ZL (gi W.IE g).IM ⟨2,c,n⟩).1 else (gi W.IE g).IM
def TP(W:Q7)(c n g:Int):Q7:=Rw W g c (GG W c n g)
def Kk(W:Q7)(c n g:Int):Zb:={ gi (TP W c n g).IE g with sum:=(gi W.IE g).sum+n }
def MR(W:Q7)(c n g:Int):Q7:=RZ (R1 (TP W c n g) g (Kk W c n g)) g (BU W c n g)
def Gl(c n:Int):List Int->Q7->Q7
 |[],W=>W
 |g::l,W=>Gl c n l (MR W c n g)
def P4(W:Q7)(t n:Int):MQ:={ Q8 W t with v:=(Q8 W t).v+Z2 n (Qh (Q8 W t).nice),sum:=(Q8 W t).sum+n,IW:=(Q8 W t).IW+n }
def zgy(W:Q7)(c n:Int):PZ:={ gi W.IF c with busy:=(gi W.IF c).busy+n,Wh:=(gi W.IF c).Wh+n }
def JU(W:Q7)(c t n:Int):Q7:=RM (Gl c n (Z7 W t) (J' W t (P4 W t n))) c (zgy W c n)
def ZX(W:Q7)(c t:Int):PZ:=if t≠(gi W.IF c).cur\/(gi W.IF c).Wh>=50 then { gi W.IF c with cur:=t,Wh:=0 } else gi W.IF c
def QI(W:Q7)(c t:Int):Q7:=RM W c (ZX W c t)
def Jf(W:Q7)(c n:Int):PZ:={ gi W.IF c with idle:=(gi W.IF c).idle+n }
def ZC(W:Q7)(c:Int):Q7×Bool:=Br c (Z7 W (Qe W c)) (QI W c (Qe W c))
def Yz(W:Q7)(c left:Int):Int:=MU (ZC W c).1 c (Z7 W (Qe W c)) left
def O0(W:Q7)(c left:Int):Q7×Int:=
 if (ZC W c).2=true then (Qf (JU (ZC W c).1 c (Qe W c) (Yz W c left)),left-Yz W c left) else (Qf (Rb (ZC W c).1 c),left)
def Hq(c:Int):Nat->Q7->Int->Q7
 |0,W,_=>W
 |f+1,W,left=>if left<=0 then Qf W else if Qe W c<0 then Qf (Rb (RM W c (Jf W c left)) c) else Hq c f (O0 W c left).1 (O0 W c left).2
structure zwb (K c:Int) (W W':Q7):Prop where
 sw:SW K W'
 o:V6 W W'
 q:∀i:Int,0<=i->(gi W'.IE i).IM.I'=(gi W.IE i).IM.I'
 l:∀i:Int,0<=i->gi (gi W.IE i).IM.locals c>0->gi (gi W'.IE i).IM.locals c>0
 p:∀i:Int,0<=i->Jk (gi W'.IE i).IM c<=Jk (gi W.IE i).IM c
 su:Ub W W'
def zwb.refl{K c:Int}{W:Q7}(h:SW K W):zwb K c W W:=⟨h,V6.refl _,λ_ _=>rfl,λ_ _ h=>h,λ_ _=>I7 _,Ub.refl _⟩
def zwb.trans{K c:Int}{A B C:Q7}(h:zwb K c A B)(k:zwb K c B C):zwb K c A C:=⟨k.sw,h.o.trans k.o,λi hi=>(k.q i hi).trans (h.q i hi),λi hi g=>k.l i hi (h.l i hi g),λi hi=>IB (k.p i hi) (h.p i hi),h.su.trans k.su⟩
def zvs{b:Ue}(h:OY b){c:Int}(c0:0<=c)(c1:c<(b.locals.length:Int)):(gi b.locals c>0->(ZQ b c).1=b)/\((ZQ b c).2≠2->gi (ZQ b c).1.locals c>0):=by
 unfold ZQ;split
 ·rename_i hp;exact⟨λ_=>rfl,λ_=>hp⟩
 ·rename_i hn;refine⟨λh=>Ir h hn,λh2=>?_⟩;show gi (b.locals.set c.toNat (ZK 20 b.RU)) c>0;rw[QE _ _ c0 c1 c0,C' rfl];have hm:=za7 h.p1
  by_cases e:ZK 20 b.RU=0
  ·exact Ir (C' e) h2
  ·omega
def zrm{K c:Int}{W:Q7}(sw:SW K W)(c0:0<=c)(c1:c<(W.IF.length:Int)){g:Int}(hu:Q6 W.IE g)(hd:(gi W.IE g).IM.I'≠0->gi (gi W.IE g).IM.RE c=false) :
  zwb K c W (Lm W c g).1/\((Lm W c g).2->((gi W.IE g).IM.I'≠0->gi (gi (Lm W c g).1.IE g).IM.locals c>0)/\∀i:Int,0<=i->((gi W.IE i).IM.I'≠0->gi (gi W.IE i).IM.RE c=false)->(gi W.IE i).IM.I'≠0->gi (gi (Lm W c g).1.IE i).IM.RE c=false)
   /\ ((Lm W c g).2=false->Jk (gi (Lm W c g).1.IE g).IM c<Jk (gi W.IE g).IM c):=by
 obtain⟨u0,u1,hg⟩:=sw.a.u hu;have cZ:=sw.a.gl;unfold Lm;split
 ·rename_i hq;exact⟨zwb.refl sw,λ_=>⟨λh=>Ir hq h,λi _ h h2=>h h2⟩,λh=>by cases h⟩
 ·rename_i hq;obtain⟨hb,hbl,_⟩:=hg.IM hq;have hcl:c<((gi W.IE g).IM.locals.length:Int):=Qo;obtain⟨cH,hl2,hq2⟩:=zzv hb c0 hcl;obtain⟨p1,p2,p3⟩:=zy3 c0 hcl hb.dl (hd hq);obtain⟨l1,l2⟩:=zvs hb c0 hcl;have ha:=sw.a.RZ (g:=g) hu hq cH (by rw[hl2];exact hbl) hq2;have e:∀i:Int,0<=i->gi (RZ W g (ZQ (gi W.IE g).IM c).1).IE i=if g=i then { gi W.IE g with IM:=(ZQ (gi W.IE g).IM c).1 } else gi W.IE i:=λi hi=>Yt u0 Qo hi
  have ob:=HP (W:=W) (b:=(ZQ (gi W.IE g).IM c).1) u0 Qo;refine⟨⟨(sw.sf.BM3 ob ha).w,ob,λi hi=>?_,λi hi h=>?_,λi hi=>?_,zzr _ _ _⟩,λh=>?_,λh=>?_⟩
  ·show (gi (RZ W g _).IE i).IM.I'=_;rw[e i hi];split
   ·rename_i e;subst e;exact hq2
   ·rfl
  ·show gi (gi (RZ W g _).IE i).IM.locals c>0;rw[e i hi];split
   ·rename_i e;subst e;show gi (ZQ (gi W.IE g).IM c).1.locals c>0;rw[l1 h];exact h
   ·exact h
  ·show Jk (gi (RZ W g _).IE i).IM c<=_;rw[e i hi];split
   ·rename_i e;subst e;exact p1
   ·exact I7 _
  ·have h:(ZQ (gi W.IE g).IM c).2≠2:=Ot h;refine⟨λ_=>?_,λi hi h1 h2=>?_⟩
   ·show gi (gi (RZ W g _).IE g).IM.locals c>0;rw[e g u0,C' rfl];exact l2 h
   ·show gi (gi (RZ W g _).IE i).IM.RE c=false;rw[e i hi];split
    ·rename_i e;subst e;exact p3 h
    ·exact h1 h2
  ·have h:(ZQ (gi W.IE g).IM c).2=2:=Iq λhn=>Ou h hn
   show Jk (gi (RZ W g _).IE g).IM c<_;rw[e g u0,C' rfl];exact p2 h
def zrn{K c:Int}(c0:0<=c):∀(l:List Int) {W:Q7},SW K W->c<(W.IF.length:Int)->(∀g∈l,Q6 W.IE g)->(∀g∈l,(gi W.IE g).IM.I'≠0->gi (gi W.IE g).IM.RE c=false)->
  zwb K c W (Br c l W).1/\((Br c l W).2->∀g∈l,(gi W.IE g).IM.I'≠0->gi (gi (Br c l W).1.IE g).IM.locals c>0)/\((Br c l W).2=false->∃g∈l,Jk (gi (Br c l W).1.IE g).IM c<Jk (gi W.IE g).IM c)
 |[],W,sw,_,_,_=>⟨zwb.refl sw,λ_ g hg=>(by cases hg),λh=>by cases h⟩
 |g::l,W,sw,c1,hu,hd=>by
  obtain⟨a,b,d⟩:=zrm sw c0 c1 (hu g I9) (hd g I9);simp only[Br]
  by_cases h2:(Lm W c g).2=true
  ·rw[C' h2];obtain⟨b1,b2⟩:=b h2;have h0:∀x∈l,0<=x:=λx hx=>(Q5.1 (hu x (I1 _ hx))).1
   obtain⟨a',b',d'⟩:=zrn c0 l (W:=(Lm W c g).1) a.sw (by rw[a.o.c];exact c1) (λx hx=>by rw[a.o.g.cD];exact hu x (I1 _ hx)) λx hx hq=>by
    rw[a.q x (h0 x hx)] at hq;exact b2 x (h0 x hx) (hd x (I1 _ hx)) hq
   refine⟨a.trans a',λh x hx hq=>?_,λh=>?_⟩
   ·rcases Ii.1 hx with e|e
    ·subst e;exact a'.l x (Q5.1 (hu x I9)).1 (b1 hq)
    ·exact b' h x e (by rw[a.q x (h0 x e)];exact hq)
   ·obtain⟨x,hx,IV⟩:=d' h;exact⟨x,I1 _ hx,Nat.lt_of_lt_of_le IV (a.p x (h0 x hx))⟩
  ·rw[B' h2];exact⟨a,λh=>(by cases h),λ_=>⟨g,I9,d (by simpa using h2)⟩⟩
def zjc{W:Q7}{c:Int}:∀(l:List Int) (n:Int),1<=n->(∀g∈l,(gi W.IE g).IM.I'>0->gi (gi W.IE g).IM.locals c>0)->1<=MU W c l n/\MU W c l n<=n
 |[],n,h,_=>⟨h,I2 _⟩
 |g::l,n,h,hl=>by
  simp only[MU]
  have hm:1<=Gs W c g n/\Gs W c g n<=n:=by
   unfold Gs;split
   ·rename_i hq;have:=hl g I9 hq;unfold ZK
    split <;> omega
   ·exact⟨h,I2 _⟩
  have:=zjc l (Gs W c g n) hm.1 λx hx=>hl x (I1 _ hx)
  omega
def PY(n w:Int)(h0:0<=n)(h1:n<=100):0<=Z2 n w/\Z2 n w<=Qi:=by
 by_cases h:1<=w/\w<=20
 ·rw[Pf h0 Qo h.1 h.2];have hs:=zfo h.1 h.2;refine⟨Int.mul_nonneg h0 Qo,?_⟩
  calc n*zjy w<=100*zjy w:=Int.mul_le_mul_of_nonneg_right h1 Qo
   _<=100*232792560:=Int.mul_le_mul_of_nonneg_left hs.2 Qd
   _<=Qi:=Qd
 ·rw[D0 Qo];exact⟨I2 _,Qd⟩
def zt1{b:Ue}(h:OY b){c n:Int}(c0:0<=c)(c1:c<(b.locals.length:Int)):OY (ZL b ⟨2,c,n⟩).1/\(ZL b ⟨2,c,n⟩).1.locals.length=b.locals.length/\(ZL b ⟨2,c,n⟩).1.I'=b.I'/\Jk (ZL b ⟨2,c,n⟩).1 c=Jk b c:=by
 have e:ZL b ⟨2,c,n⟩=XG b c n:=by
  unfold ZL;rw[B' (show ¬(2:Int)=4 by decide),B' (by rw[Qv.2 (by show 0<=c/\c<=_;omega)];decide),B' (show ¬(2:Int)=1 by decide),C' rfl]
 rw[e];obtain⟨a,b',d⟩:=zvp h (n:=n) c0 c1;exact⟨a,b',d,zvc c0 c1⟩
structure zv0 (K S c n:Int) (W W':Q7):Prop where
 sw:SW K W'
 rb:RB S W'
 now:W'.now=W.now
 t:W'.IJ=W.IJ
 cp:W'.IF=W.IF
 g:QZ W.IE W'.IE
 p:∀i:Int,0<=i->Jk (gi W'.IE i).IM c=Jk (gi W.IE i).IM c
def zkq{K S c n:Int}{W:Q7}(sw:SW K W)(rb:RB S W)(hS:S+n<=100000000000000000)(c0:0<=c)(c1:c<(W.IF.length:Int)){g:Int}(hu:Q6 W.IE g)(n0:0<=n)(n1:n<=100):zv0 (K+Qi) (S+n) c n W (MR W c n g):=by
 obtain⟨u0,u1,hg⟩:=sw.a.u hu;have cZ:=sw.a.gl;have hsl:=sw.a.sl hu;have hsr:=sw.s g c hu c0 c1;have hv:=PY n (Qb W g c).w n0 n1;have hlg:0<=Qi:=Qd;have ea:∀{i:Int},0<=i->gi (TP W c n g).IE i=if g=i then { gi W.IE g with IH:=(gi W.IE g).IH.set c.toNat (GG W c n g) } else gi W.IE i:=λhi=>Yt u0 Qo hi
 have eg:∀i:Int,0<=i->gi (MR W c n g).IE i=if g=i then { gi W.IE g with IH:=(gi W.IE g).IH.set c.toNat (GG W c n g),sum:=(gi W.IE g).sum+n,IM:=BU W c n g } else gi W.IE i:=λi hi=>by
  have hl1:g<((R1 (TP W c n g) g (Kk W c n g)).IE.length:Int):=by
   have:(R1 (TP W c n g) g (Kk W c n g)).IE.length=W.IE.length:=by simp[R1,TP,Rw]
   rw[this];omega
  have hl2:g<((TP W c n g).IE.length:Int):=by
   have:(TP W c n g).IE.length=W.IE.length:=by simp[R1,TP,Rw]
   rw[this];omega
  unfold MR RZ;rw[Yt u0 hl1 hi,Yt u0 hl2 hi,Yt u0 hl2 u0,C' rfl,ea hi];split
  ·unfold Kk;rw[ea u0,C' rfl]
  ·rfl
 have es:∀i d:Int,0<=i->0<=d->Qb (MR W c n g) i d=if g=i/\c=d then GG W c n g else Qb W i d:=λi d hi hd=>by
  rw[<-XS (W:=W) (s:=GG W c n g) u0 Qo c0 Qo hi hd];unfold Qb;show gi (gi (MR W c n g).IE i).IH d=gi (gi (TP W c n g).IE i).IH d;rw[eg i hi,ea hi]
  split <;> rfl
 have hT:QZ W.IE (MR W c n g).IE:=by
  have t1:=YC (W:=W) (g:=g) (c:=c) (s:=GG W c n g) u0 Qo;have t2:=XT (W:=TP W c n g) (g:=g) (x:=Kk W c n g) u0 (by show g<((TP W c n g).IE.length:Int);rw[show (TP W c n g).IE.length=W.IE.length from t1.len];omega) rfl rfl rfl;have t3:=XT (W:=R1 (TP W c n g) g (Kk W c n g)) (g:=g) (x:={ gi (R1 (TP W c n g) g (Kk W c n g)).IE g with IM:=BU W c n g }) u0 (by rw[t2.len,show (TP W c n g).IE.length=W.IE.length from t1.len];omega) rfl rfl rfl;exact(t1.trans t2).trans t3
 have hB:(BU W c n g).I'=(gi W.IE g).IM.I'/\Jk (BU W c n g) c=Jk (gi W.IE g).IM c/\((gi W.IE g).IM.I'=0->BU W c n g=(gi W.IE g).IM)/\((gi W.IE g).IM.I'≠0->OY (BU W c n g)/\(BU W c n g).locals.length=W.IF.length):=by
  unfold BU;split
  ·rename_i hq;obtain⟨hb,hbl,_⟩:=hg.IM Qo;obtain⟨a,b,d,e⟩:=zt1 hb (n:=n) c0 Qo;exact⟨d,e,λh=>by omega,λ_=>⟨a,by rw[b];exact hbl⟩⟩
  ·rename_i hq;refine⟨rfl,rfl,λ_=>rfl,λh=>?_⟩;obtain⟨hb,hbl,_⟩:=hg.IM h;exact⟨hb,hbl⟩
 have hrg:=rb.g g hu
 have hW:WA (MR W c n g):=by
  have hl:=sw.a;refine⟨hl.n1,hl.n2,hl.c1,hl.c2,hl.t,hT.tree hl.tree,hl.ups,λk k0 k1=>?_⟩;unfold Kg;rw[eg k k0];split
  ·rename_i e;subst e;refine⟨λh=>?_,λ_=>⟨hg.w1,hg.w2,hg.m,hg.m0,Xg.2 ⟨by show 0<=(gi W.IE g).sum+n;omega,by show (gi W.IE g).sum+n<=_;omega⟩,by show (List.set _ _ _).length=_;rw[E'];exact hg.len,λh=>⟨(hg.root h).1,(hg.root h).2.1,by show (BU W c n g).I'=0;rw[hB.1];exact(hg.root h).2.2⟩,λh=>?_,λh=>?_⟩⟩
   ·have h:(gi W.IE g).IW=false:=h;rw[(Q5.1 hu).2.2] at h;cases h
   ·have h:(BU W c n g).I'=0:=h;rw[hB.1] at h;have:=hg.none h;exact⟨by show TF (BU W c n g)=true;rw[hB.2.2.1 h];exact this.1,this.2⟩
   ·have h:(BU W c n g).I'≠0:=h;rw[hB.1] at h;obtain⟨_,_,hp⟩:=hg.IM h;exact⟨(hB.2.2.2 h).1,(hB.2.2.2 h).2,hp⟩
  ·have:=hl.grp k k0 k1;exact⟨this.1,λhu=>by have:=this.2 hu;exact⟨this.w1,this.w2,this.m,this.m0,this.s,this.len,this.root,this.none,this.IM⟩⟩
 refine⟨⟨hW,λt a b m=>?_,λt a b=>?_,λk d u a b=>?_,sw.cu⟩,⟨rb.n,λt a b=>?_,λk d u a b=>?_,λk u=>?_,λd a b=>?_⟩,rfl,rfl,rfl,hT,λi hi=>?_⟩
 ·rw[hT.cD];exact sw.t t a b m
 ·have:=sw.tv t a b;exact⟨this.1,by show (Q8 W t).v<=_;omega⟩
 ·rw[hT.cD] at u;have hk:=(Q5.1 u).1;have h:=sw.s k d u a b;rw[es k d hk a];split
  ·refine⟨hsr.1,by show (Qb W g c).IL<=_;omega,?_,?_,hsr.2.2.2.2.1,hsr.2.2.2.2.2⟩
   ·show 0<=if g≠0 then (Qb W g c).v+Z2 n (Qb W g c).w else (Qb W g c).v
    split <;> omega
   ·show (if g≠0 then (Qb W g c).v+Z2 n (Qb W g c).w else (Qb W g c).v)<=_
    split <;> omega
  ·exact⟨h.1,Qo,h.2.2.1,Qo,h.2.2.2.2.1,h.2.2.2.2.2⟩
 ·have:=rb.t t a b;exact⟨this.1,by show (Q8 W t).sum<=_;omega,this.2.2.1,by show (Q8 W t).IW<=_;omega⟩
 ·rw[hT.cD] at u;have hk:=(Q5.1 u).1;have h:=rb.s k d u a b;rw[es k d hk a];split
  ·have h2:=rb.s g c hu c0 c1;exact⟨by show 0<=(Qb W g c).sum+n;omega,by show (Qb W g c).sum+n<=_;omega⟩
  ·exact⟨h.1,Qo⟩
 ·rw[hT.cD] at u;have h:=rb.g k u;rw[eg k (Q5.1 u).1];split
  ·exact⟨by show 0<=(gi W.IE g).sum+n;omega,by show (gi W.IE g).sum+n<=_;omega⟩
  ·exact⟨h.1,Qo⟩
 ·have:=rb.c d a b;exact⟨this.1,by show (gi W.IF d).busy<=_;omega,this.2.2.1,this.2.2.2.1,this.2.2.2.2⟩
 ·rw[eg i hi];split
  ·rename_i e;subst e;exact hB.2.1
  ·rfl
def RB.mono{S S':Int}{W:Q7}(h:RB S W)(k:S<=S'):RB S' W:=
 ⟨h.n,λt a b=>by have:=h.t t a b;omega,λk c u a b=>by have:=h.s k c u a b;omega,λk u=>by have:=h.g k u;omega,λc a b=>by have:=h.c c a b;omega⟩
def RB.RM{S:Int}{W:Q7}(h:RB S W){c:Int}(c0:0<=c)(c1:c<(W.IF.length:Int)){x:PZ}(hx:0<=x.busy/\x.busy<=S/\0<=x.idle/\x.idle<=50000000000000000/\0<=x.Wh/\x.Wh<=149):RB S (RM W c x):=by
 have hl:(W.IF.set c.toNat x).length=W.IF.length:=E';refine⟨h.n,h.t,λk d u a b=>?_,h.g,λd a b=>?_⟩
 ·have b:d<(((W.IF.set c.toNat x).length:Nat):Int):=b;rw[hl] at b;exact h.s k d u a b
 ·have b:d<(((W.IF.set c.toNat x).length:Nat):Int):=b;rw[hl] at b;show _<=(gi (W.IF.set c.toNat x) d).busy/\(gi (W.IF.set c.toNat x) d).busy<=_/\_<=(gi (W.IF.set c.toNat x) d).idle/\(gi (W.IF.set c.toNat x) d).idle<=_/\_<=(gi (W.IF.set c.toNat x) d).Wh/\(gi (W.IF.set c.toNat x) d).Wh<=_;rw[QE _ _ c0 c1 a];split
  ·exact hx
  ·exact h.c d a b
def RB.J'{S:Int}{W:Q7}(h:RB S W)(hl:W.IJ.length=12){t:Int}(t0:0<=t)(t1:t<12){x:MQ}(hx:0<=x.sum/\x.sum<=S/\0<=x.IW/\x.IW<=S):RB S (J' W t x):=by
 refine⟨h.n,λu a b=>?_,h.s,h.g,h.c⟩;show _<=(gi (W.IJ.set t.toNat x) u).sum/\(gi (W.IJ.set t.toNat x) u).sum<=_/\_<=(gi (W.IJ.set t.toNat x) u).IW/\(gi (W.IJ.set t.toNat x) u).IW<=_;rw[QE _ _ t0 Qo a];split
 ·exact hx
 ·exact h.t u a b
def zv0.trans{K S K' S' c n:Int}{A B C:Q7}(h:zv0 K S c n A B)(k:zv0 K' S' c n B C):zv0 K' S' c n A C:=
 ⟨k.sw,k.rb,k.now.trans h.now,k.t.trans h.t,k.cp.trans h.cp,h.g.trans k.g,λi hi=>(k.p i hi).trans (h.p i hi)⟩
def zw3{c n:Int}(c0:0<=c)(n0:0<=n)(n1:n<=100):∀(l:List Int) {K S:Int} {W:Q7},SW K W->RB S W->S+100*(l.length:Int)<=100000000000000000->c<(W.IF.length:Int)->(∀g∈l,Q6 W.IE g)->
  zv0 (K+Qi*(l.length:Int)) (S+100*(l.length:Int)) c n W (Gl c n l W)
 |[],K,S,W,sw,rb,_,_,_=>⟨sw.mono Qs,rb.mono Qs,rfl,rfl,rfl,QZ.refl _,λ_ _=>rfl⟩
 |g::l,K,S,W,sw,rb,hS,c1,hu=>by
  rw[List.length_cons] at hS ⊢;have h1:=zkq sw rb Qo c0 c1 (hu g I9) n0 n1;have h2:=zw3 c0 n0 n1 l (W:=MR W c n g) h1.sw (h1.rb.mono (show S+n<=S+100 by omega)) Qo (by rw[h1.cp];exact c1) λx hx=>by rw[h1.g.cD];exact hu x (I1 _ hx)
  have h3:=h1.trans h2;exact⟨h3.sw.mono (by simp only[Qi];omega),h3.rb.mono Qo,h3.now,h3.t,h3.cp,h3.g,h3.p⟩
def z17{W W':Q7}{c:Int}(h:∀i:Int,0<=i->Jk (gi W'.IE i).IM c=Jk (gi W.IE i).IM c):Gw W' c=Gw W c:=
 Nat.le_antisymm (HR (λk _=>Nat.le_of_eq (h k Qo)) 8 (I7 _)) (HR (λk _=>Nat.le_of_eq (h k Qo).symm) 8 (I7 _))
def B7{W:Q7}(ha:WA W){t:Int}(hu:Q6 W.IE (Q8 W t).II):(∀g∈Z7 W t,Q6 W.IE g)/\(Z7 W t).length<=4:=by
 refine⟨λg hg=>?_,?_⟩
 ·rcases Im.1 hg with h|h
  ·exact(Ys ha.tree _ hu g h).1
  ·rw[IA.1 h];exact ha.root
 ·have:=ze3 W.IE 3 (Q8 W t).II;unfold Z7;rw[Io];show (US 3 W.IE (Q8 W t).II).length+1<=4;omega
def zba{W W':Q7}(ht:W'.IJ=W.IJ)(hT:QZ W.IE W'.IE)(t:Int):Z7 W' t=Z7 W t:=by
 unfold Z7;rw[Xf ht,Vy hT]
def Dt(f:Nat):Int:=Qn+(400-(f:Int))*346860914400
def B9(f:Nat):Int:=Qn+(400-(f:Int))*500
structure D5 (f:Nat) (c:Int) (W0 W:Q7) (left:Int):Prop where
 sw:SW (Dt f) W
 rb:RB (B9 f) W
 dm:Dm W c
 c0:0<=c
 c1:c<(W.IF.length:Int)
 up:(gi W.IF c).up=true
 now:W.now=W0.now
 len:W.IF.length=W0.IF.length
 l0:0<=left
 l1:left<=100
 f1:left+Gw W c<(f:Int)
 f2:f<=400
def TH{f:Nat}(h:f<=400):Qn<=Dt f/\Dt f<=50200000000000000:=by
 unfold Dt Qn;omega
def zbc{f:Nat}(h:f<=400):Qn<=B9 f/\B9 f<=50000000000200000:=by
 unfold B9 Qn;omega
def zq8{W:Q7}(wp:XV W)(r:G7 W){c n:Int}(c0:0<=c)(c1:c<(W.IF.length:Int))(up:(gi W.IF c).up)(n0:0<=n)(n1:n<=100):D5 400 c W W n:=by
 have hp:=z18 W c;exact⟨(MK wp r).mono (by unfold Dt;omega),(z6b wp r).mono (by unfold B9;omega),zxb wp c0 c1,c0,c1,up,rfl,rfl,n0,n1,Qo,I7 _⟩
def G2{K S:Int}{c t:Int}{W:Q7}(sw:SW K W)(rb:RB S W)(c0:0<=c)(c1:c<(W.IF.length:Int))(up:(gi W.IF c).up)(t0:0<=t)(t1:t<12) :
  SW K (QI W c t)/\RB S (QI W c t)/\(gi (QI W c t).IF c).up/\(gi (QI W c t).IF c).Wh<50/\(gi (QI W c t).IF c).cur=t/\(QI W c t).IF.length=W.IF.length:=by
 have e:gi (QI W c t).IF c=ZX W c t:=(QE _ _ c0 c1 c0).trans (C' rfl);have hl:(QI W c t).IF.length=W.IF.length:=E';have hup:(ZX W c t).up:=by unfold ZX;split <;> exact up
 have hr:=rb.c c c0 c1;have hcu:=sw.cu c c0 c1;refine⟨sw.RM c0 c1 (EI (c:=c) (by rw[E'];exact sw.a.c2) c0 (by rw[E'];exact c1) (by rw[show gi (W.IF.set c.toNat (ZX W c t)) c=_ from e];exact hup)) ?_ ?_,rb.RM c0 c1 ?_,by rw[e];exact hup,?_,?_,hl⟩
 ·unfold ZX;split
  ·show -1<=t;omega
  ·exact hcu.1
 ·unfold ZX;split
  ·exact t1
  ·exact hcu.2
 ·unfold ZX;split
  ·exact⟨hr.1,hr.2.1,hr.2.2.1,hr.2.2.2.1,by show (0:Int)<=0;decide,by show (0:Int)<=149;decide⟩
  ·exact hr
 ·rw[e];unfold ZX;split
  ·show (0:Int)<50;decide
  ·omega
 ·rw[e];unfold ZX;split
  ·rfl
  ·rename_i h;exact Iq λhn=>h (.inl λe=>hn e.symm)
structure z6t (f:Nat) (c:Int) (W0 W:Q7) (left:Int):Prop where
 line:zm1 W (Qe W c) c
 us:Q6 W.IE (Q8 W (Qe W c)).II=true
 pin:∀g∈Z7 W (Qe W c),Q6 W.IE g=true
 len:(Z7 W (Qe W c)).length<=4
 s1:SW (Dt (f+1)) (QI W c (Qe W c))
 r1:RB (B9 (f+1)) (QI W c (Qe W c))
 Wh:(gi (QI W c (Qe W c)).IF c).Wh<50
 tk:zwb (Dt (f+1)) c (QI W c (Qe W c)) (ZC W c).1
 dr:∀g∈Z7 W (Qe W c),(gi (QI W c (Qe W c)).IE g).IM.I'≠0->gi (gi (QI W c (Qe W c)).IE g).IM.RE c=false
 m:(ZC W c).2->1<=Yz W c left/\Yz W c left<=left
 ch:(ZC W c).2->SW (Dt (f+1)+5*Qi) (JU (ZC W c).1 c (Qe W c) (Yz W c left))/\RB (B9 (f+1)+500) (JU (ZC W c).1 c (Qe W c) (Yz W c left))
 nx:D5 f c W0 (O0 W c left).1 (O0 W c left).2
 gt:QZ W.IE (O0 W c left).1.IE
def BV{K S c t n:Int}{W:Q7}(sw:SW K W)(rb:RB S W)(hS:S+500<=100000000000000000)(c0:0<=c)(c1:c<(W.IF.length:Int))(up:(gi W.IF c).up)(Wh:(gi W.IF c).Wh<50)(t0:0<=t)(t1:t<12)(hu:Q6 W.IE (Q8 W t).II)(n0:0<=n)(n1:n<=100) :
  SW (K+5*Qi) (JU W c t n)/\RB (S+500) (JU W c t n)/\Gw (JU W c t n) c=Gw W c/\(JU W c t n).now=W.now/\(JU W c t n).IF.length=W.IF.length/\(gi (JU W c t n).IF c).up/\SW (K+Qi) (J' W t (P4 W t n))/\RB (S+100) (J' W t (P4 W t n))/\zv0 (K+5*Qi) (S+500) c n (J' W t (P4 W t n)) (Gl c n (Z7 W t) (J' W t (P4 W t n))):=by
 have hv:=PY n (Qh (Q8 W t).nice) n0 n1;have hlg:0<=Qi:=Qd;have htv:=sw.tv t t0 t1;have htr:=rb.t t t0 t1;have hcr:=rb.c c c0 c1;obtain⟨hp1,eQ⟩:=B7 sw.a hu;have s1:SW (K+Qi) (J' W t (P4 W t n)):=(sw.mono (K':=K+Qi) Qo).J' t0 t1 (x:=P4 W t n) (λh=>sw.t t t0 t1 h) (by show 0<=(Q8 W t).v+Z2 n (Qh (Q8 W t).nice);omega) (by show (Q8 W t).v+Z2 n (Qh (Q8 W t).nice)<=_;omega);have r1:RB (S+100) (J' W t (P4 W t n)):=(rb.mono (S':=S+100) Qo).J' sw.a.t t0 t1 (x:=P4 W t n) ⟨by show 0<=(Q8 W t).sum+n;omega,by show (Q8 W t).sum+n<=_;omega,by show 0<=(Q8 W t).IW+n;omega,by show (Q8 W t).IW+n<=_;omega⟩;have h0:=zw3 c0 n0 n1 (Z7 W t) s1 r1 Qo c1 hp1;have h2:zv0 (K+5*Qi) (S+500) c n (J' W t (P4 W t n)) (Gl c n (Z7 W t) (J' W t (P4 W t n))):=⟨h0.sw.mono (by simp only[Qi];omega),h0.rb.mono Qo,h0.now,h0.t,h0.cp,h0.g,h0.p⟩;have rM:(Gl c n (Z7 W t) (J' W t (P4 W t n))).IF=W.IF:=h2.cp
 have e:gi (JU W c t n).IF c=zgy W c n:=by
  show gi ((Gl c n (Z7 W t) (J' W t (P4 W t n))).IF.set c.toNat (zgy W c n)) c=_;rw[rM];exact(QE _ _ c0 c1 c0).trans (C' rfl)
 have hlen:(JU W c t n).IF.length=W.IF.length:=by
  show ((Gl c n (Z7 W t) (J' W t (P4 W t n))).IF.set c.toNat (zgy W c n)).length=_;rw[E',rM]
 have hcu:=sw.cu c c0 c1;refine⟨h2.sw.RM c0 (by rw[rM];exact c1) (x:=zgy W c n) (EI (c:=c) ?_ c0 ?_ ?_) hcu.1 hcu.2,h2.rb.RM c0 (by rw[rM];exact c1) (x:=zgy W c n) ⟨by show 0<=(gi W.IF c).busy+n;omega,by show (gi W.IF c).busy+n<=_;omega,hcr.2.2.1,hcr.2.2.2.1,by show 0<=(gi W.IF c).Wh+n;omega,by show (gi W.IF c).Wh+n<=149;omega⟩,z17 (W':=JU W c t n) h2.p,h2.now,hlen,by rw[e];exact up,s1,r1,h2⟩
 ·rw[E',rM];exact sw.a.c2
 ·rw[E',rM];exact c1
 ·rw[show gi ((Gl c n (Z7 W t) (J' W t (P4 W t n))).IF.set c.toNat (zgy W c n)) c=_ from e];exact up
def zff{K S c:Int}{W:Q7}(sw:SW K W)(rb:RB S W)(hK:0<=K)(c0:0<=c)(c1:c<(W.IF.length:Int))(up:(gi W.IF c).up) :
  SW (K+UQ) (Qf W)/\RB S (Qf W)/\Dm (Qf W) c/\(gi (Qf W).IF c).up/\(Qf W).now=W.now/\(Qf W).IF.length=W.IF.length/\Gw (Qf W) c<=Gw W c:=by
 obtain⟨s,f⟩:=ON sw hK;have su:=Ux W;exact⟨s,rb.sum su f.g f.c,zvk sw hK c0 c1,by rw[su.u];exact up,f.n,f.c,zqw sw hK c⟩
def LW{f:Nat}{c left:Int}{W0 W:Q7}(h:D5 (f+1) c W0 W left)(hl:0<left)(hp:¬Qe W c<0):z6t f c W0 W left:=by
 have hf:=h.f2;have hh0:(0:Int)<=Qn:=Qd;have hK:=TH (f:=f+1) hf;have hS:=zbc (f:=f+1) hf;have c0:=h.c0;have c1:=h.c1;have eK:Dt f=Dt (f+1)+346860914400:=by unfold Dt;omega
 have eS:B9 f=B9 (f+1)+500:=by unfold B9;omega
 have vL:=zvd h.sw.a (h.sw.cu c c0 c1).2 h.dm.cu hp;have hM:Yz W c left=MU (ZC W c).1 c (Z7 W (Qe W c)) left:=rfl;have hT:ZC W c=Br c (Z7 W (Qe W c)) (QI W c (Qe W c)):=rfl;have hR:O0 W c left=if (ZC W c).2=true then (Qf (JU (ZC W c).1 c (Qe W c) (Yz W c left)),left-Yz W c left) else (Qf (Rb (ZC W c).1 c),left):=rfl;have t0:=vL.t0;have t1:=vL.t1;obtain⟨us,_,_⟩:=h.sw.t _ t0 t1 (by rw[vL.st];decide);obtain⟨pin,B49⟩:=B7 h.sw.a us;obtain⟨s1,r1,u1,CE2,cu1,l1⟩:=G2 h.sw h.rb c0 c1 h.up t0 t1
 have hdr:∀g∈Z7 W (Qe W c),(gi (QI W c (Qe W c)).IE g).IM.I'≠0->gi (gi (QI W c (Qe W c)).IE g).IM.RE c=false:=λg hg hq=>by
  have hq:(gi W.IE g).IM.I'≠0:=hq;show gi (gi W.IE g).IM.RE c=false;have hug:=pin g hg;obtain⟨u0,u8,rO⟩:=h.sw.a.u hug;rcases Im.1 hg with hg|hg
  ·have hon:=vL.on g hg;have hz:=(Ys h.sw.a.tree _ us g hg).2;have:=h.dm.on g hug hz;unfold UN at this;rw[hon] at this
   have hd:Jm W g c=false:=by
    cases hd:Jm W g c with
    |false=>rfl
    |true=>rw[hd] at this;simp at this
   unfold Jm at hd;have:=(rO.IM hq).1.q1;rw[Ih Qo,Bool.true_and] at hd;exact hd
  ·rw[IA.1 hg] at hq rO;exact Ir (rO.root rfl).2.2 hq
 obtain⟨tk,tl,tf⟩:=zrn c0 (Z7 W (Qe W c)) s1 (by rw[l1];exact c1) pin hdr;rw[<-hT] at tk tl tf;have eT:(ZC W c).1.IJ=W.IJ:=tk.o.t;have eC:(ZC W c).1.IF=(QI W c (Qe W c)).IF:=tk.o.c;have eG:QZ W.IE (ZC W c).1.IE:=tk.o.g;have lT:(ZC W c).1.IF.length=W.IF.length:=by rw[eC,l1]
 have rT:RB (B9 (f+1)) (ZC W c).1:=r1.sum tk.su tk.o.g (by rw[eC]);have uT:Q6 (ZC W c).1.IE (Q8 (ZC W c).1 (Qe W c)).II:=by rw[eG.cD,Xf eT];exact us
 have pT:Z7 (ZC W c).1 (Qe W c)=Z7 W (Qe W c):=zba eT eG _;have upT:(gi (ZC W c).1.IF c).up:=by rw[eC];exact u1
 have AZ0:(gi (ZC W c).1.IF c).Wh<50:=by rw[eC];exact CE2
 have phT:Gw (ZC W c).1 c<=Gw W c:=HR (λk _=>tk.p (k:Int) Qo) 8 (I7 _)
 have hm:(ZC W c).2->1<=Yz W c left/\Yz W c left<=left:=λht=>by
  refine zjc _ left Qo λg hg hq=>?_
  have g0:=(Q5.1 (pin g hg)).1;rw[tk.q g g0] at hq;exact tl ht g hg Qo
 have hl1:=h.l1;have hch:(ZC W c).2->_:=λht=>BV (t:=Qe W c) (n:=Yz W c left) tk.sw rT Qo c0 (by rw[lT];exact c1) upT AZ0 t0 t1 uT (by have:=hm ht;omega) (by have:=hm ht;omega)
 refine⟨vL,us,pin,B49,s1,r1,CE2,tk,hdr,hm,λht=>⟨(hch ht).1,(hch ht).2.1⟩,?_,?_⟩
 rotate_left
 ·rw[hR]
  by_cases ht:(ZC W c).2=true
  ·rw[C' ht];have a:=(hch ht).1;have g1:QZ (ZC W c).1.IE (JU (ZC W c).1 c (Qe W c) (Yz W c left)).IE:=(hch ht).2.2.2.2.2.2.2.2.g;exact(eG.trans g1).trans (ON a (by simp only[Qi];omega)).2.g
  ·rw[B' ht];have g1:QZ (ZC W c).1.IE (Rb (ZC W c).1 c).IE:=QZ.refl _;exact(eG.trans g1).trans (ON (tk.sw.Rb c0 (by rw[lT];exact c1)) Qo).2.g
 rw[hR];have hf1:=h.f1
 by_cases ht:(ZC W c).2=true
 ·rw[C' ht];obtain⟨a,b,d,e1,e2,e3,_⟩:=hch ht;obtain⟨b1,b2,b3,b4,b5,b6,b7⟩:=zff a b (by simp only[Qi];omega) c0 (by rw[e2,lT];exact c1) e3;have hm:=hm ht
  exact⟨b1.mono (by simp only[Qi,UQ];omega),b2.mono Qo,b3,c0,by rw[b6,e2,lT];exact c1,b4,by rw[b5,e1,tk.o.n];exact h.now,by rw[b6,e2,lT];exact h.len,by show 0<=left-Yz W c left;omega,by show left-Yz W c left<=100;omega,by
   rw[d] at b7;show left-Yz W c left+((Gw (Qf (JU (ZC W c).1 c (Qe W c) (Yz W c left))) c:Nat):Int)<_;omega,Qo⟩
 ·rw[B' ht];have ht:(ZC W c).2=false:=by simpa using ht
  obtain⟨g,hg,IV⟩:=tf ht;have g0:=Q5.1 (pin g hg);have cZ:=h.sw.a.gl
  have hp1:Gw (ZC W c).1 c<Gw W c:=by
   refine zs3 (λk _=>tk.p (k:Int) Qo) (j:=g.toNat) ?_ 8 Qo (I7 _);rw[show ((g.toNat:Nat):Int)=g by omega];exact IV
  have ce:c<((ZC W c).1.IF.length:Int):=by rw[lT];exact c1
  have sE:=tk.sw.Rb c0 ce;have eE:gi (Rb (ZC W c).1 c).IF c=Xv (gi (ZC W c).1.IF c):=(QE _ _ c0 ce c0).trans (C' rfl);have lE:(Rb (ZC W c).1 c).IF.length=(ZC W c).1.IF.length:=E';obtain⟨b1,b2,b3,b4,b5,b6,b7⟩:=zff sE (rT.sum (HY _ c) (QZ.refl _) lE) Qo c0 (by rw[lE];exact ce) (by rw[eE];exact upT)
  exact⟨b1.mono (by simp only[Qi,UQ];omega),b2.mono Qo,b3,c0,by rw[b6,lE];exact ce,b4,by rw[b5];show (ZC W c).1.now=_;rw[tk.o.n];exact h.now,by rw[b6,lE,lT];exact h.len,h.l0,h.l1,by
   have b7:Gw (Qf (Rb (ZC W c).1 c)) c<=Gw (ZC W c).1 c:=b7;show left+((Gw (Qf (Rb (ZC W c).1 c)) c:Nat):Int)<_;omega,Qo⟩
def zwu{b:Ue}{c:Int}(c0:0<=c)(c1:c<(b.locals.length:Int)):ZL b ⟨1,c,0⟩=ZQ b c:=by
 unfold ZL;rw[B' (show ¬(1:Int)=4 by decide),B' (by rw[Qv.2 (by show 0<=c/\c<=_;omega)];decide),C' rfl]
def zlc{α:Type}[Inhabited α]{l:List α}{k:Nat}(h:k<l.length):l.drop k=gi l (k:Int)::l.drop (k+1):=by
 rw[List.drop_eq_getElem_cons h]
 congr 1
 unfold gi;rw[Ig,List.getD_eq_getElem?_getD,Il h];rfl
def zld{α:Type}[Inhabited α]{l:List α}{k:Nat}(h:k<l.length):gi l (k:Int)∈l:=by
 have:=List.getElem_mem h;unfold gi;rw[Ig,List.getD_eq_getElem?_getD,Il h];exact this
def Hz{c g:Int}{l:List Int}{W:Q7}:Br c (g::l) W=if (Lm W c g).2=true then Br c l (Lm W c g).1 else ((Lm W c g).1,false):=rfl
section
variable {base:Nat}{W:Q7}{m:MW}{w:Wo}
def Mz{pb n:Nat}{l:List Int}{pO:OA}{pC:Nat}{w2:Wo}{bs:List Nat}{V:Q7}{m2:MW}(hp:Uy JW 1 Qc pb w pO pC l)(hpn:∀x∈QL pO,x∉QN n m)(hM:Mv n base bs w m w2 V m2):Uy JW 1 Qc pb w2 pO pC l/\zm2 bs w2 pO l:=by
 have h:=hp.ext hM.ext hpn
 exact⟨h,h.rd X6.len λx hx hm=>by
  have:=(hp.lt x hx).2;have:=hM.new x hm;omega⟩
def Mv.put{n:Nat}{bs:List Nat}{w0 w w':Wo}{m0:MW}{b:Nat}(h:Mv n base bs w0 m0 w W m)(hx:Q0 bs w w')(hb:w.heap.size<=b):Mv n base (bs++[b]) w0 m0 w' W m:=(h.add hb).step (hx.mono λx hm=>Ia _ hm)
def zhp{K c:Int}{l:List Int}{pO:OA}{pC pb:Nat}(h:Zj 8 base w W m)(sw:SW K W)(AC9:base<=w.heap.size)(hp:Uy JW 1 Qc pb w pO pC l)(hpn:∀x∈QL pO,x∉QN 8 m)(hl4:l.length<=4)(c0:0<=c)(c1:c<(W.IF.length:Int))(hu:∀g∈l,Q6 W.IE g)(hd:∀g∈l,(gi W.IE g).IM.I'≠0->gi (gi W.IE g).IM.RE c=false) :
  Cz Mi #[.agg (Qa W m).toArray,.slice pO l.length pC,I c] w λe w'=>∃m',e=.returned (.tuple #[.agg (Qa W m).toArray,.bool (Br c l W).2])/\Mv 8 base [] w m w' (Br c l W).1 m':=by
 refine(zg5 _ _ _ _ _ _ _ _ _ _ pO l.length pC c (R:=λv w'=>∃m',v=.tuple #[.agg (Qa W m).toArray,.bool (Br c l W).2]/\Mv 8 base [] w m w' (Br c l W).1 m') ?_).mono λe w' ⟨v,he,m',hv,h3⟩=>⟨m',by rw[he,hv],h3⟩
 intro x hx x1 Sn;have cZ:=sw.a.gl;have A90:=YF hx Sn
 refine⟨λvs w2=>∃(k:Nat) (r:List Va) (V:Q7) (m2:MW),vs=I (k:Int)::r/\k<=l.length/\Mv 8 base [x,x1] w m w2 V m2/\Br c l W=Br c (l.drop k) V/\SW K V/\V6 W V/\∀g∈l.drop k,(gi V.IE g).IM.I'≠0->gi (gi V.IE g).IM.RE c=false,
  Zp l.length 0,λwr Rl _=>⟨0,_,W,m,rfl,Ic _,(Mv.two h hx Sn).R5 Rl,rfl,sw,V6.refl _,hd⟩,?_⟩
 rintro i1 ll RA Rz RQ RF RL RP RG RH RJ w2 We ⟨k,r,V,m2,he,hk,WM,hE,swV,oV,hdV⟩;simp only[I4,I5,true_and] at he;obtain⟨rfl,_⟩:=he;have hmg:m2.gO=m.gO:=by rw[WM.hd]
 have hr:=WM.rd;have CB9:V.IE.length=8:=swV.a.gl;obtain⟨_,hpr⟩:=Mz hp hpn WM;refine⟨λIV=>?_,λRW=>?_⟩
 ·have Ci0:=Ot IV;have IV:k<l.length:=Qo;have hdr:=zlc IV;have rO:=hu _ (zld IV);rw[hdr] at hE hdV;have hug:Q6 V.IE (gi l (k:Int)):=by rw[oV.g.cD];exact rO
  have wK:=hpr (k:Int) Qo Qo;have AR2:=hpr.ix XP (i:=(k:Int)) Qo Qo;have hdk:=hdV _ I9;generalize hgk:gi l (k:Int)=g at hE hdV hug wK hdk rO hdr;obtain⟨u0,u1,hgg⟩:=swV.a.u hug;have Re:g<(V.IE.length:Int):=Qo;have Wx:Ix m.gO W.IE.length g:=by have:=hr.g.ix (i:=g) u0 Re;rwa[CB9,<-cZ,hmg] at this
  have BX8:=hr.g.cells g u0 Re;rw[hmg] at BX8;refine⟨AR2,g,wK,Wx,_,_,_,_,_,_,_,_,_,_,_,_,_,_,_,_,_,_,_,_,BX8,λb4 hb4=>⟨BX8,wK,rfl,λg1=>?_,λg1=>?_⟩⟩
  ·have g1:(gi V.IE g).IM.I'=0:=by simpa using g1
   have hT:Lm V c g=(V,true):=by unfold Lm;rw[C' g1]
   rw[Hz,hT,C' rfl] at hE;exact⟨⟨Qo,Qo⟩,λwr Rl _=>⟨⟨k+1,_,V,m2,by simp;rfl,Qo,WM.step Rl,hE,swV,oV,λy hy=>hdV y (I1 _ hy)⟩,Z6 (k:=k) rfl rfl IV⟩⟩
  ·have g1:(gi V.IE g).IM.I'≠0:=by simpa using g1
   obtain⟨hb,hbl,_⟩:=hgg.IM g1;have Ao3:c<(V.IF.length:Int):=by rw[oV.c];exact c1
   have hcl:c<((gi V.IE g).IM.locals.length:Int):=Qo;intro RD Rl dX;have dW:=WM.put Rl hb4;have hr4:=dW.rd0;refine I3 (Ve (op:=⟨1,c,0⟩) hb (hr4.g.locals g u0 Re) (hr4.g.RE g u0 Re)) ?_;rintro e RO ⟨p,he,hO,hy⟩;rw[zwu c0 hcl] at he hO;have tV:=dW.R5 hy;have hbs:base<=RD.heap.size:=by have:=dW.ext.size;omega
   have hOb:∀y∈YD p,RD.heap.size<=y:=λy hy=>(hO.lt y hy).1
   have BX7:=tV.own.Bs6 (i:=g) u0 Qo (hO.mono hbs) (λy hy hm=>by have:=hOb y hy;have:=(dW.own.lt y hm).2;omega);have hwr:=zru tV.own tV.nb (i:=g) u0 Qo (j:=8) (k:=5) Qd;have hsz:=dW.ext.size
   have pY:=tV.swap BX7 A3 rfl λy hy=>by
    rcases OM y hy with h1|h1
    ·exact .inl h1
    ·rcases OK y h1 with h2|h2
     ·have:=hOb y h2;exact .inr ⟨Qo,λhm=>by have:=dX y hm;omega⟩
     ·exact .inl (Uv Qo h2)
   rw[hmg] at hwr;have hgO:m2.gO=m.gO:=hmg;rw[hgO] at pY;obtain⟨_,DA9⟩:=Mz hp hpn tV;have Cj6:=DA9 (k:Int) Qo Qo;rw[hgk] at Cj6;have hTk:Lm V c g=(RZ V g (ZQ (gi V.IE g).IM c).1,decide ((ZQ (gi V.IE g).IM c).2≠2)):=by unfold Lm;rw[B' g1]
   obtain⟨tk,t2,_⟩:=zrm swV c0 Ao3 hug hdk;rw[Hz] at hE;refine⟨_,_,_,_,_,_,_,_,_,_,he,Qg hy dX,λb5 hb5=>⟨AR2,g,Cj6,Wx,hwr,λg2 Su bM=>?_,λg2=>⟨⟨Qo,Qo⟩,λSu bM hs6=>⟨⟨k+1,_,RZ V g (ZQ (gi V.IE g).IM c).1,_,by simp;rfl,Qo,(pY.step bM).Bb9 Qs,?_,?_,?_,λy hy hq=>?_⟩,Z6 (k:=k) rfl rfl IV⟩⟩⟩⟩
   ·have g2:(ZQ (gi V.IE g).IM c).2=2:=by simpa using g2
    have:(Lm V c g).2=false:=by rw[hTk];simp[g2]
    rw[hE,this,B' Qd,hTk];exact⟨_,rfl,(pY.step bM).close⟩
   all_goals
    have g2:(ZQ (gi V.IE g).IM c).2≠2:=by simpa using g2
    have ht2:(Lm V c g).2:=by rw[hTk];simp[g2]
    have hT1:(Lm V c g).1=RZ V g (ZQ (gi V.IE g).IM c).1:=by rw[hTk]
   ·rw[hE,C' ht2,hT1]
   ·rw[<-hT1];exact tk.sw
   ·rw[<-hT1];exact oV.trans tk.o
   ·have y0:=(Q5.1 (hu y (List.mem_of_mem_drop hy))).1;rw[<-hT1] at hq ⊢;rw[tk.q y y0] at hq;exact(t2 ht2).2 y y0 (hdV y (I1 _ hy)) hq
 ·have RW:=Ou RW;have hk2:k=l.length:=Qo;subst hk2;rw[List.drop_length] at hE;rw[hE];exact λw3 Rl=>⟨m2,rfl,(WM.step Rl).close⟩
def zhm{c n:Int}{l:List Int}{pO:OA}{pC:Nat}{bs:List Nat}(h:J6 bs w W m)(ha:WA W)(hp:zm2 bs w pO l)(hl4:l.length<=4)(c0:0<=c)(c1:c<(W.IF.length:Int))(hu:∀g∈l,Q6 W.IE g) :
  PX bs Mg #[.agg (Qa W m).toArray,.slice pO l.length pC,I c,I n] w (I (MU W c l n)):=
 zid _ _ _ _ _ _ _ _ _ _ pO l.length pC c n λwr hx=>by
  have h:=(h.ext hx).less (cs:=[]) Qs;have hp:=(hp.ext hx).less (cs:=[]) Qs;intro _ _;refine P9 l.length 0 rfl (λy k=>k<=l.length/\MU W c l n=MU W c (l.drop k) y) ⟨Ic _,rfl⟩ λy k ⟨hk,hy⟩=>⟨λIV=>?_,λRW=>?_⟩
  ·have Ci0:=Ot IV;have IV:k<l.length:=Qo;have hdr:=zlc IV;have rO:=hu _ (zld IV);rw[hdr] at hy;have wK:=hp (k:Int) Qo Qo;generalize gi l (k:Int)=g at hy wK rO;obtain⟨u0,u1,hgg⟩:=ha.u rO;have cZ:=ha.gl;have hyy:MU W c (g::l.drop (k+1)) y=MU W c (l.drop (k+1)) (Gs W c g y):=rfl;rw[hyy] at hy;refine⟨hp.ix XP (i:=(k:Int)) Qo Qo,g,wK,h.g.ix u0 Qo,_,_,_,_,_,_,_,_,_,h.g.IM u0 Qo,λb1 dG=>⟨h.g.IM u0 Qo,wK,rfl,λg1=>?_,λg1=>?_⟩⟩
   ·have g1:=Ot g1;obtain⟨hb,hbl,_⟩:=hgg.IM Qo;have hLo:=h.g.locals g u0 Qo;refine⟨hLo.ix XP c0 Qo,_,hLo c c0 Qo,_,JB,⟨Qo,Qo⟩,QP Qo ⟨Qo,?_⟩⟩;rw[hy];unfold Gs;rw[C' g1]
   ·have g1:=Ou g1;refine⟨⟨Qo,Qo⟩,QP Qo ⟨Qo,?_⟩⟩;rw[hy];unfold Gs;rw[B' g1]
  ·have RW:=Ou RW;have:k=l.length:=Qo;subst this;rw[List.drop_length] at hy;show I y=_;rw[hy];rfl
end
def zcn{c n g:Int}{l:List Int}{W:Q7}:Gl c n (g::l) W=Gl c n l (MR W c n g):=rfl
def Lt(W:Q7)(c n g:Int):(TP W c n g).IE.length=W.IE.length:=by simp[TP,Rw,R1]
def zcl{W:Q7}{c n g:Int}(u0:0<=g)(u1:g<(W.IE.length:Int)):gi (TP W c n g).IE g={ gi W.IE g with IH:=(gi W.IE g).IH.set c.toNat (GG W c n g) }:=by
 unfold TP Rw;rw[Yt u0 u1 u0,C' rfl]
def zkt{W:Q7}{c n g:Int}(u0:0<=g)(u1:g<(W.IE.length:Int)):gi (R1 (TP W c n g) g (Kk W c n g)).IE g=Kk W c n g:=by
 rw[Yt u0 (by rw[Lt];exact u1) u0,C' rfl]
def Fg{W:Q7}{c n g:Int}(u0:0<=g)(u1:g<(W.IE.length:Int)):(Kk W c n g).IM=(gi W.IE g).IM:=by
 unfold Kk;rw[zcl u0 u1]
def zcm{W:Q7}{c n g:Int}(u0:0<=g)(u1:g<(W.IE.length:Int))(h:¬(gi W.IE g).IM.I'>0):MR W c n g=R1 (TP W c n g) g (Kk W c n g):=by
 unfold MR BU;rw[B' h,<-Fg (c:=c) (n:=n) u0 u1];have:=zkt (c:=c) (n:=n) u0 u1
 conv=>lhs;arg 3;rw[<-this]
 exact G0 u0 (by simp only[R1,E'];rw[Lt];exact u1)
section
variable {base:Nat}{W:Q7}{m:MW}{w:Wo}
def y7{K S t c n:Int}{pO:OA}{pC pb:Nat}(h:Zj 8 base w W m)(AC9:base<=w.heap.size)(hp:Uy JW 1 Qc pb w pO pC (Z7 W t))(hpn:∀x∈QL pO,x∉QN 8 m)(sw:SW K W)(rb:RB S W)(hK:0<=K/\K<=60000000000000000)(hS:0<=S/\S<=60000000000000000)(c0:0<=c)(c1:c<(W.IF.length:Int))(up:(gi W.IF c).up)(Wh:(gi W.IF c).Wh<50)(t0:0<=t)(t1:t<12)(hu:Q6 W.IE (Q8 W t).II)(n0:0<=n)(n1:n<=100) :
  Cz OF #[.agg (Qa W m).toArray,I t,.slice pO (Z7 W t).length pC,I c,I n] w λe w'=>∃m',e=.returned (.agg (Qa (Qf (JU W c t n)) m').toArray)/\Mv 8 base [] w m w' (Qf (JU W c t n)) m':=by
 obtain⟨sE,rE,_,_,hlE,_,s1,r1,cp1⟩:=BV sw rb Qo c0 c1 up Wh t0 t1 hu n0 n1;obtain⟨pin,B49⟩:=B7 sw.a hu;refine(CO _ _ _ _ _ _ _ _ _ _ t pO (Z7 W t).length pC c n (R:=λv w'=>∃m',v=.agg (Qa (Qf (JU W c t n)) m').toArray/\Mv 8 base [] w m w' (Qf (JU W c t n)) m') ?_).mono λe w' ⟨v,he,m',hv,h3⟩=>⟨m',by rw[he,hv],h3⟩
 intro x hx x1 Sn;have cZ:=sw.a.gl;have qT:=sw.a.t;have hlg:Qi=34686091440:=rfl;have cA:=h.rd (bs:=[]) Qs;have Wx:=cA.t.ix QT t0 Qo;have htv:=sw.tv t t0 t1;have htr:=rb.t t t0 t1;have hv:=PY n (Qh (Q8 W t).nice) n0 n1;refine⟨Wx,_,_,_,_,_,_,_,_,_,cA.t t t0 Qo,λx2 Rg=>⟨_,Y1,_,XC,⟨?_,?_⟩,⟨?_,?_⟩,⟨?_,?_⟩,Wx,zts h Qs t0 Qo (j:=0) Qd,?_⟩⟩
 ·show _<=(Q8 W t).v+Z2 n (Qh (Q8 W t).nice);omega
 ·show (Q8 W t).v+Z2 n (Qh (Q8 W t).nice)<=_;omega
 ·show _<=(Q8 W t).sum+n;omega
 ·show (Q8 W t).sum+n<=_;omega
 ·show _<=(Q8 W t).IW+n;omega
 ·show (Q8 W t).IW+n<=_;omega
 have eT:Zj 8 base (Rx w m.tO (Int.toNat t*9) (X4 (P4 W t n))) (J' W t (P4 W t n)) m:=h.AP2 t0 Qo (j:=0) (vs:=X4 (P4 W t n)) (x:=P4 W t n) (by simp[X4]) (by simp[X4]);have hM1:Mv 8 base [x,x1,x2] w m (Rx w m.tO (Int.toNat t*9) (X4 (P4 W t n))) (J' W t (P4 W t n)) m:=((Mv.two h hx Sn).add Rg).Sv eT Hv
 refine⟨λvs w2=>∃(k:Nat) (V:Q7) (m2:MW),vs=[I (k:Int)]/\k<=(Z7 W t).length/\Mv 8 base [x,x1,x2] w m w2 V m2/\Gl c n (Z7 W t) (J' W t (P4 W t n))=Gl c n ((Z7 W t).drop k) V/\zv0 (K+Qi+Qi*(k:Int)) (S+100+100*(k:Int)) c n (J' W t (P4 W t n)) V,
  Zp (Z7 W t).length 0,λwr Rl _=>⟨0,_,m,rfl,Ic _,hM1.R5 Rl,rfl,⟨s1.mono Qs,r1.mono Qs,rfl,rfl,rfl,QZ.refl _,λ_ _=>rfl⟩⟩,?_⟩
 rintro i1 w2 We ⟨k,V,m2,he,hk,WM,hE,hC⟩;simp only[I4,I5,true_and,and_true] at he;subst he;have hkk:0<=Qi*(k:Int)/\Qi*(k:Int)<=138744365760:=by simp only[Qi];omega
 have hk1:Qi*((k+1:Nat):Int)=Qi*(k:Int)+Qi:=by simp only[Qi];omega
 have hmg:m2.gO=m.gO:=by rw[WM.hd]
 have hmc:m2.cO=m.cO:=by rw[WM.hd]
 have hr:=WM.rd;have CB9:V.IE.length=8:=hC.sw.a.gl;have Ao3:V.IF.length=W.IF.length:=by rw[hC.cp];rfl
 obtain⟨_,hpr⟩:=Mz hp hpn WM;refine⟨λIV=>?_,λRW=>?_⟩
 ·have Ci0:=Ot IV;have IV:k<(Z7 W t).length:=Qo;have hdr:=zlc IV;have rO:=pin _ (zld IV);rw[hdr,zcn] at hE;have hug:Q6 V.IE (gi (Z7 W t) (k:Int)):=by rw[hC.g.cD];exact rO
  have wK:=hpr (k:Int) Qo Qo;have AR2:=hpr.ix XP (i:=(k:Int)) Qo Qo;generalize hgk:gi (Z7 W t) (k:Int)=g at hE hug wK rO hdr;have hC2:=hC.trans (zkq hC.sw hC.rb Qo c0 (by rw[Ao3];exact c1) hug n0 n1);have hC3:zv0 (K+Qi+Qi*((k+1:Nat):Int)) (S+100+100*((k+1:Nat):Int)) c n (J' W t (P4 W t n)) (MR V c n g):=⟨hC2.sw.mono Qo,hC2.rb.mono Qo,hC2.now,hC2.t,hC2.cp,hC2.g,hC2.p⟩;obtain⟨u0,u1,hgg⟩:=hC.sw.a.u hug;have Re:g<(V.IE.length:Int):=Qo;have hsl:=hC.sw.a.sl hug;have hcs:c<((gi V.IE g).IH.length:Int):=Qo;have BX4:Ix m.gO W.IE.length g:=by have:=hr.g.ix (i:=g) u0 Re;rwa[CB9,<-cZ,hmg] at this
  have BX8:=hr.g.cells g u0 Re;rw[hmg] at BX8;have hss:=hr.g.IH g u0 Re;have hsc:=hss c c0 hcs;have CQ2:=hss.ix YM c0 hcs;have hsv:=hC.sw.s g c hug c0 (by rw[Ao3];exact c1);have hsr:=hC.rb.s g c hug c0 (by rw[Ao3];exact c1);have hgr:=hC.rb.g g hug;have hv2:=PY n (Qb V g c).w n0 n1;refine⟨AR2,g,wK,BX4,_,_,_,_,_,_,_,_,_,_,_,_,_,_,_,_,_,_,_,_,BX8,λb3 wM=>⟨BX8,wK,rfl,CQ2,_,_,_,_,_,hsc,λb4 hb4=>⟨AR2,g,wK,?_⟩⟩⟩
  have eA:∀s:KD,s=GG V c n g->Zj 8 base (Rx w2 (m2.ms g.toNat).sO (Int.toNat c*5) (T4 s)) (TP V c n g) m2:=λs hs=>by
   subst hs;exact WM.own.CE4 u0 Qo c0 hcs (j:=0) (vs:=T4 (GG V c n g)) (x:=GG V c n g) (by simp[T4]) (by simp[T4])
  have Cm1:=z6l WM.own WM.nb (i:=g) u0 Qo c0 hcs (j:=0) (k:=5) Qd;have CR8:=hr.g.Rn (i:=g) u0 Re;rw[hmg] at CR8;refine⟨λg1=>?_,λg1=>?_⟩
  ·have g1:g≠0:=by simpa using g1
   have hs:(⟨(Qb V g c).IL,(Qb V g c).on,(Qb V g c).v+Z2 n (Qb V g c).w,(Qb V g c).w,(Qb V g c).sum+n⟩:KD)=GG V c n g:=by unfold GG;rw[C' g1]
   have eA:=eA _ hs;refine⟨_,XC,⟨?_,?_⟩,⟨?_,?_⟩,AR2,g,wK,BX4,_,_,_,CR8,CQ2,Cm1,AR2,g,?_,⟨?_,?_⟩,BX4,?_,?_⟩
   ·show _<=(Qb V g c).v+Z2 n (Qb V g c).w;omega
   ·show (Qb V g c).v+Z2 n (Qb V g c).w<=_;omega
   ·show _<=(Qb V g c).sum+n;omega
   ·show (Qb V g c).sum+n<=_;omega
   ·have:=(Mz hp hpn (WM.Sv eA (zmj Qo))).2 (k:Int) Qo Qo;rw[hgk] at this;exact this
   ·show _<=(gi V.IE g).sum+n;omega
   ·show (gi V.IE g).sum+n<=_;omega
   ·have:=zru eA WM.nb (i:=g) u0 Qo (j:=7) (k:=1) Qd;rw[hmg] at this;exact this
   have jC:=((WM.add wM).add hb4).Sv eA (zmj Qo);have eU:=eA.As2 (i:=g) u0 Qo (g:=Kk V c n g) rfl rfl rfl (j:=7) (vs:=[I ((gi V.IE g).sum+n)]) (by unfold Kk;rw[zcl u0 Re];rfl) Qs;have dW:=jC.Sv eU A3;rw[hmg] at dW;have dW:Mv 8 base [x,x1,x2,b3,b4] w m _ (R1 (TP V c n g) g (Kk V c n g)) m2:=dW;have hgb:=Fg (c:=c) (n:=n) u0 Re;have hgi:=zkt (c:=c) (n:=n) u0 Re;have hl5:(R1 (TP V c n g) g (Kk V c n g)).IE.length=V.IE.length:=by simp only[R1,E'];exact Lt _ _ _ _
   have AI8:=zcm (c:=c) (n:=n) u0 Re;have Wg:MR V c n g=RZ (R1 (TP V c n g) g (Kk V c n g)) g (BU V c n g):=rfl;generalize R1 (TP V c n g) g (Kk V c n g)=V5 at dW hgi hl5 AI8 Wg;refine⟨λg2 R6 Rl jS=>?_,λg2=>⟨⟨Qo,Qo⟩,λR6 Rl _=>⟨⟨k+1,MR V c n g,m2,Qs,Qo,?_,hE,hC3⟩,Z6 (k:=k) rfl rfl IV⟩⟩⟩
   ·have g2:(gi V.IE g).IM.I'>0:=Ot g2;have hB:BU V c n g=(ZL (gi V.IE g).IM ⟨2,c,n⟩).1:=by unfold BU;rw[C' g2]
    rw[hB] at Wg;obtain⟨hb,hbl,_⟩:=hgg.IM Qo;have pY:Mv 8 base [x,x1,x2,b3,b4] w m R6 V5 m2:=dW.step (Rl.mono λy hy=>by simp only[Ii,List.not_mem_nil,or_false] at hy ⊢;rcases hy with h|h|h <;> simp[h]);have hr6:=pY.rd0;have hg5:g<(V5.IE.length:Int):=by rw[hl5];exact Re
    have hLo:=hr6.g.locals g u0 hg5;have hDo:=hr6.g.RE g u0 hg5;rw[hgi,hgb] at hLo hDo;refine I3 (Ve (op:=⟨2,c,n⟩) hb hLo hDo) ?_;rintro e RO ⟨p,he,hO,hy⟩;have rU:=pY.R5 hy;have hbs:base<=R6.heap.size:=by have:=pY.ext.size;omega
    have hOb:∀y∈YD p,R6.heap.size<=y:=λy hy=>(hO.lt y hy).1
    have BX7:=rU.own.Bs6 (i:=g) u0 Qo (hO.mono hbs) (λy hy hm=>by have:=hOb y hy;have:=(pY.own.lt y hm).2;omega);have hwr:=zru rU.own rU.nb (i:=g) u0 Qo (j:=8) (k:=5) Qd;have hsz:=pY.ext.size
    have hM8:=rU.swap BX7 A3 rfl λy hy=>by
     rcases OM y hy with h1|h1
     ·exact .inl h1
     ·rcases OK y h1 with h2|h2
      ·have:=hOb y h2;exact .inr ⟨Qo,λhm=>by have:=jS y hm;omega⟩
      ·exact .inl (Uv Qo h2)
    rw[hmg] at hwr hM8;rw[<-Wg] at hM8;have B19:=(Mz hp hpn rU).2 (k:Int) Qo Qo;rw[hgk] at B19;exact⟨_,_,_,_,_,_,_,_,_,_,he,Qg hy jS,λb5 hb5=>⟨AR2,g,B19,BX4,hwr,⟨Qo,Qo⟩,λSu bM _=>⟨⟨k+1,MR V c n g,_,Qs,Qo,(hM8.step bM).Bb9 Qs,hE,hC3⟩,Z6 (k:=k) rfl rfl IV⟩⟩⟩
   ·have g2:¬(gi V.IE g).IM.I'>0:=Ou g2;rw[AI8 g2];exact(dW.Bb9 (cs:=[x,x1,x2]) (λy hy=>by simp only[Ii,List.not_mem_nil,or_false] at hy ⊢;rcases hy with h|h|h <;> simp[h])).step Rl
  ·have g1:¬g≠0:=by simpa using g1
   have hs:(⟨(Qb V g c).IL,(Qb V g c).on,(Qb V g c).v,(Qb V g c).w,(Qb V g c).sum+n⟩:KD)=GG V c n g:=by unfold GG;rw[B' g1]
   have eA:=eA _ hs;refine⟨⟨?_,?_⟩,AR2,g,wK,BX4,_,_,_,CR8,CQ2,Cm1,AR2,g,?_,⟨?_,?_⟩,BX4,?_,?_⟩
   ·show _<=(Qb V g c).sum+n;omega
   ·show (Qb V g c).sum+n<=_;omega
   ·have:=(Mz hp hpn (WM.Sv eA (zmj Qo))).2 (k:Int) Qo Qo;rw[hgk] at this;exact this
   ·show _<=(gi V.IE g).sum+n;omega
   ·show (gi V.IE g).sum+n<=_;omega
   ·have:=zru eA WM.nb (i:=g) u0 Qo (j:=7) (k:=1) Qd;rw[hmg] at this;exact this
   have jC:=((WM.add wM).add hb4).Sv eA (zmj Qo);have eU:=eA.As2 (i:=g) u0 Qo (g:=Kk V c n g) rfl rfl rfl (j:=7) (vs:=[I ((gi V.IE g).sum+n)]) (by unfold Kk;rw[zcl u0 Re];rfl) Qs;have dW:=jC.Sv eU A3;rw[hmg] at dW;have dW:Mv 8 base [x,x1,x2,b3,b4] w m _ (R1 (TP V c n g) g (Kk V c n g)) m2:=dW;have hgb:=Fg (c:=c) (n:=n) u0 Re;have hgi:=zkt (c:=c) (n:=n) u0 Re;have hl5:(R1 (TP V c n g) g (Kk V c n g)).IE.length=V.IE.length:=by simp only[R1,E'];exact Lt _ _ _ _
   have AI8:=zcm (c:=c) (n:=n) u0 Re;have Wg:MR V c n g=RZ (R1 (TP V c n g) g (Kk V c n g)) g (BU V c n g):=rfl;generalize R1 (TP V c n g) g (Kk V c n g)=V5 at dW hgi hl5 AI8 Wg;refine⟨λg2 R6 Rl jS=>?_,λg2=>⟨⟨Qo,Qo⟩,λR6 Rl _=>⟨⟨k+1,MR V c n g,m2,Qs,Qo,?_,hE,hC3⟩,Z6 (k:=k) rfl rfl IV⟩⟩⟩
   ·have g2:(gi V.IE g).IM.I'>0:=Ot g2;have hB:BU V c n g=(ZL (gi V.IE g).IM ⟨2,c,n⟩).1:=by unfold BU;rw[C' g2]
    rw[hB] at Wg;obtain⟨hb,hbl,_⟩:=hgg.IM Qo;have pY:Mv 8 base [x,x1,x2,b3,b4] w m R6 V5 m2:=dW.step (Rl.mono λy hy=>by simp only[Ii,List.not_mem_nil,or_false] at hy ⊢;rcases hy with h|h|h <;> simp[h]);have hr6:=pY.rd0;have hg5:g<(V5.IE.length:Int):=by rw[hl5];exact Re
    have hLo:=hr6.g.locals g u0 hg5;have hDo:=hr6.g.RE g u0 hg5;rw[hgi,hgb] at hLo hDo;refine I3 (Ve (op:=⟨2,c,n⟩) hb hLo hDo) ?_;rintro e RO ⟨p,he,hO,hy⟩;have rU:=pY.R5 hy;have hbs:base<=R6.heap.size:=by have:=pY.ext.size;omega
    have hOb:∀y∈YD p,R6.heap.size<=y:=λy hy=>(hO.lt y hy).1
    have BX7:=rU.own.Bs6 (i:=g) u0 Qo (hO.mono hbs) (λy hy hm=>by have:=hOb y hy;have:=(pY.own.lt y hm).2;omega);have hwr:=zru rU.own rU.nb (i:=g) u0 Qo (j:=8) (k:=5) Qd;have hsz:=pY.ext.size
    have hM8:=rU.swap BX7 A3 rfl λy hy=>by
     rcases OM y hy with h1|h1
     ·exact .inl h1
     ·rcases OK y h1 with h2|h2
      ·have:=hOb y h2;exact .inr ⟨Qo,λhm=>by have:=jS y hm;omega⟩
      ·exact .inl (Uv Qo h2)
    rw[hmg] at hwr hM8;rw[<-Wg] at hM8;have B19:=(Mz hp hpn rU).2 (k:Int) Qo Qo;rw[hgk] at B19;exact⟨_,_,_,_,_,_,_,_,_,_,he,Qg hy jS,λb5 hb5=>⟨AR2,g,B19,BX4,hwr,⟨Qo,Qo⟩,λSu bM _=>⟨⟨k+1,MR V c n g,_,Qs,Qo,(hM8.step bM).Bb9 Qs,hE,hC3⟩,Z6 (k:=k) rfl rfl IV⟩⟩⟩
   ·have g2:¬(gi V.IE g).IM.I'>0:=Ou g2;rw[AI8 g2];exact(dW.Bb9 (cs:=[x,x1,x2]) (λy hy=>by simp only[Ii,List.not_mem_nil,or_false] at hy ⊢;rcases hy with h|h|h <;> simp[h])).step Rl
 ·have RW:=Ou RW;have hk2:k=(Z7 W t).length:=Qo;subst hk2;rw[List.drop_length] at hE;have hE:Gl c n (Z7 W t) (J' W t (P4 W t n))=V:=hE;have hcV:V.IF=W.IF:=hC.cp;have cV:c<(V.IF.length:Int):=by rw[Ao3];exact c1
  have Ac8:Ix m.cO W.IF.length c:=by have:=hr.c.ix Y9 c0 cV;rwa[Ao3,hmc] at this
  have hcr:=rb.c c c0 c1;have e1:=WM.own.AP1 c0 cV (j:=3) (vs:=[I ((gi W.IF c).busy+n)]) (x:={ gi W.IF c with busy:=(gi W.IF c).busy+n }) (by rw[hcV];rfl) Qs;have hl1:(V.IF.set c.toNat { gi W.IF c with busy:=(gi W.IF c).busy+n }).length=V.IF.length:=E';have hg1:gi (V.IF.set c.toNat { gi W.IF c with busy:=(gi W.IF c).busy+n }) c={ gi W.IF c with busy:=(gi W.IF c).busy+n }:=(QE _ _ c0 cV c0).trans (C' rfl);have e2:=e1.AP1 c0 (by simpa using cV) (j:=2) (vs:=[I ((gi W.IF c).Wh+n)]) (x:=zgy W c n) (by rw[hg1];rfl) Qs;have hb:=hr.c.f c0 cV (j:=3) rfl;have hw1:=zpg WM.own WM.nb c0 cV (j:=3) (k:=1) Qd;have jC:=WM.Sv e1 Du;have hrn:=jC.rd.c.f c0 (by show c<((V.IF.set c.toNat { gi W.IF c with busy:=(gi W.IF c).busy+n }).length:Int);rw[hl1];exact cV) (j:=2) rfl;have hw2:=zpg e1 WM.nb c0 (by show c<((V.IF.set c.toNat { gi W.IF c with busy:=(gi W.IF c).busy+n }).length:Int);rw[hl1];exact cV) (j:=2) (k:=1) Qd;rw[hmc] at hb hw1 hrn hw2;rw[hcV] at hb;rw[show gi ({ V with IF:=V.IF.set c.toNat { gi W.IF c with busy:=(gi W.IF c).busy+n } }:Q7).IF c=_ from hg1] at hrn;have dW:=jC.Sv e2 Du
  have hW4:({ V with IF:=(V.IF.set c.toNat { gi W.IF c with busy:=(gi W.IF c).busy+n }).set c.toNat (zgy W c n) }:Q7)=JU W c t n:=by
   unfold JU RM;rw[hE,List.set_set]
  rw[hmc] at dW;have dW:Mv 8 base [x,x1,x2] w m _ ({ V with IF:=(V.IF.set c.toNat { gi W.IF c with busy:=(gi W.IF c).busy+n }).set c.toNat (zgy W c n) }:Q7) m2:=dW;rw[hW4] at dW;refine⟨Ac8,_,hb,⟨?_,?_⟩,Ac8,hw1,Ac8,_,hrn,⟨?_,?_⟩,Ac8,hw2,λSA gL hs7=>?_⟩
  ·show _<=(gi W.IF c).busy+n;omega
  ·show (gi W.IF c).busy+n<=_;omega
  ·show _<=(gi W.IF c).Wh+n;omega
  ·show (gi W.IF c).Wh+n<=_;omega
  have rU:=dW.step gL;have hsz:=rU.ext.size;have RI:=QB rU.own sE Qo Qo Qo;rw[show Qa (JU W c t n) m2=Qa W m from rU.Aa0 (by rw[show (JU W c t n).now=V.now from by rw[<-hW4]];exact hC.now) hlE (by rw[<-hW4,show ({ V with IF:=(V.IF.set c.toNat { gi W.IF c with busy:=(gi W.IF c).busy+n }).set c.toNat (zgy W c n) }:Q7).IJ=V.IJ from rfl,hC.t];simp[J']) (by rw[<-hW4];exact hC.g.len)] at RI;refine I3 RI ?_;rintro e wv ⟨m3,he,hy⟩;exact⟨_,_,_,_,_,_,_,_,_,_,he,rU.kept hy hs7,λSY vF=>⟨m3,rfl,((rU.call hy hs7).step vF).close⟩⟩
end
def zqn{Q:Nat->Prop}(h:∃f,Q f):∃f,Q f/\∀g,Q g->f<=g:=by
 obtain⟨f,hf⟩:=h
 induction f using Nat.strongRecOn with
 |ind f ih=>
  by_cases h:∃g,g<f/\Q g
  ·obtain⟨g,hg,hq⟩:=h;exact ih g hg hq
  ·exact⟨f,hf,λg hq=>Nat.le_of_not_lt λIV=>h ⟨g,IV,hq⟩⟩
open Classical in
noncomputable def zhq(Q:Nat->Prop):Nat:=if h:∃f,Q f then (zqn h).choose else 0
def zi9{Q:Nat->Prop}(h:∃f,Q f):Q (zhq Q):=by
 unfold zhq;rw[dif_pos h];exact(zqn h).choose_spec.1
def zss{Q:Nat->Prop}{f:Nat}(h:Q f):zhq Q<=f:=by
 unfold zhq;rw[dif_pos ⟨f,h⟩];exact(zqn ⟨f,h⟩).choose_spec.2 f h
noncomputable def Yl(W:Q7)(c n:Int):Int:=if YT n 1 100=false\/X5 W c=false then 1 else if (gi W.IF c).up=false then 6 else if QO W=false then 10 else 0
def YA(W:Q7)(c n:Int):Q7:=Hq c 400 W n
def Hr{c:Int}{f:Nat}{W:Q7}{left:Int}(h:left<=0):Hq c (f+1) W left=Qf W:=by
 rw[Hq,C' h]
def L9{c:Int}{f:Nat}{W:Q7}{left:Int}(h:¬left<=0)(hp:Qe W c<0):Hq c (f+1) W left=Qf (Rb (RM W c (Jf W c left)) c):=by
 rw[Hq,B' h,C' hp]
def Lc{c:Int}{f:Nat}{W:Q7}{left:Int}(h:¬left<=0)(hp:¬Qe W c<0):Hq c (f+1) W left=Hq c f (O0 W c left).1 (O0 W c left).2:=by
 rw[Hq,B' h,B' hp]
def MC{W:Q7}{c n:Int}(hW:Qp W)(hb:Yl W c n=0):YT n 1 100/\X5 W c/\(gi W.IF c).up/\QO W/\D5 400 c W W n:=by
 unfold Yl at hb
 split at hb
 ·cases hb
 ·rename_i h1
  split at hb
  ·cases hb
  ·rename_i h2
   split at hb
   ·cases hb
   ·rename_i h3
    have h1a:YT n 1 100:=by
     cases h:YT n 1 100 with
     |true=>rfl
     |false=>exact Ir (.inl h) h1
    have h1b:X5 W c:=by
     cases h:X5 W c with
     |true=>rfl
     |false=>exact Ir (.inr h) h1
    have h2:(gi W.IF c).up:=by simpa using h2
    have h3:QO W:=by simpa using h3
    obtain⟨c0,c1⟩:=UA h1b;have:=Qv.1 h1a;exact⟨h1a,h1b,h2,h3,zq8 (Qm.1 hW) (Qm.1 h3) c0 c1 h2 Qo Qo⟩
def zot{f:Nat}{c left:Int}{W0 W:Q7}(h:D5 f c W0 W left):∃g,f=g+1:=by
 have h1:=h.f1;have h2:=h.l0;exact⟨f-1,Qo⟩
def zdc{f:Nat}{c left:Int}{W0 W:Q7}(h:D5 f c W0 W left):SW (Dt f) (Rb (RM W c (Jf W c left)) c)/\SW (Dt f) (RM W c (Jf W c left))/\0<=(gi W.IF c).idle+left/\(gi W.IF c).idle+left<=60000000000000000:=by
 have c0:=h.c0;have c1:=h.c1;have hcu:=h.sw.cu c c0 c1;have hl0:=h.l0;have hl1:=h.l1;have hr:=h.rb.c c c0 c1;have s1:SW (Dt f) (RM W c (Jf W c left)):=h.sw.RM c0 c1 (EI (c:=c) (by rw[E'];exact h.sw.a.c2) c0 (by rw[E'];exact c1) (by rw[show gi (W.IF.set c.toNat (Jf W c left)) c=Jf W c left from (QE _ _ c0 c1 c0).trans (C' rfl)];exact h.up)) hcu.1 hcu.2;exact⟨s1.Rb c0 (by show c<((W.IF.set c.toNat (Jf W c left)).length:Int);rw[E'];exact c1),s1,Qo,Qo⟩
section
variable {W:Q7}{m:MW}{w:Wo}
def ztv(y y1:Nat)(w0:Wo)(c n:Int)(W:Q7)(f:Nat)(vs:List Va)(w2:Wo):Prop:=
 ∃(V:Q7) (m2:MW) (left:Int),vs=I left::Qa V m2/\Wk 8 [y,y1] w0 w2 V m2/\D5 f c W V left/\Hq c f V left=YA W c n
def Vt{c n:Int}(h:J6 [] w W m)(hl:UV W) :
  Cz YN #[.agg (Qa W m).toArray,I c,I n] w λe w'=>∃v,e=.returned v/\QV (Y7 W (Yl W c n) (YA W c n)) w v w':=by
 refine CG _ _ _ _ _ _ _ _ _ _ c n (R:=λv w'=>QV (Y7 W (Yl W c n) (YA W c n)) w v w') ?_;intro y hy y1 dY;have hm0:=Xu;have hlc:=hl.c;refine⟨_,Ur h hl.c hl.t hl.g hl.f,λg wr hx=>QV.bad (by simpa using g) hx,λg wr Rg We=>?_⟩;have hW:Qp W:=by simpa using g
 have wp:=Qm.1 hW;refine I3 (PJ (h.ext Rg) wp.a) ?_;rintro e wv ⟨m',he,hM,SX⟩;have hK:=Wk.begin hy dY Rg We hM SX;have hr:=hK.rd;refine⟨_,_,_,_,_,_,_,_,_,_,he,Qg SX We,_,Qt,λ_=>⟨Qo,Qo⟩,X5 W c,λ_=>Qt,λg R6 Rl=>?_,λg=>?_⟩
 ·have hb:Yl W c n=1:=by
   unfold Yl;rw[C']
   simpa using g
  exact QV.no hW (by rw[hb];decide) (hK.step Rl) hb
 have g:YT n 1 100/\X5 W c:=by simpa using g
 have hn1:¬(YT n 1 100=false\/X5 W c=false):=by rw[g.1,g.2];simp
 obtain⟨c0,c1⟩:=UA g.2;have hro:=KT hr hl;refine⟨hr.c.ix Y9 c0 c1,_,hr.c.f c0 c1 (j:=0) rfl,λg2 R6 Rl=>?_,λg2=>⟨_,hro,λg3 R6 Rl=>?_,λg3=>?_⟩⟩
 ·have hb:Yl W c n=6:=by unfold Yl;rw[B' hn1,C' (by simpa using g2)]
  exact QV.no hW (by rw[hb];decide) (hK.step Rl) hb
 ·have g2:(gi W.IF c).up:=by simpa using g2
  have cA:¬QO W:=λhr=>by
   rw[show Ju (XV W/\G7 W)=true from Qm.2 ⟨wp,Qm.1 hr⟩] at g3;cases g3
  have hb:Yl W c n=10:=by unfold Yl;rw[B' hn1,B' (by rw[g2];decide),C' (by simpa using cA)]
  exact QV.no hW (by rw[hb];decide) (hK.step Rl) hb
 have g2:(gi W.IF c).up:=by simpa using g2
 have cA:QO W:=by
  have hd:Ju (XV W/\G7 W):=by simpa using g3
  exact Qm.2 (Qm.1 hd).2
 have hb:Yl W c n=0:=by unfold Yl;rw[B' hn1,B' (by rw[g2];decide),B' (by rw[cA];decide)]
 obtain⟨_,_,_,_,hI0⟩:=MC hW hb;refine⟨λvs _ w2=>∃(V:Q7) (m2:MW) (K:Int),vs=Qa V m2/\Wk 8 [y,y1] w w2 V m2/\SW K V/\0<=K/\K<=60000000000000000/\Qf V=YA W c n,?_,?_⟩
 ·refine⟨λvs w2=>∃f,ztv y y1 w c n W f vs w2,λvs w2=>zhq λf=>ztv y y1 w c n W f vs w2,λwr Rl _=>⟨400,W,m',n,rfl,hK.step Rl,hI0,rfl⟩,?_⟩;intro left l0 RA Rz RQ RF RL RP RG RH RJ w2 jS hinv;obtain⟨f0,hf0⟩:∃f0,f0=zhq λf=>ztv y y1 w c n W f [I left,I l0,.slice RA Rz RQ,.slice RF RL RP,.slice RG RH RJ] w2:=⟨_,rfl⟩
  have hS:=zi9 hinv;simp only[<-hf0] at hS ⊢;clear hf0 hinv;obtain⟨V,m2,Cn6,hv,gP,hI,hN⟩:=hS;simp only[Qa,I4,I5,Iv,true_and,and_true] at hv;obtain⟨rfl,rfl,⟨rfl,rfl,rfl⟩,⟨rfl,rfl,rfl⟩,rfl,rfl,rfl⟩:=hv;obtain⟨f,rfl⟩:=zot hI;have AM3:∀{vs:List Va} {w9:Wo},ztv y y1 w c n W f vs w9->(∃f,ztv y y1 w c n W f vs w9)/\(zhq λf=>ztv y y1 w c n W f vs w9)<f+1:=λhh=>⟨⟨f,hh⟩,Nat.lt_succ_of_le (zss hh)⟩
  have hr2:=gP.rd;have hf:=hI.f2;have hKu:=TH hf;have hSu:=zbc hf;have hh0:(0:Int)<=Qn:=Qd;have rR:=hI.c1;have Ac8:=hr2.c.ix Y9 c0 rR;refine⟨λIV=>?_,λRW=>?_⟩
  ·have IV:=Ot IV;refine⟨_,zho hr2 hI.sw.a c0 rR,λgp=>?_,λgp=>?_⟩
   ·have gp:=Ot gp;rw[L9 Qo gp] at hN;obtain⟨i1,i2,i3,i4⟩:=zdc hI;have e1:Zj 8 w.heap.size _ (RM V c (Jf V c left)) m2:=gP.own.AP1 c0 rR (j:=4) (vs:=[I ((gi V.IF c).idle+left)]) (x:=Jf V c left) rfl Qs;refine⟨Ac8,_,hr2.c.f c0 rR (j:=4) rfl,⟨Qo,Qo⟩,Ac8,zpg gP.own gP.nb c0 rR (j:=4) Qd,λRN W8 dX=>?_⟩;have gI:=(gP.Rx e1 Du).step W8;have RI:=ZM gI.own c0 (by show c<((V.IF.set c.toNat (Jf V c left)).length:Int);rw[E'];exact rR);rw[Fu] at RI;refine I3 RI ?_;rintro e2 RO ⟨bS,jX⟩;exact⟨_,_,_,_,_,_,_,_,_,_,bS,gI.kept jX dX,λS5 Sx _=>⟨_,m2,_,rfl,(gI.Sv jX dX).step Sx,i1,Qo,Qo,hN⟩⟩
   ·have gp:=Ou gp;rw[Lc Qo gp] at hN;have hR:=LW hI IV gp;have t0:=hR.line.t0;have t1:=hR.line.t1;have qT:V.IJ.length=12:=hI.sw.a.t;refine⟨λ_ _ w3=>Wk 8 [y,y1] w w3 (QI V c (Qe V c)) m2,?_,?_⟩
    ·refine⟨Ac8,_,hr2.c.f c0 rR (j:=1) rfl,λ_=>Ac8,_,λ_=>hr2.c.f c0 rR (j:=2) rfl,λg5=>?_,λg5 RN W8 _=>?_⟩
     ·have g5:Qe V c≠(gi V.IF c).cur\/(gi V.IF c).Wh>=50:=by simpa using g5
      have hS:ZX V c (Qe V c)={ gi V.IF c with cur:=Qe V c,Wh:=0 }:=by unfold ZX;rw[C' g5]
      have e1:=gP.own.AP1 c0 rR (j:=1) (vs:=[I (Qe V c)]) (x:={ gi V.IF c with cur:=Qe V c }) rfl Qs;have hl1:(V.IF.set c.toNat { gi V.IF c with cur:=Qe V c }).length=V.IF.length:=E';have hg1:gi (V.IF.set c.toNat { gi V.IF c with cur:=Qe V c }) c={ gi V.IF c with cur:=Qe V c }:=(QE _ _ c0 rR c0).trans (C' rfl);have e2:=e1.AP1 c0 (by simpa using rR) (j:=2) (vs:=[I 0]) (x:=ZX V c (Qe V c)) (by rw[hg1,hS];rfl) Qs
      have hW2:({ V with IF:=(V.IF.set c.toNat { gi V.IF c with cur:=Qe V c }).set c.toNat (ZX V c (Qe V c)) }:Q7)=QI V c (Qe V c):=by
       unfold QI RM;rw[List.set_set]
      have wD:=gP.Rx e1 Du;have gI:Wk 8 [y,y1] w _ ({ V with IF:=(V.IF.set c.toNat { gi V.IF c with cur:=Qe V c }).set c.toNat (ZX V c (Qe V c)) }:Q7) m2:=wD.Rx e2 Du;rw[hW2] at gI;exact⟨Ac8,zpg gP.own gP.nb c0 rR (j:=1) Qd,Ac8,zpg e1 gP.nb c0 (by show c<((V.IF.set c.toNat { gi V.IF c with cur:=Qe V c }).length:Int);rw[hl1];exact rR) (j:=2) Qd,λRN W8 _=>gI.step W8⟩
     ·have g5:¬(Qe V c≠(gi V.IF c).cur\/(gi V.IF c).Wh>=50):=by simpa using g5
      have hS:QI V c (Qe V c)=V:=by
       unfold QI ZX RM;rw[B' g5,zjt c0 rR]
      rw[hS];exact gP.step W8
    ·intro eD gQ eI Su bM hs6;have hK6:=eI.step bM;have hcG:=Gf (t:=Qe V c) (hK6.rd.less (cs:=[]) Qs) hR.s1.a.tree t0 (by show _<((V.IJ.length:Nat):Int);omega) hR.us;have ecp:Qa (QI V c (Qe V c)) m2=Qa V m2:=Fu _ _ _ _;rw[ecp] at hcG;refine I3 hcG ?_;rintro e3 gB ⟨pO,pC,gZ,hO,hy6⟩;have hO:Uy JW 1 Qc Su.heap.size gB pO pC (Z7 V (Qe V c)):=hO;have gZ:e3=.returned (.slice pO (Z7 V (Qe V c)).length pC):=gZ;have hK7:=hK6.R5 hy6;refine⟨_,_,_,gZ,Qg hy6 hs6,λSY vF hs8=>?_⟩;have hK8:=hK7.step vF
     have CR0:∀z∈QL pO,z∉[y,y1]:=λz hz hm=>by
      have:=(hO.lt z hz).1;have:=hs6 z hm;omega
     have hO8:=hO.ext vF CR0
     have CR1:∀z∈QL pO,z∉QN 8 m2:=λz hz hm=>by
      have:=(hO.lt z hz).1;have:=(hK6.own.lt z hm).2;omega
     have hcT:=zhp hK8.own hR.s1 hK8.base hO8 CR1 hR.len c0 (by rw[(G2 hI.sw hI.rb c0 rR hI.up t0 t1).2.2.2.2.2];exact rR) hR.pin hR.dr;rw[ecp] at hcT;refine I3 hcT ?_;rintro e4 zU ⟨m3,he4,hy9⟩;have hK9:Wk 8 [y,y1] w zU (ZC V c).1 m3:=hK8.Sv hy9 hs8;have hTk:Br c (Z7 V (Qe V c)) (QI V c (Qe V c))=ZC V c:=rfl;rw[hTk] at he4 hy9;have hO9:=hO8.ext hy9.ext CR1
     have DA8:∀z∈QL pO,z∉QN 8 m3:=λz hz hm=>by
      rcases hy9.sub z hm with h1|h1
      ·exact CR1 z hz h1
      ·have:=(hO8.lt z hz).2;omega
     have eC:(ZC V c).1.IF=(QI V c (Qe V c)).IF:=hR.tk.o.c;have lT:(ZC V c).1.IF.length=V.IF.length:=by rw[eC];exact(G2 hI.sw hI.rb c0 rR hI.up t0 t1).2.2.2.2.2
     have cT:c<((ZC V c).1.IF.length:Int):=by rw[lT];exact rR
     have e9:Qa (ZC V c).1 m3=Qa V m2:=by
      rw[hy9.Aa0 (W0:=QI V c (Qe V c)) hR.tk.o.n (by rw[eC]) (by rw[hR.tk.o.t]) hR.tk.o.g.len];exact ecp
     have rT:RB (B9 (f+1)) (ZC V c).1:=hR.r1.sum hR.tk.su hR.tk.o.g (by rw[eC]);have eT:(ZC V c).1.IJ=V.IJ:=hR.tk.o.t;have eG:QZ V.IE (ZC V c).1.IE:=hR.tk.o.g;have pT:Z7 (ZC V c).1 (Qe V c)=Z7 V (Qe V c):=zba eT eG _;have uT:Q6 (ZC V c).1.IE (Q8 (ZC V c).1 (Qe V c)).II:=by rw[eG.cD,Xf eT];exact hR.us
     have upT:(gi (ZC V c).1.IF c).up:=by rw[eC];exact(G2 hI.sw hI.rb c0 rR hI.up t0 t1).2.2.1
     have AZ0:(gi (ZC V c).1.IF c).Wh<50:=by rw[eC];exact hR.Wh
     have hnx:=hR.nx;refine⟨_,_,_,_,_,_,_,_,_,_,_,he4,hK8.kept hy9 hs8,λgt Sl zH sA=>?_,λgt=>?_⟩
     ·have gt:¬(ZC V c).2:=by simpa using gt
      have hRW:O0 V c left=(Qf (Rb (ZC V c).1 c),left):=by unfold O0;rw[B' gt]
      rw[hRW] at hnx hN;have AR0:=hK9.step zH;have hcE:=ZM AR0.own c0 cT;rw[e9] at hcE;refine I3 hcE ?_;rintro e5 kK ⟨he5,Br7⟩;refine⟨_,_,_,_,_,_,_,_,_,_,he5,AR0.kept Br7 sA,λSy AD5 Ad3=>?_⟩;have BH1:=(AR0.Sv Br7 sA).step AD5;refine I3 (QB BH1.own (hR.tk.sw.Rb c0 cT) Qo Qo BH1.base) ?_;rintro e6 vJ ⟨m4,he6,CS8⟩;generalize Qf (Rb (ZC V c).1 c)=V9 at he6 CS8 hnx hN;exact⟨_,_,_,_,_,_,_,_,_,_,he6,BH1.kept CS8 Ad3,λWm BY2 _=>AM3 ⟨V9,m4,left,rfl,(BH1.Sv CS8 Ad3).step BY2,hnx,hN⟩⟩
     ·have gt:(ZC V c).2:=by simpa using gt
      have hRW:O0 V c left=(Qf (JU (ZC V c).1 c (Qe V c) (Yz V c left)),left-Yz V c left):=by unfold O0;rw[C' gt]
      rw[hRW] at hnx hN;obtain⟨m1,m2'⟩:=hR.m gt;have hl1:=hI.l1;have hcM:=zhm (n:=left) hK9.rd hR.tk.sw.a (hO9.rd X6.len CR0) (pC:=pC) hR.len c0 cT (λz hz=>by rw[eG.cD];exact hR.pin z hz);rw[e9] at hcM;refine⟨_,hcM,λSl zH sA=>?_⟩;have AR0:=hK9.step zH;have C47:Uy JW 1 Qc Su.heap.size Sl pO pC (Z7 (ZC V c).1 (Qe V c)):=by rw[pT];exact hO9.ext zH CR0
      have hcC:=y7 (t:=Qe V c) (n:=Yz V c left) AR0.own AR0.base C47 DA8 hR.tk.sw rT ⟨Qo,Qo⟩ ⟨Qo,Qo⟩ c0 cT upT AZ0 t0 t1 uT Qo Qo;rw[e9,pT] at hcC;refine I3 hcC ?_;rintro e7 kK ⟨m4,he7,Br7⟩;generalize Qf (JU (ZC V c).1 c (Qe V c) (Yz V c left))=V9 at he7 Br7 hnx hN;exact⟨_,_,_,_,_,_,_,_,_,_,he7,AR0.kept Br7 sA,⟨by show _<=left-Yz V c left;omega,by show left-Yz V c left<=_;omega⟩,λSy AD5 _=>AM3 ⟨V9,m4,left-Yz V c left,rfl,(AR0.Sv Br7 sA).step AD5,hnx,hN⟩⟩
  ·have RW:=Ou RW;rw[Hr Qo] at hN;exact λRN W8 _=>⟨V,m2,_,rfl,gP.step W8,hI.sw,Qo,Qo,hN⟩
 ·rintro a0 a1O a1L a1C a2O a2L a2C a3O a3L a3C w2 jS ⟨V,m2,K,hv,gP,sw,k0,k1,hN⟩ RN W8 dX;simp only[Qa,I4,I5,Iv,true_and,and_true] at hv;obtain⟨rfl,⟨rfl,rfl,rfl⟩,⟨rfl,rfl,rfl⟩,rfl,rfl,rfl⟩:=hv;have gI:=gP.step W8;refine I3 (QB gI.own sw k0 Qo gI.base) ?_;rintro e3 Si ⟨m3,gZ,hy5⟩;rw[hN] at gZ hy5;exact⟨_,_,_,_,_,_,_,_,_,_,gZ,gI.kept hy5 dX,λSY vF=>QV.ok hW hb ((gI.Sv hy5 dX).step vF)⟩
end
def NX{W:Q7}{g:Int}{x y:Zb}:R1 (R1 W g x) g y=R1 W g y:=by simp[R1,List.set_set]
def z62(W:Q7)(c n g:Int):Zb:={ gi W.IE g with IH:=(gi W.IE g).IH.set c.toNat (GG W c n g),sum:=(gi W.IE g).sum+n }
def z5s{W:Q7}{c n g:Int}(u0:0<=g)(u1:g<(W.IE.length:Int)):R1 (TP W c n g) g (Kk W c n g)=R1 W g (z62 W c n g):=by
 unfold Kk;rw[zcl u0 u1];exact NX
def z0b(W:Q7)(c n g:Int):Q7:=Rw W g c { Qb W g c with sum:=(Qb W g c).sum+n }
def zwz(W:Q7)(c n g:Int):Q7:=R1 (z0b W c n g) g { gi (z0b W c n g).IE g with sum:=(gi W.IE g).sum+n }
def zwy{W:Q7}{c n g:Int}(u0:0<=g)(u1:g<(W.IE.length:Int)):gi (z0b W c n g).IE g={ gi W.IE g with IH:=(gi W.IE g).IH.set c.toNat { Qb W g c with sum:=(Qb W g c).sum+n } }:=zo0 u0 u1
def zpu{W:Q7}{c n g:Int}(u0:0<=g)(u1:g<(W.IE.length:Int)):zwz W c n g=R1 W g { gi W.IE g with IH:=(gi W.IE g).IH.set c.toNat { Qb W g c with sum:=(Qb W g c).sum+n },sum:=(gi W.IE g).sum+n }:=by
 unfold zwz;rw[zwy u0 u1];exact NX
def z0t(W:Q7)(c n g:Int):(zwz W c n g).IE.length=W.IE.length:=by simp[zwz,z0b,R1,Rw]
def zpv{W:Q7}{c n g:Int}(u0:0<=g)(u1:g<(W.IE.length:Int)):gi (zwz W c n g).IE g={ gi W.IE g with IH:=(gi W.IE g).IH.set c.toNat { Qb W g c with sum:=(Qb W g c).sum+n },sum:=(gi W.IE g).sum+n }:=by
 rw[zpu u0 u1,Yt u0 u1 u0,C' rfl]
def z0u{W:Q7}{c n g:Int}(u0:0<=g)(u1:g<(W.IE.length:Int))(c0:0<=c)(c1:c<((gi W.IE g).IH.length:Int)):Qb (zwz W c n g) g c={ Qb W g c with sum:=(Qb W g c).sum+n }:=by
 unfold Qb;rw[zpv u0 u1];exact(QE _ _ c0 c1 c0).trans (C' rfl)
def zw1{W:Q7}{c n:Int}(u1:(0:Int)<(W.IE.length:Int)):zwz W c n 0=R1 (TP W c n 0) 0 (Kk W c n 0):=by
 rw[zpu (I2 _) u1,z5s (I2 _) u1];unfold z62 GG;rw[B' Qs]
def zw0{W:Q7}{c n g:Int}(u0:0<=g)(u1:g<(W.IE.length:Int)):Rw (zwz W c n g) g c (GG W c n g)=R1 (TP W c n g) g (Kk W c n g):=by
 rw[z5s u0 u1];unfold Rw;rw[zpv u0 u1,zpu u0 u1,NX]
 dsimp only
 rw[List.set_set];rfl
def DN(W:Q7)(g:Int):List Int:=if g = -1 then [] else QM W.IE g++[0]
def zq6{W:Q7}(ht:Yh W.IE){g:Int}(hu:Q6 W.IE g):DN W g=g::DN W (gi W.IE g).IG:=by
 have h0:=(Q5.1 hu).1;unfold DN;rw[B' Qo]
 by_cases hz:g=0
 ·subst hz;rw[ht.rp,C' rfl,show QM W.IE 0=[] from Zc _ _];rfl
 ·have hp:=(Q5.1 (Y3 ht hu hz).1).1;rw[Yg ht hu hz,B' Qo];rfl
def z6x(W:Q7)(vs:List Va)(_:Wo):Nat:=match vs with
 |[_,.int _ g]=>(QM W.IE g).length
 |_=>0
def z6y(W:Q7)(vs:List Va)(_:Wo):Nat:=match vs with
 |[.int _ g]=>(DN W g).length
 |_=>0
section
variable {base pb:Nat}{W:Q7}{m:MW}{w:Wo}
def FD{K S t c left:Int}(h:PW base pb w W m)(sw:SW K W)(rb:RB S W)(hK:0<=K/\K<=60000000000000000)(hS:0<=S/\S<=60000000000000000)(c0:0<=c)(c1:c<(W.IF.length:Int))(up:(gi W.IF c).up)(Wh:(gi W.IF c).Wh<50)(t0:0<=t)(t1:t<12)(hu:Q6 W.IE (Q8 W t).II)(n0:0<=MU W c (Z7 W t) left)(n1:MU W c (Z7 W t) left<=100) :
  Cz Jx #[.agg #[.pointer (pA pb),I c],I t,I left] w λe w'=>e=.returned (I (MU W c (Z7 W t) left))/\Mp base pb [] w m w' (JU W c t (MU W c (Z7 W t) left)) m:=by
 obtain⟨sE,rE,_,_,hlE,_,s1,r1,cp1⟩:=BV sw rb Qo c0 c1 up Wh t0 t1 hu n0 n1;obtain⟨pin,B49⟩:=B7 sw.a hu;have hM0:=Mp.start h;have qT:=sw.a.t;have cZ:=sw.a.gl;have hlg:Qi=34686091440:=rfl;generalize hN:MU W c (Z7 W t) left=n at sE rE hlE s1 r1 cp1 n0 n1;refine(Fi (pA pb) c t left (R:=λv w'=>v=I n/\Mp base pb [] w m w' (JU W c t n) m) ?_).mono λe w' ⟨v,he,hv,h3⟩=>⟨by rw[he,hv],h3⟩
 intro b hb;have hM:=hM0.add hb;have hp:=hM0.wpt;have htv:=sw.tv t t0 t1;have htr:=rb.t t t0 t1;have hv:=PY n (Qh (Q8 W t).nice) n0 n1;refine⟨hp.some,_,_,_,hp.IJ,hp.rd.t.ix QT t0 Qo,_,hp.rd.t.f t0 Qo (j:=1) rfl,?_⟩;refine⟨λvs w2=>∃u g,vs=[I u,I g]/\Q6 W.IE g/\Mp base pb [b] w m w2 W m/\MU W c (QM W.IE g++[0]) u=n,z6x W,λwr hx _=>⟨left,_,rfl,hu,hM.R5 hx,hN⟩,?_⟩;rintro u9 g9 w2 We ⟨u,g,he,hug,WM,hE⟩;simp only[I4,I5,true_and,and_true] at he;obtain⟨rfl,rfl⟩:=he;have eQ:=WM.wpt;obtain⟨u0,u1,hgg⟩:=sw.a.u hug;have Re:g9<(W.IE.length:Int):=Qo;refine⟨λgz=>?_,λgz=>?_⟩
 ·have gz:g9≠0:=by simpa using gz
  have hps:=Yg sw.a.tree hug gz;have hup:=(Y3 sw.a.tree hug gz).1;rw[hps] at hE;have hE:MU W c (QM W.IE (gi W.IE g9).IG++[0]) (Gs W c g9 u9)=n:=hE
  have hmu:∀{u':Int} {w8 w9:Wo},z6x W [I u',I (gi W.IE g9).IG] w8<z6x W [I u9,I g9] w9:=by
   intro u' w8 w9;show (QM W.IE (gi W.IE g9).IG).length<(QM W.IE g9).length;rw[hps];exact Nat.lt_succ_self _
  refine⟨eQ.some,_,_,_,eQ.IE,eQ.rd.g.ix u0 Re,_,_,_,_,_,_,_,_,_,eQ.rd.g.IM u0 Re,λb1 dG=>⟨λgq=>?_,λgq=>?_⟩⟩
  ·have gq:(gi W.IE g9).IM.I'>0:=Ot gq;obtain⟨wM,hbl,_⟩:=hgg.IM Qo;have hLo:=eQ.rd.g.locals g9 u0 Re
   have hmG:Gs W c g9 u9=if gi (gi W.IE g9).IM.locals c<u9 then gi (gi W.IE g9).IM.locals c else u9:=by
    unfold Gs ZK;rw[C' gq]
    split <;> split <;> omega
   rw[hmG] at hE;exact⟨hLo.ix XP c0 Qo,_,hLo c c0 Qo,eQ.some,_,_,_,eQ.IE,eQ.rd.g.ix u0 Re,_,eQ.rd.g.IG u0 Re,λR6 Sn _=>⟨⟨_,_,rfl,hup,WM.step Sn,hE⟩,hmu⟩⟩
  ·have gq:¬(gi W.IE g9).IM.I'>0:=Ou gq;have hmG:Gs W c g9 u9=u9:=by unfold Gs;rw[B' gq]
   rw[hmG] at hE;exact⟨eQ.some,_,_,_,eQ.IE,eQ.rd.g.ix u0 Re,_,eQ.rd.g.IG u0 Re,λR6 Sn _=>⟨⟨_,_,rfl,hup,WM.step Sn,hE⟩,hmu⟩⟩
 have gz:g9=0:=by simpa using gz
 subst gz;rw[show QM W.IE 0=[] from Zc _ _,List.nil_append] at hE
 have hE:u9=n:=by
  have e0:MU W c [0] u9=Gs W c 0 u9:=rfl;rw[e0] at hE;unfold Gs at hE
  rwa[B' (by have:=(hgg.root rfl).2.2;omega)] at hE
 subst hE;clear hgg Re u0 u1 hug;have eA:Zj 8 base _ (J' W t { Q8 W t with v:=(Q8 W t).v+Z2 u9 (Qh (Q8 W t).nice) }) m:=WM.own.AP2 t0 Qo (j:=5) (vs:=[I ((Q8 W t).v+Z2 u9 (Qh (Q8 W t).nice))]) (x:={ Q8 W t with v:=(Q8 W t).v+Z2 u9 (Qh (Q8 W t).nice) }) rfl Qs;have hMA:=WM.Sv eA Hv (K0 _ _ _ _);have gA:∀x:MQ,gi (J' W t x).IJ t=x:=λx=>HA t0 Qo
 have lA:∀x:MQ,t<((J' W t x).IJ.length:Int):=λx=>by rw[UP];omega
 have eB:Zj 8 base _ (J' (J' W t { Q8 W t with v:=(Q8 W t).v+Z2 u9 (Qh (Q8 W t).nice) }) t { Q8 W t with v:=(Q8 W t).v+Z2 u9 (Qh (Q8 W t).nice),sum:=(Q8 W t).sum+u9 }) m:=hMA.own.AP2 t0 (lA _) (j:=6) (vs:=[I ((Q8 W t).sum+u9)]) (x:={ Q8 W t with v:=(Q8 W t).v+Z2 u9 (Qh (Q8 W t).nice),sum:=(Q8 W t).sum+u9 }) (by rw[gA];rfl) Qs;have hMB:=hMA.Sv eB Hv (K0 _ _ _ _);rw[set_set] at hMB;have eC:Zj 8 base _ (J' (J' W t { Q8 W t with v:=(Q8 W t).v+Z2 u9 (Qh (Q8 W t).nice),sum:=(Q8 W t).sum+u9 }) t (P4 W t u9)) m:=hMB.own.AP2 t0 (lA _) (j:=7) (vs:=[I ((Q8 W t).IW+u9)]) (x:=P4 W t u9) (by rw[gA];rfl) Qs;have hMC:=hMB.Sv eC Hv (K0 _ _ _ _);rw[set_set] at hMC;have rA:=hMA.wpt.rd.t.f t0 (lA _) (j:=6) rfl;rw[gA] at rA;have rB:=hMB.wpt.rd.t.f t0 (lA _) (j:=7) rfl;rw[gA] at rB;have rC:=hMC.wpt.rd.t.f t0 (lA _) (j:=1) rfl;rw[gA] at rC;refine⟨_,eQ.rd.t.f t0 Qo (j:=5) rfl,_,eQ.rd.t.f t0 Qo (j:=3) rfl,_,Ps,_,XB,⟨?_,?_⟩,zts WM.own WM.nb t0 Qo (j:=5) Qd,_,rA,⟨?_,?_⟩,zts hMA.own hMA.nb t0 (lA _) (j:=6) Qd,_,rB,⟨?_,?_⟩,zts hMB.own hMB.nb t0 (lA _) (j:=7) Qd,_,rC,?_⟩
 ·show _<=(Q8 W t).v+Z2 u9 (Qh (Q8 W t).nice);omega
 ·show (Q8 W t).v+Z2 u9 (Qh (Q8 W t).nice)<=_;omega
 ·show _<=(Q8 W t).sum+u9;omega
 ·show (Q8 W t).sum+u9<=_;omega
 ·show _<=(Q8 W t).IW+u9;omega
 ·show (Q8 W t).IW+u9<=_;omega
 refine⟨λvs w2=>∃(k:Nat) (g:Int) (V:Q7),vs=[I g]/\k+(DN W g).length<=4/\(g≠-1->Q6 W.IE g)/\Mp base pb [b] w m w2 V m/\Gl c u9 (Z7 W t) (J' W t (P4 W t u9))=Gl c u9 (DN W g) V/\zv0 (K+Qi+Qi*(k:Int)) (S+100+100*(k:Int)) c u9 (J' W t (P4 W t u9)) V,z6y W,λwr hx _=>⟨0,(Q8 W t).II,_,rfl,?_,λ_=>hu,hMC.step hx,?_,⟨s1.mono Qs,r1.mono Qs,rfl,rfl,rfl,QZ.refl _,λ_ _=>rfl⟩⟩,?_⟩
 ·have hg0:=(Q5.1 hu).1;unfold DN;rw[B' Qo];have:(QM W.IE (Q8 W t).II++[0]).length<=4:=B49;omega
 ·have hg0:=(Q5.1 hu).1;unfold DN;rw[B' Qo];rfl
 rintro g9 w3 jS ⟨k,g,V,he,hk,hug,jC,hE,hC⟩;simp only[I4,I5,true_and,and_true] at he;subst he;have hp3:=jC.wpt;have Ao3:V.IF.length=W.IF.length:=by rw[hC.cp];rfl
 have hTG:QZ W.IE V.IE:=hC.g;have hkk:0<=Qi*(k:Int)/\Qi*(k:Int)<=138744365760:=by simp only[Qi];omega
 have hk1:Qi*((k+1:Nat):Int)=Qi*(k:Int)+Qi:=by simp only[Qi];omega
 refine⟨λgz=>?_,λgz=>?_⟩
 ·have gz:g9≠-1:=by simpa using gz
  have hug:=hug gz;have Br4:Q6 V.IE g9:=by rw[hTG.cD];exact hug
  obtain⟨u0,u1,hgg⟩:=hC.sw.a.u Br4;have CB9:=hC.sw.a.gl;have Re:g9<(V.IE.length:Int):=Qo;have hsl:=hC.sw.a.sl Br4;have cV:c<(V.IF.length:Int):=by rw[Ao3];exact c1
  have hcs:c<((gi V.IE g9).IH.length:Int):=Qo;have hrs:=zq6 sw.a.tree hug;rw[hrs,List.length_cons] at hk;rw[hrs,zcn] at hE;have hC2:=hC.trans (zkq hC.sw hC.rb Qo c0 cV Br4 n0 n1);have hC3:zv0 (K+Qi+Qi*((k+1:Nat):Int)) (S+100+100*((k+1:Nat):Int)) c u9 (J' W t (P4 W t u9)) (MR V c u9 g9):=⟨hC2.sw.mono Qo,hC2.rb.mono Qo,hC2.now,hC2.t,hC2.cp,hC2.g,hC2.p⟩;have hsv:=hC.sw.s g9 c Br4 c0 cV;have hsr:=hC.rb.s g9 c Br4 c0 cV;have hgr:=hC.rb.g g9 Br4;have hv2:=PY u9 (Qb V g9 c).w n0 n1;have hsh:=hp3.sh u0 Re c0 hcs;have e1:Zj 8 base (Rx w3 (zv3 m g9 c) (0+4) [I ((Qb V g9 c).sum+u9)]) (z0b V c u9 g9) m:=jC.own.As0 u0 u1 c0 hcs (j:=4) (vs:=[I ((Qb V g9 c).sum+u9)]) rfl Qs;have ec1:Qa (z0b V c u9 g9) m=Qa V m:=by simp[Qa,z0b,Rw,R1]
  have dW:=jC.Sv e1 (zjz u0 u1) ec1;have hl1:(z0b V c u9 g9).IE.length=V.IE.length:=by simp[z0b,Rw,R1]
  have tV:Mp base pb [b] w m _ (zwz V c u9 g9) m:=dW.grf u0 u1 (G:={ gi (z0b V c u9 g9).IE g9 with sum:=(gi V.IE g9).sum+u9 }) rfl rfl rfl (j:=7) (vs:=[I ((gi V.IE g9).sum+u9)]) rfl Qs;have hp4:=dW.wpt
  have DC8:Q1 [b] (Rx w3 (zv3 m g9 c) (0+4) [I ((Qb V g9 c).sum+u9)]) m.gO (Int.toNat g9*14+7) [I (gi V.IE g9).sum]:=by
   have:=(hp4.rd.g.cells g9 u0 (by rw[hl1];exact Re)).get 7 _ rfl
   rwa[zwy u0 Re] at this
  have CH9:=hp4.IE;rw[hl1] at CH9;have Cg9:Ix m.gO V.IE.length g9:=hp3.rd.g.ix u0 Re;have DD7:=zru dW.own dW.nb (i:=g9) u0 Qo (j:=7) (k:=1) Qd;refine⟨_,Zn hp3 u0 Re c0 hcs,hsh.1,_,hsh.2 (j:=4) rfl,⟨Qo,Qo⟩,hsh.1,jC.own.Bs7 jC.nb u0 u1 c0 hcs (j:=4) Qd,hp3.some,_,_,_,CH9,Cg9,_,DC8,⟨Qo,Qo⟩,Cg9,DD7,λ_ _ w5=>Mp base pb [b] w m w5 (R1 (TP V c u9 g9) g9 (Kk V c u9 g9)) m,⟨λg1=>?_,λg1 S5 Sx _=>?_⟩,?_⟩
  ·have hp5:=tV.wpt;have hl2:=z0t V c u9 g9;have We:=z0u (n:=u9) u0 Re c0 hcs
   have CP3:c<((gi (zwz V c u9 g9).IE g9).IH.length:Int):=by
    rw[zpv u0 Re];show c<(((gi V.IE g9).IH.set c.toNat _).length:Int);rw[E'];exact hcs
   have Cl3:=hp5.sh u0 (by rw[hl2];exact Re) c0 CP3;have v1:=Cl3.2 (j:=2) rfl;have v2:=Cl3.2 (j:=3) rfl;rw[We] at v1 v2;have g1:g9≠0:=by simpa using g1
   have hsS:GG V c u9 g9={ Qb V g9 c with v:=(Qb V g9 c).v+Z2 u9 (Qb V g9 c).w,sum:=(Qb V g9 c).sum+u9 }:=by unfold GG;rw[C' g1]
   have e6:Zj 8 base _ (Rw (zwz V c u9 g9) g9 c (GG V c u9 g9)) m:=tV.own.As0 u0 u1 c0 CP3 (j:=2) (vs:=[I ((Qb V g9 c).v+Z2 u9 (Qb V g9 c).w)]) (by rw[We,hsS];rfl) Qs;have pY:=tV.Sv e6 (zjz u0 u1) (by simp[Qa,Rw,R1]);rw[zw0 u0 Re] at pY;exact⟨hsh.1,_,v1,hsh.1,_,v2,_,XB,⟨by show _<=(Qb V g9 c).v+Z2 u9 (Qb V g9 c).w;omega,by show (Qb V g9 c).v+Z2 u9 (Qb V g9 c).w<=_;omega⟩,hsh.1,tV.own.Bs7 tV.nb u0 u1 c0 CP3 (j:=2) Qd,λS5 Sx _=>pY.step Sx⟩
  ·have g1:g9=0:=by simpa using g1
   subst g1;rw[<-zw1 Re];exact tV.step Sx
  intro w5 gQ pY;have hgb:=Fg (c:=c) (n:=u9) u0 Re;have hgi:=zkt (c:=c) (n:=u9) u0 Re;have hl5:(R1 (TP V c u9 g9) g9 (Kk V c u9 g9)).IE.length=V.IE.length:=by simp only[R1,E'];exact Lt _ _ _ _
  have AI8:=zcm (c:=c) (n:=u9) u0 Re;have Wg:MR V c u9 g9=RZ (R1 (TP V c u9 g9) g9 (Kk V c u9 g9)) g9 (BU V c u9 g9):=rfl
  have Cj5:(gi (R1 (TP V c u9 g9) g9 (Kk V c u9 g9)).IE g9).IG=(gi W.IE g9).IG:=by
   rw[hgi];unfold Kk;rw[zcl u0 Re];exact hTG.p g9
  generalize R1 (TP V c u9 g9) g9 (Kk V c u9 g9)=V5 at pY hgi hl5 AI8 Wg Cj5;have hp6:=pY.wpt;have hg5:g9<(V5.IE.length:Int):=by rw[hl5];exact Re
  have hq5:=hp6.rd.g.quo (i:=g9) u0 hg5;rw[hgi,hgb] at hq5
  have hmu:∀{w8 w9:Wo},z6y W [I (gi W.IE g9).IG] w8<z6y W [I g9] w9:=by
   intro w8 w9;show (DN W (gi W.IE g9).IG).length<(DN W g9).length;rw[hrs];exact Nat.lt_succ_self _
  have hun:(gi W.IE g9).IG≠-1->Q6 W.IE (gi W.IE g9).IG:=λeO=>by
   by_cases hz:g9=0
   ·subst hz;exact Ir sw.a.tree.rp eO
   ·exact(Y3 sw.a.tree hug hz).1
  refine⟨hp6.some,_,_,_,hp6.IE,hp6.rd.g.ix u0 hg5,_,hq5,λg2 Su bM hs6=>?_,λg2=>?_⟩
  ·have g2:(gi V.IE g9).IM.I'>0:=Ot g2;have hB:BU V c u9 g9=(ZL (gi V.IE g9).IM ⟨2,c,u9⟩).1:=by unfold BU;rw[C' g2]
   rw[hB] at Wg;obtain⟨wM,hbl,_⟩:=hgg.IM Qo;have rU:=pY.step bM
   have B17:Zj 8 base Su (RZ V5 g9 (gi V.IE g9).IM) m:=by
    have:(gi V5.IE g9).IM=(gi V.IE g9).IM:=by rw[hgi,hgb]
    rw[<-this,G0 u0 hg5];exact rU.own
   refine I3 (Nk (op:=⟨2,c,u9⟩) B17 u0 u1 wM) ?_;rintro e7 fS ⟨he7,hB7,hX7⟩;rw[<-Wg] at hB7;have ecc:Qa (MR V c u9 g9) m=Qa V5 m:=by rw[Wg];simp[Qa,RZ,R1]
   have hM8:=rU.Sv hB7 hX7 ecc;have hp8:=hM8.wpt;have hl8:(MR V c u9 g9).IE.length=V5.IE.length:=by rw[Wg];simp[RZ,R1]
   have Cj9:=hp8.rd.g.IG (i:=g9) u0 (by rw[hl8];exact hg5);have hpe:(gi (MR V c u9 g9).IE g9).IG=(gi W.IE g9).IG:=hC2.g.p g9;rw[hpe] at Cj9;have C75:=hp8.IE;have C85:=hp8.rd.g.ix (i:=g9) u0 (by rw[hl8];exact hg5);exact⟨_,he7,KW hX7 hs6 rU.nb,hp8.some,_,_,_,C75,C85,_,Cj9,λSA gL _=>⟨⟨k+1,_,MR V c u9 g9,rfl,Qo,hun,hM8.step gL,hE,hC3⟩,hmu⟩⟩
  ·have g2:¬(gi V.IE g9).IM.I'>0:=Ou g2;have Cj8:=hp6.rd.g.IG (i:=g9) u0 hg5;rw[Cj5] at Cj8;refine⟨hp6.some,_,_,_,hp6.IE,hp6.rd.g.ix u0 hg5,_,Cj8,λSA gL _=>⟨⟨k+1,_,MR V c u9 g9,rfl,Qo,hun,?_,hE,hC3⟩,hmu⟩⟩;rw[AI8 g2];exact pY.step gL
 ·have gz:g9 = -1:=by simpa using gz
  subst gz;have hE:Gl c u9 (Z7 W t) (J' W t (P4 W t u9))=V:=hE;have hcV:V.IF=W.IF:=hC.cp;have cV:c<(V.IF.length:Int):=by rw[Ao3];exact c1
  have hcr:=rb.c c c0 c1;have hs:=MH (n:=Int.toNat c*5) (hp3.rd.c c c0 cV);have e1:=jC.own.AP1 c0 cV (j:=3) (vs:=[I ((gi W.IF c).busy+u9)]) (x:={ gi W.IF c with busy:=(gi W.IF c).busy+u9 }) (by rw[hcV];rfl) Qs;have hl1:(V.IF.set c.toNat { gi W.IF c with busy:=(gi W.IF c).busy+u9 }).length=V.IF.length:=E';have hg1:gi (V.IF.set c.toNat { gi W.IF c with busy:=(gi W.IF c).busy+u9 }) c={ gi W.IF c with busy:=(gi W.IF c).busy+u9 }:=(QE _ _ c0 cV c0).trans (C' rfl);have e2:=e1.AP1 c0 (by simpa using cV) (j:=2) (vs:=[I ((gi W.IF c).Wh+u9)]) (x:=zgy W c u9) (by rw[hg1];rfl) Qs;have dW:Mp base pb [b] w m _ ({ V with IF:=V.IF.set c.toNat { gi W.IF c with busy:=(gi W.IF c).busy+u9 } }:Q7) m:=jC.Sv e1 Du (by simp[Qa]);have tV:Mp base pb [b] w m _ ({ V with IF:=(V.IF.set c.toNat { gi W.IF c with busy:=(gi W.IF c).busy+u9 }).set c.toNat (zgy W c u9) }:Q7) m:=dW.Sv e2 Du (by simp[Qa])
  have hW5:({ V with IF:=(V.IF.set c.toNat { gi W.IF c with busy:=(gi W.IF c).busy+u9 }).set c.toNat (zgy W c u9) }:Q7)=JU W c t u9:=by
   unfold JU RM;rw[hE,List.set_set]
  rw[hW5] at tV;have wM:=JG (hp3.rd.c c c0 cV) (j:=3) rfl;rw[hcV] at wM;have c4:c<((({ V with IF:=V.IF.set c.toNat { gi W.IF c with busy:=(gi W.IF c).busy+u9 } }:Q7).IF.length:Nat):Int):=by show c<((V.IF.set c.toNat _).length:Int);rw[hl1];exact cV
  have hp4:=dW.wpt;have hr4:=JG (hp4.rd.c c c0 c4) (j:=2) rfl;rw[show gi ({ V with IF:=V.IF.set c.toNat { gi W.IF c with busy:=(gi W.IF c).busy+u9 } }:Q7).IF c=_ from hg1] at hr4;have C62:=VR hp4 c0 c4;refine⟨_,VR hp3 c0 cV,hs,_,wM,⟨by show _<=(gi W.IF c).busy+u9;omega,by show (gi W.IF c).busy+u9<=_;omega⟩,hs,PP.2 (zpg jC.own jC.nb c0 cV Qd),?_⟩;rw[TJ];refine⟨_,C62,hs,_,hr4,⟨by show _<=(gi W.IF c).Wh+u9;omega,by show (gi W.IF c).Wh+u9<=_;omega⟩,hs,PP.2 (zpg e1 jC.nb c0 c4 Qd),?_⟩;rw[TJ];exact λWK qU=>⟨rfl,(tV.step qU).close⟩
end
def cO:Code->Code
 |.loop c=>c
 |c=>c
noncomputable def O7(l:Option Nat):UU:={ P:=Tryz.prog,T:=TL zv4,pf:=z0f,ef:=z0c,tt:=z3d,vis:=[2,4],n:=52,pm:=false,wr:=false,rd:=l }
noncomputable def Gy:List (Nat×Ym):=[]
noncomputable def XL:Code:=(cL ((Pi Tryz.f89)))
def O3(f:OA)(g:Int)(w:Wo)(R:Exit->List Va->Wo->Prop):Prop:= (∀b a,Q0 [] w a->w.heap.size<=b->a.heap[b]? = some (Obj.cells ([.pointer f,I g]:List Va).toArray TM (0,0))->b∉([]:List Nat)->(∀c d,Q0 [] a d->a.heap.size<=c->d.heap[c]? = some (Obj.cells ([.bool false]:List Va).toArray Zw (0,0))->c∉([]:List Nat)->(∀e,Q0 [] d e->R .normal [.pointer ((some (Addr.mk b 0 none)).map (·.add 0)),.pointer ((some (Addr.mk c 0 none)).map (·.add 0))] e)))
def GD(l:Option Nat)(p:OA)(p1:Int)(w:Wo)(R:Exit->List Va->Wo->Prop):Ai (O7 l) Gy XL (VQ [(0,.agg #[.pointer p,.int .i64 p1])]) w (H0 [2,4] R)=O3 p p1 w R:=Qk
def Gp(l:Option Nat)(p:OA)(p1:Int){w:Wo}{R:Exit->List Va->Wo->Prop}{Q:Exit->Act->Wo->Prop}{a:Act}(hn:a.tmps.size=52)(hin:FA [(0,.agg #[.pointer p,.int .i64 p1])] a)(hvc:O3 p p1 w R)(hQ:∀e vs a1 w1,R e vs w1->zv5 (Xm XL) [2,4] a a1 vs->Q e a1 w1):XL.wpIn (PS l) 0 Tryz.prog Q a w:=
 znp (C:=O7 l) (z2z _ _ _ _ _) hn hin (by rw[GD];exact hvc) hQ
noncomputable def O9(l:Option Nat):UU:={ P:=Tryz.prog,T:=TL zv4,pf:=z0f,ef:=z0c,tt:=z3d,vis:=[],n:=52,pm:=false,wr:=false,rd:=l }
noncomputable def GA:List (Nat×Ym):=[]
noncomputable def XM:Code:=(cL (cL (cR (cR ((Pi Tryz.f89))))))
def O5(g:Int)(f:OA)(w:Wo)(R:Exit->List Va->Wo->Prop):Prop:= f.isSome/\(∃(a:OA),Q1 [] w f 0 [.pointer a]/\a.isSome/\(∃(b:OA) (d:Nat) (h:Nat),Q1 [] w a (0+2) [S b d h]/\Ix b d g/\(∃(e:Int),Q1 [] w b (Int.toNat g*9+1) [I e]/\(∀c,Q0 [] w c->R .normal [I e] c))))
def GF(l:Option Nat)(task:Int)(p:OA)(w:Wo)(R:Exit->List Va->Wo->Prop):Ai (O9 l) GA XM (VQ [(1,.int .i64 task),(2,.pointer p)]) w (H0 [5] R)=O5 task p w R:=Qk
def Gr(l:Option Nat)(task:Int)(p:OA){w:Wo}{R:Exit->List Va->Wo->Prop}{Q:Exit->Act->Wo->Prop}{a:Act}(hn:a.tmps.size=52)(hin:FA [(1,.int .i64 task),(2,.pointer p)] a)(hvc:O5 task p w R)(hQ:∀e vs a1 w1,R e vs w1->zv5 (Xm XM) [5] a a1 vs->Q e a1 w1):XM.wpIn (PS l) 0 Tryz.prog Q a w:=
 znp (C:=O9 l) (z2z _ _ _ _ _) hn hin (by rw[GF];exact hvc) hQ
noncomputable def P3(l:Option Nat):UU:={ P:=Tryz.prog,T:=TL zv4,pf:=z0f,ef:=z0c,tt:=z3d,vis:=[],n:=52,pm:=false,wr:=false,rd:=l }
noncomputable def Ht:List (Nat×Ym):=[]
noncomputable def J1:Code:=(cL (cO (cB (cR (cL (cR (cR ((Pi Tryz.f89)))))))))
def P0(c:Int)(w:Wo)(R:Exit->List Va->Wo->Prop):Prop:= ((c != 0)->(∀a,Q0 [] w a->R .normal [] a))/\((c != 0)=false->(∀b,Q0 [] w b->R (.exit 0) [] b))
def HB(l:Option Nat)(g:Int)(w:Wo)(R:Exit->List Va->Wo->Prop):Ai (P3 l) Ht J1 (VQ [(5,.int .i64 g)]) w (H0 [] R)=P0 g w R:=Qk
def H1(l:Option Nat)(g:Int){w:Wo}{R:Exit->List Va->Wo->Prop}{Q:Exit->Act->Wo->Prop}{a:Act}(hn:a.tmps.size=52)(hin:FA [(5,.int .i64 g)] a)(hvc:P0 g w R)(hQ:∀e vs a1 w1,R e vs w1->zv5 (Xm J1) [] a a1 vs->Q e a1 w1):J1.wpIn (PS l) 0 Tryz.prog Q a w:=
 znp (C:=P3 l) (z2z _ _ _ _ _) hn hin (by rw[HB];exact hvc) hQ
noncomputable def O6(l:Option Nat):UU:={ P:=Tryz.prog,T:=TL zv4,pf:=z0f,ef:=z0c,tt:=z3d,vis:=[],n:=52,pm:=false,wr:=false,rd:=l }
noncomputable def Gx:List (Nat×Ym):=[]
noncomputable def YK:List Code:=[cL (cB (cL (cR (cO (cB (cR (cL (cR (cR ((Pi Tryz.f89))))))))))),cL (cR (cB (cL (cR (cO (cB (cR (cL (cR (cR ((Pi Tryz.f89))))))))))))]
def O2(b:OA)(e:Int)(w:Wo)(R:Exit->List Va->Wo->Prop):Prop:= b.isSome/\(∃(d:OA),Q1 [] w b 0 [.pointer d]/\d.isSome/\(∃(c:OA) (i:Nat) (n:Nat),Q1 [] w d (0+3) [S c i n]/\Ix c i e/\(∃(a:Int),Q1 [] w c (Int.toNat e*14+8+0) [I a]/\((decide (a>0))->b.isSome)/\(∃(f:Int),((decide (a>0))->Q1 [] w b 1 [I f])/\((decide (a>0))->(AY [] w λg=>Cz JH #[.pointer (c.map (·.add (Int.toNat e*14+8))),.agg #[I 1,I f,I 0]] g λm k=>(∃(h:Int),m=.returned (I h)/\Q9 [] g k/\(∀j,Q0 [] k j->R .normal [.bool ((decide (a>0))&&(h==2))] j))))/\(((decide (a>0))->False)->(∀l,Q0 [] w l->R .normal [.bool false] l))))))
def GC(l:Option Nat)(p:OA)(g:Int)(w:Wo)(R:Exit->List Va->Wo->Prop):z6p (O6 l) Gx YK (VQ [(2,.pointer p),(5,.int .i64 g)]) w (H0 [48] R)=O2 p g w R:=Qk
def Gn(l:Option Nat)(p:OA)(g:Int){w:Wo}{R:Exit->List Va->Wo->Prop}{X:Code}{Q:Exit->Act->Wo->Prop}{a:Act}(hn:a.tmps.size=52)(hin:FA [(2,.pointer p),(5,.int .i64 g)] a)(hvc:O2 p g w R)(hX:∀vs a1 w1,R .normal vs w1->zv5 (Kl YK) [48] a a1 vs->X.wpIn (PS l) 0 Tryz.prog Q a1 w1)(hQ:∀e vs a1 w1,e≠.normal->R e vs w1->zv5 (Kl YK) [48] a a1 vs->Q e a1 w1):(zze YK X).wpIn (PS l) 0 Tryz.prog Q a w:=
 z50 (C:=O6 l) (z2z _ _ _ _ _) hn hin (by rw[GC];exact hvc) hX hQ
noncomputable def O8(l:Option Nat):UU:={ P:=Tryz.prog,T:=TL zv4,pf:=z0f,ef:=z0c,tt:=z3d,vis:=[],n:=52,pm:=false,wr:=false,rd:=l }
noncomputable def Gz:List (Nat×Ym):=[]
noncomputable def YL:Code:=(cR (cR (cO (cB (cR (cL (cR (cR ((Pi Tryz.f89))))))))))
def O4(g:OA)(e:Int)(w:Wo)(R:Exit->List Va->Wo->Prop):Prop:= g.isSome/\(∃(a:OA),Q1 [] w g 0 [.pointer a]/\a.isSome/\(∃(b:OA) (d:Nat) (h:Nat),Q1 [] w a (0+3) [S b d h]/\Ix b d e/\(∃(f:Int),Q1 [] w b (Int.toNat e*14+1) [I f]/\(∀c,Q0 [] w c->R .normal [I f] c))))
def GE(l:Option Nat)(p:OA)(g:Int)(w:Wo)(R:Exit->List Va->Wo->Prop):Ai (O8 l) Gz YL (VQ [(2,.pointer p),(5,.int .i64 g)]) w (H0 [5] R)=O4 p g w R:=Qk
def Gq(l:Option Nat)(p:OA)(g:Int){w:Wo}{R:Exit->List Va->Wo->Prop}{Q:Exit->Act->Wo->Prop}{a:Act}(hn:a.tmps.size=52)(hin:FA [(2,.pointer p),(5,.int .i64 g)] a)(hvc:O4 p g w R)(hQ:∀e vs a1 w1,R e vs w1->zv5 (Xm YL) [5] a a1 vs->Q e a1 w1):YL.wpIn (PS l) 0 Tryz.prog Q a w:=
 znp (C:=O8 l) (z2z _ _ _ _ _) hn hin (by rw[GE];exact hvc) hQ
noncomputable def Ta(l:Option Nat):UU:={ P:=Tryz.prog,T:=TL zv4,pf:=z0f,ef:=z0c,tt:=z3d,vis:=[],n:=52,pm:=false,wr:=false,rd:=l }
noncomputable def LZ:List (Nat×Ym):=[]
noncomputable def Yu:Code:=(cR (cR (cR ((Pi Tryz.f89)))))
def T7(b:OA)(w:Wo)(R:Exit->List Va->Wo->Prop):Prop:= Xd [] w b 0 1/\(∀a,Q0 [] (Rx w b 0 [.bool false]) a->R .ret [] a)
def G3(l:Option Nat)(RE:OA)(w:Wo)(R:Exit->List Va->Wo->Prop):Ai (Ta l) LZ Yu (VQ [(4,.pointer RE)]) w (H0 [] R)=T7 RE w R:=Qk
def LA(l:Option Nat)(RE:OA){w:Wo}{R:Exit->List Va->Wo->Prop}{Q:Exit->Act->Wo->Prop}{a:Act}(hn:a.tmps.size=52)(hin:FA [(4,.pointer RE)] a)(hvc:T7 RE w R)(hQ:∀e vs a1 w1,R e vs w1->zv5 (Xm Yu) [] a a1 vs->Q e a1 w1):Yu.wpIn (PS l) 0 Tryz.prog Q a w:=
 znp (C:=Ta l) (z2z _ _ _ _ _) hn hin (by rw[G3];exact hvc) hQ
end Go.Proofs.YtjinkcmkgnofjaaGreatDoor
