/- Part 14 of what the law FnParts needs. -/
import Derived.Test.YtjinkcmkgnofjaaGreatDoorFnPartsPm
set_option linter.all false
set_option maxRecDepth 100000
set_option maxHeartbeats 8000000
namespace Go.Proofs.YtjinkcmkgnofjaaGreatDoor
open Go.RowKit
def znv{b b':Um}{c:Int}{e:Nat}(he:(e:Int)≠c)(h0:gi b'.locals (e:Int)=0)(h1:gi b.locals (e:Int)>0)(h:∀d:Nat,d≠e->gi b'.locals (d:Int)=gi b.locals (d:Int)):∀n:Nat,zg8 b' c n+(if e<n then 1 else 0)=zg8 b c n
 |0=>rfl
 |n+1=>by
  have ih:=znv he h0 h1 h n;simp only[zg8]
  by_cases hn:n=e
  ·subst hn;rw[B' (Nat.lt_irrefl n)] at ih;rw[C' (Nat.lt_succ_self n),B' (by rintro⟨_,h⟩;omega),C' ⟨he,h1⟩];omega
  ·rw[h n hn];generalize (if (n:Int)≠c/\gi b.locals (n:Int)>0 then 1 else 0)=y
   by_cases IW:e<n
   ·rw[C' IW] at ih;rw[C' Qo];omega
   ·rw[B' IW] at ih;rw[B' Qo];omega
def zy9{b:Um}(h:P2 b){c:Int}{e:Nat}(e1:(e:Int)<(b.locals.length:Int))(hp:gi b.locals (e:Int)>0):Jq (Yi b (e:Int)) c<=Jq b c:=by
 have hl:=h.l2
 have SS:∀d:Nat,gi (Yi b (e:Int)).locals (d:Int)=if e=d then 0 else gi b.locals (d:Int):=λd=>by
  show gi (b.locals.set (e:Int).toNat 0) (d:Int)=_;rw[Qx _ _ Qo e1 Qo]
  by_cases h:e=d
  ·subst h;simp
  ·rw[B' h,B' Qo]
 unfold Jq
 by_cases hc:(e:Int)=c
 ·have h1:=HO (b:=b) (b':=Yi b (e:Int)) (c:=c) (λd hd=>by rw[SS d,B' (λh=>hd (by rw[<-h];exact hc))]) 4
  have hw:gi b.Ry c=false:=by
   cases hd:gi b.Ry c with
   |false=>rfl
   |true=>
    have:=((h.each c Qo Qo).2.2 hd).1;rw[<-hc] at this;omega
  rw[h1];unfold zrt;rw[hw]
  split <;> simp
 ·have h1:=znv (b:=b) (b':=Yi b (e:Int)) (c:=c) hc (by rw[SS e,C' rfl]) hp (λd hd=>by rw[SS d,B' (λh=>hd h.symm)]) 4;rw[C' Qo] at h1;have:zrt (Yi b (e:Int)) c<=1:=by unfold zrt;split <;> omega
  omega
def zza{b:Um}{c:Int}(c0:0<=c)(c1:c<(b.locals.length:Int))(hdl:b.Ry.length=b.locals.length)(hw:gi b.Ry c=false):Jq (ZL b c).1 c<=Jq b c/\((ZL b c).2=2->Jq (ZL b c).1 c<Jq b c)/\((ZL b c).2≠2->gi (ZL b c).1.Ry c=false):=by
 unfold ZL;split
 ·exact⟨I7 _,λh=>(by cases h),λ_=>hw⟩
 ·have h1:=HO (b:=b) (b':=⟨b.I',b.RH-Zr 20 b.RH,b.So,b.locals.set c.toNat (Zr 20 b.RH),b.Ry.set c.toNat (Zr 20 b.RH==0)⟩) (c:=c) (λd hd=>by
   show gi (b.locals.set c.toNat (Zr 20 b.RH)) (d:Int)=_;rw[Qx _ _ c0 c1 Qo,B' λh=>hd h.symm]) 4
  have hd:gi (b.Ry.set c.toNat (Zr 20 b.RH==0)) c=(Zr 20 b.RH==0):=by rw[Qx _ _ c0 Qo c0,C' rfl]
  unfold Jq;rw[h1];unfold zrt;rw[hw];simp only[hd]
  by_cases hm:Zr 20 b.RH=0
  ·rw[C' (show (Zr 20 b.RH==0)=true by rw[hm];rfl),B' Qd];exact⟨Qo,λ_=>by omega,λh=>Ir (C' hm) h⟩
  ·have hb:(Zr 20 b.RH==0)=false:=by simpa using hm
   rw[hb];exact⟨I7 _,λh=>(by rw[B' hm] at h;cases h),λ_=>rfl⟩
def zvh{b:Um}{c n:Int}(c0:0<=c)(c1:c<(b.locals.length:Int)):Jq (Y6 b c n).1 c=Jq b c:=by
 unfold Y6;split
 ·rfl
 ·unfold Jq zrt
  rw[HO (b:=b) (c:=c) (λd hd=>by
   show gi (b.locals.set c.toNat (gi b.locals c-n)) (d:Int)=_;rw[Qx _ _ c0 c1 Qo,B' λh=>hd h.symm]) 4]
def zjk{F K:Int}{W:Q7}(h:SF F K W){k:Int}(hu:Q6 W.IE k)(hq:(gi W.IE k).IL.I'≠0)(c:Int):∀d:Nat,d<=W.IF.length->(∀j:Int,0<=j->Jq (gi (Ze W k d).IE j).IL c<=Jq (gi W.IE j).IL c)
 |0,_=>λ_ _=>I7 _
 |d+1,hd=>by
  have ih:=zjk h hu hq c d Qo;obtain⟨a,b,q⟩:=Mz h hu hq d Qo;simp only[Ze];split
  ·rename_i hc;have hu':Q6 (Ze W k d).IE k:=by rw[b.g.aO];exact hu
   obtain⟨u0,u1,hg⟩:=a.w.a.u hu';have hb:=hg.IL q;have hl:=a.w.a.gl;intro j hj;show Jq (gi (R3 _ k _).IE j).IL c<=_;rw[Ym u0 Qo hj];split
   ·rename_i e;subst e;exact IB (zy9 hb.1 (by rw[hb.2.1,b.c];omega) hc.1) (ih k hj)
   ·exact ih j hj
  ·exact ih
def zjl{F K:Int}{W:Q7}(h:SF F K W)(c:Int):∀k:Nat,k<=8->∀j:Int,0<=j->Jq (gi (Zv W k).IE j).IL c<=Jq (gi W.IE j).IL c
 |0,_=>λ_ _=>I7 _
 |k+1,hk=>by
  have ih:=zjl h c k Qo;obtain⟨a,b⟩:=JP h k Qo;have hl:=a.w.a.gl;simp only[Zv];split
  ·rename_i hc;exact λj hj=>IB (zjk a (Q2.2 ⟨Qo,Qo,hc.1⟩) hc.2 c _ (I7 _) j hj) (ih j hj)
  ·exact ih
def zt5{K:Int}{W:Q7}(sw:SW K W){c:Int}(c0:0<=c)(c1:c<(W.IF.length:Int))(i:Int)(hi:0<=i):(gi (Xs W c).IE i).IL=(gi W.IE i).IL:=(Br sw c0 c1).1.b i hi
def zis{K:Int}{W:Q7}(sw:SW K W)(hK:0<=K)(i:Int)(hi:0<=i):∀c:Nat,c<=W.IF.length->(gi (YB W c).IE i).IL=(gi W.IE i).IL
 |0,_=>rfl
 |c+1,hc=>by
  obtain⟨s1,f1⟩:=Pi sw hK c Qo;rw[show YB W (c+1)=Xs (YB W c) (c:Int) from rfl,zt5 s1 Qo (by rw[f1.c];omega) i hi,zis sw hK i hi c Qo]
def zq1{K:Int}{W:Q7}(sw:SW K W)(hK:0<=K)(c:Int):GF (Qb W) c<=GF W c:=by
 obtain⟨s1,o1⟩:=T3 (F:=K) (K:=K+Qh) (sw.sf.mono (I2 _) (by simp only[Qh];omega)) (I2 _) W.IF.length (I7 _);obtain⟨s2,b2⟩:=JP s1 8 (I7 _);refine HV (λk hk=>?_) 8 (I7 _);have h1:(gi (Qb W).IE (k:Int)).IL=(gi (Zv (Z2 W W.IF.length) 8).IE (k:Int)).IL:=zis s2.w (by simp only[Qh];omega) (k:Int) Qo W.IF.length (by show W.IF.length<=(Zv (Z2 W W.IF.length) 8).IF.length;rw[b2.c,o1.c];exact I7 _);rw[h1];have h2:=zjl s1 c 8 (I7 _) (k:Int) Qo;rw[o1.b (k:Int) Qo] at h2;exact h2
def QV(W:Q7)(t:Int):List Int:=QR W.IE (Q8 W t).II++[0]
def K5(W:Q7)(c g:Int):Q7×Bool:=if (gi W.IE g).IL.I'=0 then (W,true) else (RF W g (ZL (gi W.IE g).IL c).1,decide ((ZL (gi W.IE g).IL c).2≠2))
def DW(c:Int):List Int->Q7->Q7×Bool
 |[],W=>(W,true)
 |g::l,W=>if (K5 W c g).2=true then DW c l (K5 W c g).1 else ((K5 W c g).1,false)
def TM(W:Q7)(c g n:Int):Int:=if (gi W.IE g).IL.I'>0 then Zr n (gi (gi W.IE g).IL.locals c) else n
def J8(W:Q7)(c:Int):List Int->Int->Int
 |[],n=>n
 |g::l,n=>J8 W c l (TM W c g n)
def Gg(W:Q7)(c n g:Int):KM:={ Qa W g c with v:=if g≠0 then (Qa W g c).v+QS n (Qa W g c).w else (Qa W g c).v,sum:=(Qa W g c).sum+n }
def MZ(W:Q7)(c n g:Int):Um:=if (gi W.IE g).IL.I'>0 then (ZP (gi W.IE g).IL ⟨2,c,n⟩).1 else (gi W.IE g).IL
def PJ(W:Q7)(c n g:Int):Q7:=RC W g c (Gg W c n g)
def KN(W:Q7)(c n g:Int):ZD:={ gi (PJ W c n g).IE g with sum:=(gi W.IE g).sum+n }
def GQ(W:Q7)(c n g:Int):Q7:=RF (R3 (PJ W c n g) g (KN W c n g)) g (MZ W c n g)
def DD(c n:Int):List Int->Q7->Q7
 |[],W=>W
 |g::l,W=>DD c n l (GQ W c n g)
def Tb(W:Q7)(t n:Int):PS:={ Q8 W t with v:=(Q8 W t).v+QS n (Qf (Q8 W t).nice),sum:=(Q8 W t).sum+n,IV:=(Q8 W t).IV+n }
def Fp(W:Q7)(c n:Int):PP:={ gi W.IF c with busy:=(gi W.IF c).busy+n,SX:=(gi W.IF c).SX+n }
def Ui(W:Q7)(c t n:Int):Q7:=RO (DD c n (QV W t) (J' W t (Tb W t n))) c (Fp W c n)
def Yf(W:Q7)(c t:Int):PP:=if t≠(gi W.IF c).cur\/(gi W.IF c).SX>=50 then { gi W.IF c with cur:=t,SX:=0 } else gi W.IF c
def ZX(W:Q7)(c t:Int):Q7:=RO W c (Yf W c t)
def OL(W:Q7)(c n:Int):PP:={ gi W.IF c with idle:=(gi W.IF c).idle+n }
def Zl(W:Q7)(c:Int):Q7×Bool:=DW c (QV W (Qe W c)) (ZX W c (Qe W c))
def ZV(W:Q7)(c left:Int):Int:=J8 (Zl W c).1 c (QV W (Qe W c)) left
def Uk(W:Q7)(c left:Int):Q7×Int:=
 if (Zl W c).2=true then (Qb (Ui (Zl W c).1 c (Qe W c) (ZV W c left)),left-ZV W c left) else (Qb (Rc (Zl W c).1 c),left)
def PD(c:Int):Nat->Q7->Int->Q7
 |0,W,_=>W
 |f+1,W,left=>if left<=0 then Qb W else if Qe W c<0 then Qb (Rc (RO W c (OL W c left)) c) else PD c f (Uk W c left).1 (Uk W c left).2
structure zwj (K c:Int) (W W':Q7):Prop where
 sw:SW K W'
 o:UY W W'
 q:∀i:Int,0<=i->(gi W'.IE i).IL.I'=(gi W.IE i).IL.I'
 l:∀i:Int,0<=i->gi (gi W.IE i).IL.locals c>0->gi (gi W'.IE i).IL.locals c>0
 p:∀i:Int,0<=i->Jq (gi W'.IE i).IL c<=Jq (gi W.IE i).IL c
 su:JY W W'
def zwj.refl{K c:Int}{W:Q7}(h:SW K W):zwj K c W W:=⟨h,UY.refl _,λ_ _=>rfl,λ_ _ h=>h,λ_ _=>I7 _,JY.refl _⟩
def zwj.trans{K c:Int}{A B C:Q7}(h:zwj K c A B)(k:zwj K c B C):zwj K c A C:=⟨k.sw,h.o.trans k.o,λi hi=>(k.q i hi).trans (h.q i hi),λi hi g=>k.l i hi (h.l i hi g),λi hi=>IB (k.p i hi) (h.p i hi),h.su.trans k.su⟩
def zvz{b:Um}(h:P2 b){c:Int}(c0:0<=c)(c1:c<(b.locals.length:Int)):(gi b.locals c>0->(ZL b c).1=b)/\((ZL b c).2≠2->gi (ZL b c).1.locals c>0):=by
 unfold ZL;split
 ·rename_i hp;exact⟨λ_=>rfl,λ_=>hp⟩
 ·rename_i hn;refine⟨λh=>Ir h hn,λh2=>?_⟩;show gi (b.locals.set c.toNat (Zr 20 b.RH)) c>0;rw[Qx _ _ c0 c1 c0,C' rfl];have hm:=zbc h.p1
  by_cases e:Zr 20 b.RH=0
  ·exact Ir (C' e) h2
  ·omega
def zmr{K c:Int}{W:Q7}(sw:SW K W)(c0:0<=c)(c1:c<(W.IF.length:Int)){g:Int}(hu:Q6 W.IE g)(hd:(gi W.IE g).IL.I'≠0->gi (gi W.IE g).IL.Ry c=false) :
  zwj K c W (K5 W c g).1/\((K5 W c g).2->((gi W.IE g).IL.I'≠0->gi (gi (K5 W c g).1.IE g).IL.locals c>0)/\∀i:Int,0<=i->((gi W.IE i).IL.I'≠0->gi (gi W.IE i).IL.Ry c=false)->(gi W.IE i).IL.I'≠0->gi (gi (K5 W c g).1.IE i).IL.Ry c=false)
   /\ ((K5 W c g).2=false->Jq (gi (K5 W c g).1.IE g).IL c<Jq (gi W.IE g).IL c):=by
 obtain⟨u0,u1,hg⟩:=sw.a.u hu;have bU:=sw.a.gl;unfold K5;split
 ·rename_i hq;exact⟨zwj.refl sw,λ_=>⟨λh=>Ir hq h,λi _ h h2=>h h2⟩,λh=>by cases h⟩
 ·rename_i hq;obtain⟨hb,vI,_⟩:=hg.IL hq;have qT:c<((gi W.IE g).IL.locals.length:Int):=Qo;obtain⟨cD,hl2,hq2⟩:=zz0 hb c0 qT;obtain⟨p1,p2,p3⟩:=zza c0 qT hb.dl (hd hq);obtain⟨l1,l2⟩:=zvz hb c0 qT;have ha:=sw.a.RF (g:=g) hu hq cD (by rw[hl2];exact vI) hq2;have e:∀i:Int,0<=i->gi (RF W g (ZL (gi W.IE g).IL c).1).IE i=if g=i then { gi W.IE g with IL:=(ZL (gi W.IE g).IL c).1 } else gi W.IE i:=λi hi=>Ym u0 Qo hi
  have ob:=HT (W:=W) (b:=(ZL (gi W.IE g).IL c).1) u0 Qo;refine⟨⟨(sw.sf.A96 ob ha).w,ob,λi hi=>?_,λi hi h=>?_,λi hi=>?_,zzw _ _ _⟩,λh=>?_,λh=>?_⟩
  ·show (gi (RF W g _).IE i).IL.I'=_;rw[e i hi];split
   ·rename_i e;subst e;exact hq2
   ·rfl
  ·show gi (gi (RF W g _).IE i).IL.locals c>0;rw[e i hi];split
   ·rename_i e;subst e;show gi (ZL (gi W.IE g).IL c).1.locals c>0;rw[l1 h];exact h
   ·exact h
  ·show Jq (gi (RF W g _).IE i).IL c<=_;rw[e i hi];split
   ·rename_i e;subst e;exact p1
   ·exact I7 _
  ·have h:(ZL (gi W.IE g).IL c).2≠2:=Ot h;refine⟨λ_=>?_,λi hi h1 h2=>?_⟩
   ·show gi (gi (RF W g _).IE g).IL.locals c>0;rw[e g u0,C' rfl];exact l2 h
   ·show gi (gi (RF W g _).IE i).IL.Ry c=false;rw[e i hi];split
    ·rename_i e;subst e;exact p3 h
    ·exact h1 h2
  ·have h:(ZL (gi W.IE g).IL c).2=2:=Iq λhn=>Ou h hn
   show Jq (gi (RF W g _).IE g).IL c<_;rw[e g u0,C' rfl];exact p2 h
def zrp{K c:Int}(c0:0<=c):∀(l:List Int) {W:Q7},SW K W->c<(W.IF.length:Int)->(∀g∈l,Q6 W.IE g)->(∀g∈l,(gi W.IE g).IL.I'≠0->gi (gi W.IE g).IL.Ry c=false)->
  zwj K c W (DW c l W).1/\((DW c l W).2->∀g∈l,(gi W.IE g).IL.I'≠0->gi (gi (DW c l W).1.IE g).IL.locals c>0)/\((DW c l W).2=false->∃g∈l,Jq (gi (DW c l W).1.IE g).IL c<Jq (gi W.IE g).IL c)
 |[],W,sw,_,_,_=>⟨zwj.refl sw,λ_ g hg=>(by cases hg),λh=>by cases h⟩
 |g::l,W,sw,c1,hu,hd=>by
  obtain⟨a,b,d⟩:=zmr sw c0 c1 (hu g I9) (hd g I9);simp only[DW]
  by_cases h2:(K5 W c g).2=true
  ·rw[C' h2];obtain⟨b1,b2⟩:=b h2;have h0:∀x∈l,0<=x:=λx hx=>(Q2.1 (hu x (I1 _ hx))).1
   obtain⟨a',b',d'⟩:=zrp c0 l (W:=(K5 W c g).1) a.sw (by rw[a.o.c];exact c1) (λx hx=>by rw[a.o.g.aO];exact hu x (I1 _ hx)) λx hx hq=>by
    rw[a.q x (h0 x hx)] at hq;exact b2 x (h0 x hx) (hd x (I1 _ hx)) hq
   refine⟨a.trans a',λh x hx hq=>?_,λh=>?_⟩
   ·rcases Ii.1 hx with e|e
    ·subst e;exact a'.l x (Q2.1 (hu x I9)).1 (b1 hq)
    ·exact b' h x e (by rw[a.q x (h0 x e)];exact hq)
   ·obtain⟨x,hx,IW⟩:=d' h;exact⟨x,I1 _ hx,Nat.lt_of_lt_of_le IW (a.p x (h0 x hx))⟩
  ·rw[B' h2];exact⟨a,λh=>(by cases h),λ_=>⟨g,I9,d (by simpa using h2)⟩⟩
def zjg{W:Q7}{c:Int}:∀(l:List Int) (n:Int),1<=n->(∀g∈l,(gi W.IE g).IL.I'>0->gi (gi W.IE g).IL.locals c>0)->1<=J8 W c l n/\J8 W c l n<=n
 |[],n,h,_=>⟨h,I2 _⟩
 |g::l,n,h,hl=>by
  simp only[J8]
  have hm:1<=TM W c g n/\TM W c g n<=n:=by
   unfold TM;split
   ·rename_i hq;have:=hl g I9 hq;unfold Zr
    split <;> omega
   ·exact⟨h,I2 _⟩
  have:=zjg l (TM W c g n) hm.1 λx hx=>hl x (I1 _ hx)
  omega
def Ma(n w:Int)(h0:0<=n)(h1:n<=100):0<=QS n w/\QS n w<=Qh:=by
 by_cases h:1<=w/\w<=20
 ·rw[Pk h0 Qo h.1 h.2];have hs:=zfr h.1 h.2;refine⟨Int.mul_nonneg h0 Qo,?_⟩
  calc n*zj3 w<=100*zj3 w:=Int.mul_le_mul_of_nonneg_right h1 Qo
   _<=100*232792560:=Int.mul_le_mul_of_nonneg_left hs.2 Qd
   _<=Qh:=Qd
 ·rw[D5 Qo];exact⟨I2 _,Qd⟩
def zt2{b:Um}(h:P2 b){c n:Int}(c0:0<=c)(c1:c<(b.locals.length:Int)):P2 (ZP b ⟨2,c,n⟩).1/\(ZP b ⟨2,c,n⟩).1.locals.length=b.locals.length/\(ZP b ⟨2,c,n⟩).1.I'=b.I'/\Jq (ZP b ⟨2,c,n⟩).1 c=Jq b c:=by
 have e:ZP b ⟨2,c,n⟩=Y6 b c n:=by
  unfold ZP;rw[B' (show ¬(2:Int)=4 by decide),B' (by rw[Qu.2 (by show 0<=c/\c<=_;omega)];decide),B' (show ¬(2:Int)=1 by decide),C' rfl]
 rw[e];obtain⟨a,b',d⟩:=zvu h (n:=n) c0 c1;exact⟨a,b',d,zvh c0 c1⟩
structure zv8 (K S c n:Int) (W W':Q7):Prop where
 sw:SW K W'
 rb:RB S W'
 now:W'.now=W.now
 t:W'.IJ=W.IJ
 cp:W'.IF=W.IF
 g:QH W.IE W'.IE
 p:∀i:Int,0<=i->Jq (gi W'.IE i).IL c=Jq (gi W.IE i).IL c
def zku{K S c n:Int}{W:Q7}(sw:SW K W)(rb:RB S W)(hS:S+n<=100000000000000000)(c0:0<=c)(c1:c<(W.IF.length:Int)){g:Int}(hu:Q6 W.IE g)(n0:0<=n)(n1:n<=100):zv8 (K+Qh) (S+n) c n W (GQ W c n g):=by
 obtain⟨u0,u1,hg⟩:=sw.a.u hu;have bU:=sw.a.gl;have hsl:=sw.a.sl hu;have hsr:=sw.s g c hu c0 c1;have hv:=Ma n (Qa W g c).w n0 n1;have hlg:0<=Qh:=Qd;have ea:∀{i:Int},0<=i->gi (PJ W c n g).IE i=if g=i then { gi W.IE g with IH:=(gi W.IE g).IH.set c.toNat (Gg W c n g) } else gi W.IE i:=λhi=>Ym u0 Qo hi
 have eg:∀i:Int,0<=i->gi (GQ W c n g).IE i=if g=i then { gi W.IE g with IH:=(gi W.IE g).IH.set c.toNat (Gg W c n g),sum:=(gi W.IE g).sum+n,IL:=MZ W c n g } else gi W.IE i:=λi hi=>by
  have uG:g<((R3 (PJ W c n g) g (KN W c n g)).IE.length:Int):=by
   have:(R3 (PJ W c n g) g (KN W c n g)).IE.length=W.IE.length:=by simp[R3,PJ,RC]
   rw[this];omega
  have hl2:g<((PJ W c n g).IE.length:Int):=by
   have:(PJ W c n g).IE.length=W.IE.length:=by simp[R3,PJ,RC]
   rw[this];omega
  unfold GQ RF;rw[Ym u0 uG hi,Ym u0 hl2 hi,Ym u0 hl2 u0,C' rfl,ea hi];split
  ·unfold KN;rw[ea u0,C' rfl]
  ·rfl
 have es:∀i d:Int,0<=i->0<=d->Qa (GQ W c n g) i d=if g=i/\c=d then Gg W c n g else Qa W i d:=λi d hi hd=>by
  rw[<-UV (W:=W) (s:=Gg W c n g) u0 Qo c0 Qo hi hd];unfold Qa;show gi (gi (GQ W c n g).IE i).IH d=gi (gi (PJ W c n g).IE i).IH d;rw[eg i hi,ea hi]
  split <;> rfl
 have hT:QH W.IE (GQ W c n g).IE:=by
  have t1:=J5 (W:=W) (g:=g) (c:=c) (s:=Gg W c n g) u0 Qo;have t2:=XZ (W:=PJ W c n g) (g:=g) (x:=KN W c n g) u0 (by show g<((PJ W c n g).IE.length:Int);rw[show (PJ W c n g).IE.length=W.IE.length from t1.len];omega) rfl rfl rfl;have t3:=XZ (W:=R3 (PJ W c n g) g (KN W c n g)) (g:=g) (x:={ gi (R3 (PJ W c n g) g (KN W c n g)).IE g with IL:=MZ W c n g }) u0 (by rw[t2.len,show (PJ W c n g).IE.length=W.IE.length from t1.len];omega) rfl rfl rfl;exact(t1.trans t2).trans t3
 have hB:(MZ W c n g).I'=(gi W.IE g).IL.I'/\Jq (MZ W c n g) c=Jq (gi W.IE g).IL c/\((gi W.IE g).IL.I'=0->MZ W c n g=(gi W.IE g).IL)/\((gi W.IE g).IL.I'≠0->P2 (MZ W c n g)/\(MZ W c n g).locals.length=W.IF.length):=by
  unfold MZ;split
  ·rename_i hq;obtain⟨hb,vI,_⟩:=hg.IL Qo;obtain⟨a,b,d,e⟩:=zt2 hb (n:=n) c0 Qo;exact⟨d,e,λh=>by omega,λ_=>⟨a,by rw[b];exact vI⟩⟩
  ·rename_i hq;refine⟨rfl,rfl,λ_=>rfl,λh=>?_⟩;obtain⟨hb,vI,_⟩:=hg.IL h;exact⟨hb,vI⟩
 have hrg:=rb.g g hu
 have hW:WA (GQ W c n g):=by
  have hl:=sw.a;refine⟨hl.n1,hl.n2,hl.c1,hl.c2,hl.t,hT.tree hl.tree,hl.ups,λk k0 k1=>?_⟩;unfold Kn;rw[eg k k0];split
  ·rename_i e;subst e;refine⟨λh=>?_,λ_=>⟨hg.w1,hg.w2,hg.m,hg.m0,Xj.2 ⟨by show 0<=(gi W.IE g).sum+n;omega,by show (gi W.IE g).sum+n<=_;omega⟩,by show (List.set _ _ _).length=_;rw[E'];exact hg.len,λh=>⟨(hg.root h).1,(hg.root h).2.1,by show (MZ W c n g).I'=0;rw[hB.1];exact(hg.root h).2.2⟩,λh=>?_,λh=>?_⟩⟩
   ·have h:(gi W.IE g).IV=false:=h;rw[(Q2.1 hu).2.2] at h;cases h
   ·have h:(MZ W c n g).I'=0:=h;rw[hB.1] at h;have:=hg.none h;exact⟨by show ON (MZ W c n g)=true;rw[hB.2.2.1 h];exact this.1,this.2⟩
   ·have h:(MZ W c n g).I'≠0:=h;rw[hB.1] at h;obtain⟨_,_,hp⟩:=hg.IL h;exact⟨(hB.2.2.2 h).1,(hB.2.2.2 h).2,hp⟩
  ·have:=hl.grp k k0 k1;exact⟨this.1,λhu=>by have:=this.2 hu;exact⟨this.w1,this.w2,this.m,this.m0,this.s,this.len,this.root,this.none,this.IL⟩⟩
 refine⟨⟨hW,λt a b m=>?_,λt a b=>?_,λk d u a b=>?_,sw.cu⟩,⟨rb.n,λt a b=>?_,λk d u a b=>?_,λk u=>?_,λd a b=>?_⟩,rfl,rfl,rfl,hT,λi hi=>?_⟩
 ·rw[hT.aO];exact sw.t t a b m
 ·have:=sw.tv t a b;exact⟨this.1,by show (Q8 W t).v<=_;omega⟩
 ·rw[hT.aO] at u;have hk:=(Q2.1 u).1;have h:=sw.s k d u a b;rw[es k d hk a];split
  ·refine⟨hsr.1,by show (Qa W g c).IM<=_;omega,?_,?_,hsr.2.2.2.2.1,hsr.2.2.2.2.2⟩
   ·show 0<=if g≠0 then (Qa W g c).v+QS n (Qa W g c).w else (Qa W g c).v
    split <;> omega
   ·show (if g≠0 then (Qa W g c).v+QS n (Qa W g c).w else (Qa W g c).v)<=_
    split <;> omega
  ·exact⟨h.1,Qo,h.2.2.1,Qo,h.2.2.2.2.1,h.2.2.2.2.2⟩
 ·have:=rb.t t a b;exact⟨this.1,by show (Q8 W t).sum<=_;omega,this.2.2.1,by show (Q8 W t).IV<=_;omega⟩
 ·rw[hT.aO] at u;have hk:=(Q2.1 u).1;have h:=rb.s k d u a b;rw[es k d hk a];split
  ·have h2:=rb.s g c hu c0 c1;exact⟨by show 0<=(Qa W g c).sum+n;omega,by show (Qa W g c).sum+n<=_;omega⟩
  ·exact⟨h.1,Qo⟩
 ·rw[hT.aO] at u;have h:=rb.g k u;rw[eg k (Q2.1 u).1];split
  ·exact⟨by show 0<=(gi W.IE g).sum+n;omega,by show (gi W.IE g).sum+n<=_;omega⟩
  ·exact⟨h.1,Qo⟩
 ·have:=rb.c d a b;exact⟨this.1,by show (gi W.IF d).busy<=_;omega,this.2.2.1,this.2.2.2.1,this.2.2.2.2⟩
 ·rw[eg i hi];split
  ·rename_i e;subst e;exact hB.2.1
  ·rfl
def RB.mono{S S':Int}{W:Q7}(h:RB S W)(k:S<=S'):RB S' W:=
 ⟨h.n,λt a b=>by have:=h.t t a b;omega,λk c u a b=>by have:=h.s k c u a b;omega,λk u=>by have:=h.g k u;omega,λc a b=>by have:=h.c c a b;omega⟩
def RB.RO{S:Int}{W:Q7}(h:RB S W){c:Int}(c0:0<=c)(c1:c<(W.IF.length:Int)){x:PP}(hx:0<=x.busy/\x.busy<=S/\0<=x.idle/\x.idle<=50000000000000000/\0<=x.SX/\x.SX<=149):RB S (RO W c x):=by
 have hl:(W.IF.set c.toNat x).length=W.IF.length:=E';refine⟨h.n,h.t,λk d u a b=>?_,h.g,λd a b=>?_⟩
 ·have b:d<(((W.IF.set c.toNat x).length:Nat):Int):=b;rw[hl] at b;exact h.s k d u a b
 ·have b:d<(((W.IF.set c.toNat x).length:Nat):Int):=b;rw[hl] at b;show _<=(gi (W.IF.set c.toNat x) d).busy/\(gi (W.IF.set c.toNat x) d).busy<=_/\_<=(gi (W.IF.set c.toNat x) d).idle/\(gi (W.IF.set c.toNat x) d).idle<=_/\_<=(gi (W.IF.set c.toNat x) d).SX/\(gi (W.IF.set c.toNat x) d).SX<=_;rw[Qx _ _ c0 c1 a];split
  ·exact hx
  ·exact h.c d a b
def RB.J'{S:Int}{W:Q7}(h:RB S W)(hl:W.IJ.length=12){t:Int}(t0:0<=t)(t1:t<12){x:PS}(hx:0<=x.sum/\x.sum<=S/\0<=x.IV/\x.IV<=S):RB S (J' W t x):=by
 refine⟨h.n,λu a b=>?_,h.s,h.g,h.c⟩;show _<=(gi (W.IJ.set t.toNat x) u).sum/\(gi (W.IJ.set t.toNat x) u).sum<=_/\_<=(gi (W.IJ.set t.toNat x) u).IV/\(gi (W.IJ.set t.toNat x) u).IV<=_;rw[Qx _ _ t0 Qo a];split
 ·exact hx
 ·exact h.t u a b
def zv8.trans{K S K' S' c n:Int}{A B C:Q7}(h:zv8 K S c n A B)(k:zv8 K' S' c n B C):zv8 K' S' c n A C:=
 ⟨k.sw,k.rb,k.now.trans h.now,k.t.trans h.t,k.cp.trans h.cp,h.g.trans k.g,λi hi=>(k.p i hi).trans (h.p i hi)⟩
def zxb{c n:Int}(c0:0<=c)(n0:0<=n)(n1:n<=100):∀(l:List Int) {K S:Int} {W:Q7},SW K W->RB S W->S+100*(l.length:Int)<=100000000000000000->c<(W.IF.length:Int)->(∀g∈l,Q6 W.IE g)->
  zv8 (K+Qh*(l.length:Int)) (S+100*(l.length:Int)) c n W (DD c n l W)
 |[],K,S,W,sw,rb,_,_,_=>⟨sw.mono Qs,rb.mono Qs,rfl,rfl,rfl,QH.refl _,λ_ _=>rfl⟩
 |g::l,K,S,W,sw,rb,hS,c1,hu=>by
  rw[List.length_cons] at hS ⊢;have h1:=zku sw rb Qo c0 c1 (hu g I9) n0 n1;have h2:=zxb c0 n0 n1 l (W:=GQ W c n g) h1.sw (h1.rb.mono (show S+n<=S+100 by omega)) Qo (by rw[h1.cp];exact c1) λx hx=>by rw[h1.g.aO];exact hu x (I1 _ hx)
  have h3:=h1.trans h2;exact⟨h3.sw.mono (by simp only[Qh];omega),h3.rb.mono Qo,h3.now,h3.t,h3.cp,h3.g,h3.p⟩
def z2n{W W':Q7}{c:Int}(h:∀i:Int,0<=i->Jq (gi W'.IE i).IL c=Jq (gi W.IE i).IL c):GF W' c=GF W c:=
 Nat.le_antisymm (HV (λk _=>Nat.le_of_eq (h k Qo)) 8 (I7 _)) (HV (λk _=>Nat.le_of_eq (h k Qo).symm) 8 (I7 _))
def HY{W:Q7}(ha:WA W){t:Int}(hu:Q6 W.IE (Q8 W t).II):(∀g∈QV W t,Q6 W.IE g)/\(QV W t).length<=4:=by
 refine⟨λg hg=>?_,?_⟩
 ·rcases Im.1 hg with h|h
  ·exact(Yv ha.tree _ hu g h).1
  ·rw[IA.1 h];exact ha.root
 ·have:=zfa W.IE 3 (Q8 W t).II;unfold QV;rw[Io];show (UZ 3 W.IE (Q8 W t).II).length+1<=4;omega
def Bl{W W':Q7}(ht:W'.IJ=W.IJ)(hT:QH W.IE W'.IE)(t:Int):QV W' t=QV W t:=by
 unfold QV;rw[YE ht,Jc hT]
def EH(f:Nat):Int:=Ql+(400-(f:Int))*346860914400
def Dy(f:Nat):Int:=Ql+(400-(f:Int))*500
structure Md (f:Nat) (c:Int) (W0 W:Q7) (left:Int):Prop where
 sw:SW (EH f) W
 rb:RB (Dy f) W
 dm:Dm W c
 c0:0<=c
 c1:c<(W.IF.length:Int)
 up:(gi W.IF c).up=true
 now:W.now=W0.now
 len:W.IF.length=W0.IF.length
 l0:0<=left
 l1:left<=100
 f1:left+GF W c<(f:Int)
 f2:f<=400
def M3{f:Nat}(h:f<=400):Ql<=EH f/\EH f<=50200000000000000:=by
 unfold EH Ql;omega
def Bn{f:Nat}(h:f<=400):Ql<=Dy f/\Dy f<=50000000000200000:=by
 unfold Dy Ql;omega
def zrd{W:Q7}(wp:XQ W)(r:Ge W){c n:Int}(c0:0<=c)(c1:c<(W.IF.length:Int))(up:(gi W.IF c).up)(n0:0<=n)(n1:n<=100):Md 400 c W W n:=by
 have hp:=z2o W c;exact⟨(MS wp r).mono (by unfold EH;omega),(z6t wp r).mono (by unfold Dy;omega),zxj wp c0 c1,c0,c1,up,rfl,rfl,n0,n1,Qo,I7 _⟩
def Ki{K S:Int}{c t:Int}{W:Q7}(sw:SW K W)(rb:RB S W)(c0:0<=c)(c1:c<(W.IF.length:Int))(up:(gi W.IF c).up)(t0:0<=t)(t1:t<12) :
  SW K (ZX W c t)/\RB S (ZX W c t)/\(gi (ZX W c t).IF c).up/\(gi (ZX W c t).IF c).SX<50/\(gi (ZX W c t).IF c).cur=t/\(ZX W c t).IF.length=W.IF.length:=by
 have e:gi (ZX W c t).IF c=Yf W c t:=(Qx _ _ c0 c1 c0).trans (C' rfl);have hl:(ZX W c t).IF.length=W.IF.length:=E';have hup:(Yf W c t).up:=by unfold Yf;split <;> exact up
 have hr:=rb.c c c0 c1;have vY:=sw.cu c c0 c1;refine⟨sw.RO c0 c1 (EQ (c:=c) (by rw[E'];exact sw.a.c2) c0 (by rw[E'];exact c1) (by rw[show gi (W.IF.set c.toNat (Yf W c t)) c=_ from e];exact hup)) ?_ ?_,rb.RO c0 c1 ?_,by rw[e];exact hup,?_,?_,hl⟩
 ·unfold Yf;split
  ·show -1<=t;omega
  ·exact vY.1
 ·unfold Yf;split
  ·exact t1
  ·exact vY.2
 ·unfold Yf;split
  ·exact⟨hr.1,hr.2.1,hr.2.2.1,hr.2.2.2.1,by show (0:Int)<=0;decide,by show (0:Int)<=149;decide⟩
  ·exact hr
 ·rw[e];unfold Yf;split
  ·show (0:Int)<50;decide
  ·omega
 ·rw[e];unfold Yf;split
  ·rfl
  ·rename_i h;exact Iq λhn=>h (.inl λe=>hn e.symm)
structure z7e (f:Nat) (c:Int) (W0 W:Q7) (left:Int):Prop where
 line:zr1 W (Qe W c) c
 us:Q6 W.IE (Q8 W (Qe W c)).II=true
 pin:∀g∈QV W (Qe W c),Q6 W.IE g=true
 len:(QV W (Qe W c)).length<=4
 s1:SW (EH (f+1)) (ZX W c (Qe W c))
 r1:RB (Dy (f+1)) (ZX W c (Qe W c))
 SX:(gi (ZX W c (Qe W c)).IF c).SX<50
 tk:zwj (EH (f+1)) c (ZX W c (Qe W c)) (Zl W c).1
 dr:∀g∈QV W (Qe W c),(gi (ZX W c (Qe W c)).IE g).IL.I'≠0->gi (gi (ZX W c (Qe W c)).IE g).IL.Ry c=false
 m:(Zl W c).2->1<=ZV W c left/\ZV W c left<=left
 ch:(Zl W c).2->SW (EH (f+1)+5*Qh) (Ui (Zl W c).1 c (Qe W c) (ZV W c left))/\RB (Dy (f+1)+500) (Ui (Zl W c).1 c (Qe W c) (ZV W c left))
 nx:Md f c W0 (Uk W c left).1 (Uk W c left).2
 gt:QH W.IE (Uk W c left).1.IE
def Ee{K S c t n:Int}{W:Q7}(sw:SW K W)(rb:RB S W)(hS:S+500<=100000000000000000)(c0:0<=c)(c1:c<(W.IF.length:Int))(up:(gi W.IF c).up)(SX:(gi W.IF c).SX<50)(t0:0<=t)(t1:t<12)(hu:Q6 W.IE (Q8 W t).II)(n0:0<=n)(n1:n<=100) :
  SW (K+5*Qh) (Ui W c t n)/\RB (S+500) (Ui W c t n)/\GF (Ui W c t n) c=GF W c/\(Ui W c t n).now=W.now/\(Ui W c t n).IF.length=W.IF.length/\(gi (Ui W c t n).IF c).up/\SW (K+Qh) (J' W t (Tb W t n))/\RB (S+100) (J' W t (Tb W t n))/\zv8 (K+5*Qh) (S+500) c n (J' W t (Tb W t n)) (DD c n (QV W t) (J' W t (Tb W t n))):=by
 have hv:=Ma n (Qf (Q8 W t).nice) n0 n1;have hlg:0<=Qh:=Qd;have htv:=sw.tv t t0 t1;have htr:=rb.t t t0 t1;have hcr:=rb.c c c0 c1;obtain⟨hp1,dD⟩:=HY sw.a hu;have s1:SW (K+Qh) (J' W t (Tb W t n)):=(sw.mono (K':=K+Qh) Qo).J' t0 t1 (x:=Tb W t n) (λh=>sw.t t t0 t1 h) (by show 0<=(Q8 W t).v+QS n (Qf (Q8 W t).nice);omega) (by show (Q8 W t).v+QS n (Qf (Q8 W t).nice)<=_;omega);have r1:RB (S+100) (J' W t (Tb W t n)):=(rb.mono (S':=S+100) Qo).J' sw.a.t t0 t1 (x:=Tb W t n) ⟨by show 0<=(Q8 W t).sum+n;omega,by show (Q8 W t).sum+n<=_;omega,by show 0<=(Q8 W t).IV+n;omega,by show (Q8 W t).IV+n<=_;omega⟩;have h0:=zxb c0 n0 n1 (QV W t) s1 r1 Qo c1 hp1;have h2:zv8 (K+5*Qh) (S+500) c n (J' W t (Tb W t n)) (DD c n (QV W t) (J' W t (Tb W t n))):=⟨h0.sw.mono (by simp only[Qh];omega),h0.rb.mono Qo,h0.now,h0.t,h0.cp,h0.g,h0.p⟩;have kH:(DD c n (QV W t) (J' W t (Tb W t n))).IF=W.IF:=h2.cp
 have e:gi (Ui W c t n).IF c=Fp W c n:=by
  show gi ((DD c n (QV W t) (J' W t (Tb W t n))).IF.set c.toNat (Fp W c n)) c=_;rw[kH];exact(Qx _ _ c0 c1 c0).trans (C' rfl)
 have hlen:(Ui W c t n).IF.length=W.IF.length:=by
  show ((DD c n (QV W t) (J' W t (Tb W t n))).IF.set c.toNat (Fp W c n)).length=_;rw[E',kH]
 have vY:=sw.cu c c0 c1;refine⟨h2.sw.RO c0 (by rw[kH];exact c1) (x:=Fp W c n) (EQ (c:=c) ?_ c0 ?_ ?_) vY.1 vY.2,h2.rb.RO c0 (by rw[kH];exact c1) (x:=Fp W c n) ⟨by show 0<=(gi W.IF c).busy+n;omega,by show (gi W.IF c).busy+n<=_;omega,hcr.2.2.1,hcr.2.2.2.1,by show 0<=(gi W.IF c).SX+n;omega,by show (gi W.IF c).SX+n<=149;omega⟩,z2n (W':=Ui W c t n) h2.p,h2.now,hlen,by rw[e];exact up,s1,r1,h2⟩
 ·rw[E',kH];exact sw.a.c2
 ·rw[E',kH];exact c1
 ·rw[show gi ((DD c n (QV W t) (J' W t (Tb W t n))).IF.set c.toNat (Fp W c n)) c=_ from e];exact up
def zfk{K S c:Int}{W:Q7}(sw:SW K W)(rb:RB S W)(hK:0<=K)(c0:0<=c)(c1:c<(W.IF.length:Int))(up:(gi W.IF c).up) :
  SW (K+UW) (Qb W)/\RB S (Qb W)/\Dm (Qb W) c/\(gi (Qb W).IF c).up/\(Qb W).now=W.now/\(Qb W).IF.length=W.IF.length/\GF (Qb W) c<=GF W c:=by
 obtain⟨s,f⟩:=JF sw hK;have su:=zft W;exact⟨s,rb.sum su f.g f.c,zjy sw hK c0 c1,by rw[su.u];exact up,f.n,f.c,zq1 sw hK c⟩
def TO{f:Nat}{c left:Int}{W0 W:Q7}(h:Md (f+1) c W0 W left)(hl:0<left)(hp:¬Qe W c<0):z7e f c W0 W left:=by
 have hf:=h.f2;have hh0:(0:Int)<=Ql:=Qd;have hK:=M3 (f:=f+1) hf;have hS:=Bn (f:=f+1) hf;have c0:=h.c0;have c1:=h.c1;have eK:EH f=EH (f+1)+346860914400:=by unfold EH;omega
 have eS:Dy f=Dy (f+1)+500:=by unfold Dy;omega
 have kK:=zvi h.sw.a (h.sw.cu c c0 c1).2 h.dm.cu hp;have hM:ZV W c left=J8 (Zl W c).1 c (QV W (Qe W c)) left:=rfl;have hT:Zl W c=DW c (QV W (Qe W c)) (ZX W c (Qe W c)):=rfl;have hR:Uk W c left=if (Zl W c).2=true then (Qb (Ui (Zl W c).1 c (Qe W c) (ZV W c left)),left-ZV W c left) else (Qb (Rc (Zl W c).1 c),left):=rfl;have t0:=kK.t0;have t1:=kK.t1;obtain⟨us,_,_⟩:=h.sw.t _ t0 t1 (by rw[kK.st];decide);obtain⟨pin,Bt2⟩:=HY h.sw.a us;obtain⟨s1,r1,u1,B37,cu1,l1⟩:=Ki h.sw h.rb c0 c1 h.up t0 t1
 have hdr:∀g∈QV W (Qe W c),(gi (ZX W c (Qe W c)).IE g).IL.I'≠0->gi (gi (ZX W c (Qe W c)).IE g).IL.Ry c=false:=λg hg hq=>by
  have hq:(gi W.IE g).IL.I'≠0:=hq;show gi (gi W.IE g).IL.Ry c=false;have tI:=pin g hg;obtain⟨u0,u8,kJ⟩:=h.sw.a.u tI;rcases Im.1 hg with hg|hg
  ·have hon:=kK.on g hg;have hz:=(Yv h.sw.a.tree _ us g hg).2;have:=h.dm.on g tI hz;unfold aK at this;rw[hon] at this
   have hd:Xu W g c=false:=by
    cases hd:Xu W g c with
    |false=>rfl
    |true=>rw[hd] at this;simp at this
   unfold Xu at hd;have:=(kJ.IL hq).1.q1;rw[Ih Qo,Bool.true_and] at hd;exact hd
  ·rw[IA.1 hg] at hq kJ;exact Ir (kJ.root rfl).2.2 hq
 obtain⟨tk,tl,tf⟩:=zrp c0 (QV W (Qe W c)) s1 (by rw[l1];exact c1) pin hdr;rw[<-hT] at tk tl tf;have eT:(Zl W c).1.IJ=W.IJ:=tk.o.t;have eC:(Zl W c).1.IF=(ZX W c (Qe W c)).IF:=tk.o.c;have eG:QH W.IE (Zl W c).1.IE:=tk.o.g;have lT:(Zl W c).1.IF.length=W.IF.length:=by rw[eC,l1]
 have rT:RB (Dy (f+1)) (Zl W c).1:=r1.sum tk.su tk.o.g (by rw[eC]);have uT:Q6 (Zl W c).1.IE (Q8 (Zl W c).1 (Qe W c)).II:=by rw[eG.aO,YE eT];exact us
 have pT:QV (Zl W c).1 (Qe W c)=QV W (Qe W c):=Bl eT eG _;have upT:(gi (Zl W c).1.IF c).up:=by rw[eC];exact u1
 have AN3:(gi (Zl W c).1.IF c).SX<50:=by rw[eC];exact B37
 have phT:GF (Zl W c).1 c<=GF W c:=HV (λk _=>tk.p (k:Int) Qo) 8 (I7 _)
 have hm:(Zl W c).2->1<=ZV W c left/\ZV W c left<=left:=λht=>by
  refine zjg _ left Qo λg hg hq=>?_
  have g0:=(Q2.1 (pin g hg)).1;rw[tk.q g g0] at hq;exact tl ht g hg Qo
 have uG:=h.l1;have hch:(Zl W c).2->_:=λht=>Ee (t:=Qe W c) (n:=ZV W c left) tk.sw rT Qo c0 (by rw[lT];exact c1) upT AN3 t0 t1 uT (by have:=hm ht;omega) (by have:=hm ht;omega)
 refine⟨kK,us,pin,Bt2,s1,r1,B37,tk,hdr,hm,λht=>⟨(hch ht).1,(hch ht).2.1⟩,?_,?_⟩
 rotate_left
 ·rw[hR]
  by_cases ht:(Zl W c).2=true
  ·rw[C' ht];have a:=(hch ht).1;have g1:QH (Zl W c).1.IE (Ui (Zl W c).1 c (Qe W c) (ZV W c left)).IE:=(hch ht).2.2.2.2.2.2.2.2.g;exact(eG.trans g1).trans (JF a (by simp only[Qh];omega)).2.g
  ·rw[B' ht];have g1:QH (Zl W c).1.IE (Rc (Zl W c).1 c).IE:=QH.refl _;exact(eG.trans g1).trans (JF (tk.sw.Rc c0 (by rw[lT];exact c1)) Qo).2.g
 rw[hR];have hf1:=h.f1
 by_cases ht:(Zl W c).2=true
 ·rw[C' ht];obtain⟨a,b,d,e1,e2,e3,_⟩:=hch ht;obtain⟨b1,b2,b3,b4,b5,b6,b7⟩:=zfk a b (by simp only[Qh];omega) c0 (by rw[e2,lT];exact c1) e3;have hm:=hm ht
  exact⟨b1.mono (by simp only[Qh,UW];omega),b2.mono Qo,b3,c0,by rw[b6,e2,lT];exact c1,b4,by rw[b5,e1,tk.o.n];exact h.now,by rw[b6,e2,lT];exact h.len,by show 0<=left-ZV W c left;omega,by show left-ZV W c left<=100;omega,by
   rw[d] at b7;show left-ZV W c left+((GF (Qb (Ui (Zl W c).1 c (Qe W c) (ZV W c left))) c:Nat):Int)<_;omega,Qo⟩
 ·rw[B' ht];have ht:(Zl W c).2=false:=by simpa using ht
  obtain⟨g,hg,IW⟩:=tf ht;have g0:=Q2.1 (pin g hg);have bU:=h.sw.a.gl
  have hp1:GF (Zl W c).1 c<GF W c:=by
   refine zs6 (λk _=>tk.p (k:Int) Qo) (j:=g.toNat) ?_ 8 Qo (I7 _);rw[show ((g.toNat:Nat):Int)=g by omega];exact IW
  have ce:c<((Zl W c).1.IF.length:Int):=by rw[lT];exact c1
  have sE:=tk.sw.Rc c0 ce;have eE:gi (Rc (Zl W c).1 c).IF c=XA (gi (Zl W c).1.IF c):=(Qx _ _ c0 ce c0).trans (C' rfl);have lE:(Rc (Zl W c).1 c).IF.length=(Zl W c).1.IF.length:=E';obtain⟨b1,b2,b3,b4,b5,b6,b7⟩:=zfk sE (rT.sum (D3 _ c) (QH.refl _) lE) Qo c0 (by rw[lE];exact ce) (by rw[eE];exact upT)
  exact⟨b1.mono (by simp only[Qh,UW];omega),b2.mono Qo,b3,c0,by rw[b6,lE];exact ce,b4,by rw[b5];show (Zl W c).1.now=_;rw[tk.o.n];exact h.now,by rw[b6,lE,lT];exact h.len,h.l0,h.l1,by
   have b7:GF (Qb (Rc (Zl W c).1 c)) c<=GF (Zl W c).1 c:=b7;show left+((GF (Qb (Rc (Zl W c).1 c)) c:Nat):Int)<_;omega,Qo⟩
def zw1{b:Um}{c:Int}(c0:0<=c)(c1:c<(b.locals.length:Int)):ZP b ⟨1,c,0⟩=ZL b c:=by
 unfold ZP;rw[B' (show ¬(1:Int)=4 by decide),B' (by rw[Qu.2 (by show 0<=c/\c<=_;omega)];decide),C' rfl]
def zle{α:Type}[Inhabited α]{l:List α}{k:Nat}(h:k<l.length):l.drop k=gi l (k:Int)::l.drop (k+1):=by
 rw[List.drop_eq_getElem_cons h]
 congr 1
 unfold gi;rw[Ig,List.getD_eq_getElem?_getD,Il h];rfl
def zlf{α:Type}[Inhabited α]{l:List α}{k:Nat}(h:k<l.length):gi l (k:Int)∈l:=by
 have:=List.getElem_mem h;unfold gi;rw[Ig,List.getD_eq_getElem?_getD,Il h];exact this
def Bx{c g:Int}{l:List Int}{W:Q7}:DW c (g::l) W=if (K5 W c g).2=true then DW c l (K5 W c g).1 else ((K5 W c g).1,false):=rfl
section
variable {base:Nat}{W:Q7}{m:MW}{w:Wo}
def ML{pb n:Nat}{l:List Int}{pO:OA}{pC:Nat}{w2:Wo}{bs:List Nat}{V:Q7}{m2:MW}(hp:UD U2 1 Qg pb w pO pC l)(hpn:∀x∈QL pO,x∉QM n m)(hM:Mv n base bs w m w2 V m2):UD U2 1 Qg pb w2 pO pC l/\zm3 bs w2 pO l:=by
 have h:=hp.ext hM.ext hpn
 exact⟨h,h.rd Xe.len λx hx hm=>by
  have:=(hp.lt x hx).2;have:=hM.new x hm;omega⟩
def Mv.put{n:Nat}{bs:List Nat}{w0 w w':Wo}{m0:MW}{b:Nat}(h:Mv n base bs w0 m0 w W m)(hx:Q0 bs w w')(hb:w.heap.size<=b):Mv n base (bs++[b]) w0 m0 w' W m:=(h.add hb).step (hx.mono λx hm=>Ia _ hm)
def zhr{K c:Int}{l:List Int}{pO:OA}{pC pb:Nat}(h:Zp 8 base w W m)(sw:SW K W)(tE:base<=w.heap.size)(hp:UD U2 1 Qg pb w pO pC l)(hpn:∀x∈QL pO,x∉QM 8 m)(hl4:l.length<=4)(c0:0<=c)(c1:c<(W.IF.length:Int))(hu:∀g∈l,Q6 W.IE g)(hd:∀g∈l,(gi W.IE g).IL.I'≠0->gi (gi W.IE g).IL.Ry c=false) :
  Cz Mx #[.agg (Qc W m).toArray,.slice pO l.length pC,I c] w λe w'=>∃m',e=.returned (.tuple #[.agg (Qc W m).toArray,.bool (DW c l W).2])/\Mv 8 base [] w m w' (DW c l W).1 m':=by
 refine(zg7 _ _ _ _ _ _ _ _ _ _ pO l.length pC c (R:=λv w'=>∃m',v=.tuple #[.agg (Qc W m).toArray,.bool (DW c l W).2]/\Mv 8 base [] w m w' (DW c l W).1 m') ?_).mono λe w' ⟨v,he,m',hv,h3⟩=>⟨m',by rw[he,hv],h3⟩
 intro x hx x1 S9;have bU:=sw.a.gl;have Aw8:=YM hx S9
 refine⟨λvs w2=>∃(k:Nat) (r:List Va) (V:Q7) (m2:MW),vs=I (k:Int)::r/\k<=l.length/\Mv 8 base [x,x1] w m w2 V m2/\DW c l W=DW c (l.drop k) V/\SW K V/\UY W V/\∀g∈l.drop k,(gi V.IE g).IL.I'≠0->gi (gi V.IE g).IL.Ry c=false,
  ZG l.length 0,λwr Rl _=>⟨0,_,W,m,rfl,Ic _,(Mv.two h hx S9).R7 Rl,rfl,sw,UY.refl _,hd⟩,?_⟩
 rintro i1 ll S8 Si Sp Se Sk Sn Sf Sg Sh w2 V' ⟨k,r,V,m2,he,hk,Wz,hE,swV,oV,hdV⟩;simp only[I4,I5,true_and] at he;obtain⟨rfl,_⟩:=he;have hmg:m2.gO=m.gO:=by rw[Wz.hd]
 have hr:=Wz.rd;have B13:V.IE.length=8:=swV.a.gl;obtain⟨_,hpr⟩:=ML hp hpn Wz;refine⟨λIW=>?_,λRM=>?_⟩
 ·have CX8:=Ot IW;have IW:k<l.length:=Qo;have hdr:=zle IW;have kJ:=hu _ (zlf IW);rw[hdr] at hE hdV;have tI:Q6 V.IE (gi l (k:Int)):=by rw[oV.g.aO];exact kJ
  have pG:=hpr (k:Int) Qo Qo;have AG9:=hpr.ix XU (i:=(k:Int)) Qo Qo;have hdk:=hdV _ I9;generalize sU:gi l (k:Int)=g at hE hdV tI pG hdk kJ hdr;obtain⟨u0,u1,hgg⟩:=swV.a.u tI;have Rh:g<(V.IE.length:Int):=Qo;have Wn:Ix m.gO W.IE.length g:=by have:=hr.g.ix (i:=g) u0 Rh;rwa[B13,<-bU,hmg] at this
  have BK1:=hr.g.cells g u0 Rh;rw[hmg] at BK1;refine⟨AG9,g,pG,Wn,_,_,_,_,_,_,_,_,_,_,_,_,_,_,_,_,_,_,_,_,BK1,λb4 hb4=>⟨BK1,pG,rfl,λg1=>?_,λg1=>?_⟩⟩
  ·have g1:(gi V.IE g).IL.I'=0:=by simpa using g1
   have hT:K5 V c g=(V,true):=by unfold K5;rw[C' g1]
   rw[Bx,hT,C' rfl] at hE;exact⟨⟨Qo,Qo⟩,λwr Rl _=>⟨⟨k+1,_,V,m2,by simp;rfl,Qo,Wz.step Rl,hE,swV,oV,λy hy=>hdV y (I1 _ hy)⟩,Zo (k:=k) rfl rfl IW⟩⟩
  ·have g1:(gi V.IE g).IL.I'≠0:=by simpa using g1
   obtain⟨hb,vI,_⟩:=hgg.IL g1;have Ab3:c<(V.IF.length:Int):=by rw[oV.c];exact c1
   have qT:c<((gi V.IE g).IL.locals.length:Int):=Qo;intro RD Rl dT;have cM:=Wz.put Rl hb4;have hr4:=cM.rd0;refine I3 (Vh (op:=⟨1,c,0⟩) hb (hr4.g.locals g u0 Rh) (hr4.g.Ry g u0 Rh)) ?_;rintro e RI ⟨p,he,hO,hy⟩;rw[zw1 c0 qT] at he hO;have nM:=cM.R7 hy;have hbs:base<=RD.heap.size:=by have:=cM.ext.size;omega
   have hOb:∀y∈YK p,RD.heap.size<=y:=λy hy=>(hO.lt y hy).1
   have BK0:=nM.own.B36 (i:=g) u0 Qo (hO.mono hbs) (λy hy hm=>by have:=hOb y hy;have:=(cM.own.lt y hm).2;omega);have vE:=zrw nM.own nM.nb (i:=g) u0 Qo (j:=8) (k:=5) Qd;have sI:=cM.ext.size
   have jX:=nM.swap BK0 Ag rfl λy hy=>by
    rcases OQ y hy with h1|h1
    ·exact .inl h1
    ·rcases OO y h1 with h2|h2
     ·have:=hOb y h2;exact .inr ⟨Qo,λhm=>by have:=dT y hm;omega⟩
     ·exact .inl (UB Qo h2)
   rw[hmg] at vE;have hgO:m2.gO=m.gO:=hmg;rw[hgO] at jX;obtain⟨_,C08⟩:=ML hp hpn nM;have CZ3:=C08 (k:Int) Qo Qo;rw[sU] at CZ3;have hTk:K5 V c g=(RF V g (ZL (gi V.IE g).IL c).1,decide ((ZL (gi V.IE g).IL c).2≠2)):=by unfold K5;rw[B' g1]
   obtain⟨tk,t2,_⟩:=zmr swV c0 Ab3 tI hdk;rw[Bx] at hE;refine⟨_,_,_,_,_,_,_,_,_,_,he,Qi hy dT,λb5 hb5=>⟨AG9,g,CZ3,Wn,vE,λg2 Sj bE=>?_,λg2=>⟨⟨Qo,Qo⟩,λSj bE hs6=>⟨⟨k+1,_,RF V g (ZL (gi V.IE g).IL c).1,_,by simp;rfl,Qo,(jX.step bE).BO0 Qs,?_,?_,?_,λy hy hq=>?_⟩,Zo (k:=k) rfl rfl IW⟩⟩⟩⟩
   ·have g2:(ZL (gi V.IE g).IL c).2=2:=by simpa using g2
    have:(K5 V c g).2=false:=by rw[hTk];simp[g2]
    rw[hE,this,B' Qd,hTk];exact⟨_,rfl,(jX.step bE).close⟩
   all_goals
    have g2:(ZL (gi V.IE g).IL c).2≠2:=by simpa using g2
    have ht2:(K5 V c g).2:=by rw[hTk];simp[g2]
    have hT1:(K5 V c g).1=RF V g (ZL (gi V.IE g).IL c).1:=by rw[hTk]
   ·rw[hE,C' ht2,hT1]
   ·rw[<-hT1];exact tk.sw
   ·rw[<-hT1];exact oV.trans tk.o
   ·have y0:=(Q2.1 (hu y (List.mem_of_mem_drop hy))).1;rw[<-hT1] at hq ⊢;rw[tk.q y y0] at hq;exact(t2 ht2).2 y y0 (hdV y (I1 _ hy)) hq
 ·have RM:=Ou RM;have uF:k=l.length:=Qo;subst uF;rw[List.drop_length] at hE;rw[hE];exact λw3 Rl=>⟨m2,rfl,(Wz.step Rl).close⟩
def zho{c n:Int}{l:List Int}{pO:OA}{pC:Nat}{bs:List Nat}(h:XV bs w W m)(ha:WA W)(hp:zm3 bs w pO l)(hl4:l.length<=4)(c0:0<=c)(c1:c<(W.IF.length:Int))(hu:∀g∈l,Q6 W.IE g) :
  PX bs Mu #[.agg (Qc W m).toArray,.slice pO l.length pC,I c,I n] w (I (J8 W c l n)):=
 zif _ _ _ _ _ _ _ _ _ _ pO l.length pC c n λwr hx=>by
  have h:=(h.ext hx).less (cs:=[]) Qs;have hp:=(hp.ext hx).less (cs:=[]) Qs;intro _ _;refine Pc l.length 0 rfl (λy k=>k<=l.length/\J8 W c l n=J8 W c (l.drop k) y) ⟨Ic _,rfl⟩ λy k ⟨hk,hy⟩=>⟨λIW=>?_,λRM=>?_⟩
  ·have CX8:=Ot IW;have IW:k<l.length:=Qo;have hdr:=zle IW;have kJ:=hu _ (zlf IW);rw[hdr] at hy;have pG:=hp (k:Int) Qo Qo;generalize gi l (k:Int)=g at hy pG kJ;obtain⟨u0,u1,hgg⟩:=ha.u kJ;have bU:=ha.gl;have hyy:J8 W c (g::l.drop (k+1)) y=J8 W c (l.drop (k+1)) (TM W c g y):=rfl;rw[hyy] at hy;refine⟨hp.ix XU (i:=(k:Int)) Qo Qo,g,pG,h.g.ix u0 Qo,_,_,_,_,_,_,_,_,_,h.g.IL u0 Qo,λb1 bY=>⟨h.g.IL u0 Qo,pG,rfl,λg1=>?_,λg1=>?_⟩⟩
   ·have g1:=Ot g1;obtain⟨hb,vI,_⟩:=hgg.IL Qo;have hLo:=h.g.locals g u0 Qo;refine⟨hLo.ix XU c0 Qo,_,hLo c c0 Qo,_,JE,⟨Qo,Qo⟩,QN Qo ⟨Qo,?_⟩⟩;rw[hy];unfold TM;rw[C' g1]
   ·have g1:=Ou g1;refine⟨⟨Qo,Qo⟩,QN Qo ⟨Qo,?_⟩⟩;rw[hy];unfold TM;rw[B' g1]
  ·have RM:=Ou RM;have:k=l.length:=Qo;subst this;rw[List.drop_length] at hy;show I y=_;rw[hy];rfl
end
def zcs{c n g:Int}{l:List Int}{W:Q7}:DD c n (g::l) W=DD c n l (GQ W c n g):=rfl
def LD(W:Q7)(c n g:Int):(PJ W c n g).IE.length=W.IE.length:=by simp[PJ,RC,R3]
def zcq{W:Q7}{c n g:Int}(u0:0<=g)(u1:g<(W.IE.length:Int)):gi (PJ W c n g).IE g={ gi W.IE g with IH:=(gi W.IE g).IH.set c.toNat (Gg W c n g) }:=by
 unfold PJ RC;rw[Ym u0 u1 u0,C' rfl]
def zkv{W:Q7}{c n g:Int}(u0:0<=g)(u1:g<(W.IE.length:Int)):gi (R3 (PJ W c n g) g (KN W c n g)).IE g=KN W c n g:=by
 rw[Ym u0 (by rw[LD];exact u1) u0,C' rfl]
def Fq{W:Q7}{c n g:Int}(u0:0<=g)(u1:g<(W.IE.length:Int)):(KN W c n g).IL=(gi W.IE g).IL:=by
 unfold KN;rw[zcq u0 u1]
def zcr{W:Q7}{c n g:Int}(u0:0<=g)(u1:g<(W.IE.length:Int))(h:¬(gi W.IE g).IL.I'>0):GQ W c n g=R3 (PJ W c n g) g (KN W c n g):=by
 unfold GQ MZ;rw[B' h,<-Fq (c:=c) (n:=n) u0 u1];have:=zkv (c:=c) (n:=n) u0 u1
 conv=>lhs;arg 3;rw[<-this]
 exact G6 u0 (by simp only[R3,E'];rw[LD];exact u1)
section
variable {base:Nat}{W:Q7}{m:MW}{w:Wo}
def z9{K S t c n:Int}{pO:OA}{pC pb:Nat}(h:Zp 8 base w W m)(tE:base<=w.heap.size)(hp:UD U2 1 Qg pb w pO pC (QV W t))(hpn:∀x∈QL pO,x∉QM 8 m)(sw:SW K W)(rb:RB S W)(hK:0<=K/\K<=60000000000000000)(hS:0<=S/\S<=60000000000000000)(c0:0<=c)(c1:c<(W.IF.length:Int))(up:(gi W.IF c).up)(SX:(gi W.IF c).SX<50)(t0:0<=t)(t1:t<12)(hu:Q6 W.IE (Q8 W t).II)(n0:0<=n)(n1:n<=100) :
  Cz OJ #[.agg (Qc W m).toArray,I t,.slice pO (QV W t).length pC,I c,I n] w λe w'=>∃m',e=.returned (.agg (Qc (Qb (Ui W c t n)) m').toArray)/\Mv 8 base [] w m w' (Qb (Ui W c t n)) m':=by
 obtain⟨sE,rE,_,_,hlE,_,s1,r1,cp1⟩:=Ee sw rb Qo c0 c1 up SX t0 t1 hu n0 n1;obtain⟨pin,Bt2⟩:=HY sw.a hu;refine(CY _ _ _ _ _ _ _ _ _ _ t pO (QV W t).length pC c n (R:=λv w'=>∃m',v=.agg (Qc (Qb (Ui W c t n)) m').toArray/\Mv 8 base [] w m w' (Qb (Ui W c t n)) m') ?_).mono λe w' ⟨v,he,m',hv,h3⟩=>⟨m',by rw[he,hv],h3⟩
 intro x hx x1 S9;have bU:=sw.a.gl;have jF:=sw.a.t;have hlg:Qh=34686091440:=rfl;have bM:=h.rd (bs:=[]) Qs;have Wn:=bM.t.ix QT t0 Qo;have htv:=sw.tv t t0 t1;have htr:=rb.t t t0 t1;have hv:=Ma n (Qf (Q8 W t).nice) n0 n1;refine⟨Wn,_,_,_,_,_,_,_,_,_,bM.t t t0 Qo,λx2 Rk=>⟨_,Yc,_,XG,⟨?_,?_⟩,⟨?_,?_⟩,⟨?_,?_⟩,Wn,ztu h Qs t0 Qo (j:=0) Qd,?_⟩⟩
 ·show _<=(Q8 W t).v+QS n (Qf (Q8 W t).nice);omega
 ·show (Q8 W t).v+QS n (Qf (Q8 W t).nice)<=_;omega
 ·show _<=(Q8 W t).sum+n;omega
 ·show (Q8 W t).sum+n<=_;omega
 ·show _<=(Q8 W t).IV+n;omega
 ·show (Q8 W t).IV+n<=_;omega
 have eT:Zp 8 base (Rw w m.tO (Int.toNat t*9) (Xc (Tb W t n))) (J' W t (Tb W t n)) m:=h.AF3 t0 Qo (j:=0) (vs:=Xc (Tb W t n)) (x:=Tb W t n) (by simp[Xc]) (by simp[Xc]);have hM1:Mv 8 base [x,x1,x2] w m (Rw w m.tO (Int.toNat t*9) (Xc (Tb W t n))) (J' W t (Tb W t n)) m:=((Mv.two h hx S9).add Rk).Ss eT Hx
 refine⟨λvs w2=>∃(k:Nat) (V:Q7) (m2:MW),vs=[I (k:Int)]/\k<=(QV W t).length/\Mv 8 base [x,x1,x2] w m w2 V m2/\DD c n (QV W t) (J' W t (Tb W t n))=DD c n ((QV W t).drop k) V/\zv8 (K+Qh+Qh*(k:Int)) (S+100+100*(k:Int)) c n (J' W t (Tb W t n)) V,
  ZG (QV W t).length 0,λwr Rl _=>⟨0,_,m,rfl,Ic _,hM1.R7 Rl,rfl,⟨s1.mono Qs,r1.mono Qs,rfl,rfl,rfl,QH.refl _,λ_ _=>rfl⟩⟩,?_⟩
 rintro i1 w2 V' ⟨k,V,m2,he,hk,Wz,hE,hC⟩;simp only[I4,I5,true_and,and_true] at he;subst he;have hkk:0<=Qh*(k:Int)/\Qh*(k:Int)<=138744365760:=by simp only[Qh];omega
 have hk1:Qh*((k+1:Nat):Int)=Qh*(k:Int)+Qh:=by simp only[Qh];omega
 have hmg:m2.gO=m.gO:=by rw[Wz.hd]
 have hmc:m2.cO=m.cO:=by rw[Wz.hd]
 have hr:=Wz.rd;have B13:V.IE.length=8:=hC.sw.a.gl;have Ab3:V.IF.length=W.IF.length:=by rw[hC.cp];rfl
 obtain⟨_,hpr⟩:=ML hp hpn Wz;refine⟨λIW=>?_,λRM=>?_⟩
 ·have CX8:=Ot IW;have IW:k<(QV W t).length:=Qo;have hdr:=zle IW;have kJ:=pin _ (zlf IW);rw[hdr,zcs] at hE;have tI:Q6 V.IE (gi (QV W t) (k:Int)):=by rw[hC.g.aO];exact kJ
  have pG:=hpr (k:Int) Qo Qo;have AG9:=hpr.ix XU (i:=(k:Int)) Qo Qo;generalize sU:gi (QV W t) (k:Int)=g at hE tI pG kJ hdr;have vA:=hC.trans (zku hC.sw hC.rb Qo c0 (by rw[Ab3];exact c1) tI n0 n1);have hC3:zv8 (K+Qh+Qh*((k+1:Nat):Int)) (S+100+100*((k+1:Nat):Int)) c n (J' W t (Tb W t n)) (GQ V c n g):=⟨vA.sw.mono Qo,vA.rb.mono Qo,vA.now,vA.t,vA.cp,vA.g,vA.p⟩;obtain⟨u0,u1,hgg⟩:=hC.sw.a.u tI;have Rh:g<(V.IE.length:Int):=Qo;have hsl:=hC.sw.a.sl tI;have hcs:c<((gi V.IE g).IH.length:Int):=Qo;have BJ8:Ix m.gO W.IE.length g:=by have:=hr.g.ix (i:=g) u0 Rh;rwa[B13,<-bU,hmg] at this
  have BK1:=hr.g.cells g u0 Rh;rw[hmg] at BK1;have hss:=hr.g.IH g u0 Rh;have hsc:=hss c c0 hcs;have CH2:=hss.ix YT c0 hcs;have hsv:=hC.sw.s g c tI c0 (by rw[Ab3];exact c1);have hsr:=hC.rb.s g c tI c0 (by rw[Ab3];exact c1);have hgr:=hC.rb.g g tI;have hv2:=Ma n (Qa V g c).w n0 n1;refine⟨AG9,g,pG,BJ8,_,_,_,_,_,_,_,_,_,_,_,_,_,_,_,_,_,_,_,_,BK1,λb3 qS=>⟨BK1,pG,rfl,CH2,_,_,_,_,_,hsc,λb4 hb4=>⟨AG9,g,pG,?_⟩⟩⟩
  have eA:∀s:KM,s=Gg V c n g->Zp 8 base (Rw w2 (m2.ms g.toNat).sO (Int.toNat c*5) (T9 s)) (PJ V c n g) m2:=λs hs=>by
   subst hs;exact Wz.own.B39 u0 Qo c0 hcs (j:=0) (vs:=T9 (Gg V c n g)) (x:=Gg V c n g) (by simp[T9]) (by simp[T9])
  have Cb4:=z65 Wz.own Wz.nb (i:=g) u0 Qo c0 hcs (j:=0) (k:=5) Qd;have CI9:=hr.g.Rn (i:=g) u0 Rh;rw[hmg] at CI9;refine⟨λg1=>?_,λg1=>?_⟩
  ·have g1:g≠0:=by simpa using g1
   have hs:(⟨(Qa V g c).IM,(Qa V g c).on,(Qa V g c).v+QS n (Qa V g c).w,(Qa V g c).w,(Qa V g c).sum+n⟩:KM)=Gg V c n g:=by unfold Gg;rw[C' g1]
   have eA:=eA _ hs;refine⟨_,XG,⟨?_,?_⟩,⟨?_,?_⟩,AG9,g,pG,BJ8,_,_,_,CI9,CH2,Cb4,AG9,g,?_,⟨?_,?_⟩,BJ8,?_,?_⟩
   ·show _<=(Qa V g c).v+QS n (Qa V g c).w;omega
   ·show (Qa V g c).v+QS n (Qa V g c).w<=_;omega
   ·show _<=(Qa V g c).sum+n;omega
   ·show (Qa V g c).sum+n<=_;omega
   ·have:=(ML hp hpn (Wz.Ss eA (zml Qo))).2 (k:Int) Qo Qo;rw[sU] at this;exact this
   ·show _<=(gi V.IE g).sum+n;omega
   ·show (gi V.IE g).sum+n<=_;omega
   ·have:=zrw eA Wz.nb (i:=g) u0 Qo (j:=7) (k:=1) Qd;rw[hmg] at this;exact this
   have fX:=((Wz.add qS).add hb4).Ss eA (zml Qo);have eU:=eA.Ae8 (i:=g) u0 Qo (g:=KN V c n g) rfl rfl rfl (j:=7) (vs:=[I ((gi V.IE g).sum+n)]) (by unfold KN;rw[zcq u0 Rh];rfl) Qs;have cM:=fX.Ss eU Ag;rw[hmg] at cM;have cM:Mv 8 base [x,x1,x2,b3,b4] w m _ (R3 (PJ V c n g) g (KN V c n g)) m2:=cM;have hgb:=Fq (c:=c) (n:=n) u0 Rh;have hgi:=zkv (c:=c) (n:=n) u0 Rh;have hl5:(R3 (PJ V c n g) g (KN V c n g)).IE.length=V.IE.length:=by simp only[R3,E'];exact LD _ _ _ _
   have vK:=zcr (c:=c) (n:=n) u0 Rh;have W8:GQ V c n g=RF (R3 (PJ V c n g) g (KN V c n g)) g (MZ V c n g):=rfl;generalize R3 (PJ V c n g) g (KN V c n g)=V5 at cM hgi hl5 vK W8;refine⟨λg2 R5 Rl fY=>?_,λg2=>⟨⟨Qo,Qo⟩,λR5 Rl _=>⟨⟨k+1,GQ V c n g,m2,Qs,Qo,?_,hE,hC3⟩,Zo (k:=k) rfl rfl IW⟩⟩⟩
   ·have g2:(gi V.IE g).IL.I'>0:=Ot g2;have hB:MZ V c n g=(ZP (gi V.IE g).IL ⟨2,c,n⟩).1:=by unfold MZ;rw[C' g2]
    rw[hB] at W8;obtain⟨hb,vI,_⟩:=hgg.IL Qo;have jX:Mv 8 base [x,x1,x2,b3,b4] w m R5 V5 m2:=cM.step (Rl.mono λy hy=>by simp only[Ii,List.not_mem_nil,or_false] at hy ⊢;rcases hy with h|h|h <;> simp[h]);have hr6:=jX.rd0;have hg5:g<(V5.IE.length:Int):=by rw[hl5];exact Rh
    have hLo:=hr6.g.locals g u0 hg5;have hDo:=hr6.g.Ry g u0 hg5;rw[hgi,hgb] at hLo hDo;refine I3 (Vh (op:=⟨2,c,n⟩) hb hLo hDo) ?_;rintro e RI ⟨p,he,hO,hy⟩;have lR:=jX.R7 hy;have hbs:base<=R5.heap.size:=by have:=jX.ext.size;omega
    have hOb:∀y∈YK p,R5.heap.size<=y:=λy hy=>(hO.lt y hy).1
    have BK0:=lR.own.B36 (i:=g) u0 Qo (hO.mono hbs) (λy hy hm=>by have:=hOb y hy;have:=(jX.own.lt y hm).2;omega);have vE:=zrw lR.own lR.nb (i:=g) u0 Qo (j:=8) (k:=5) Qd;have sI:=jX.ext.size
    have hM8:=lR.swap BK0 Ag rfl λy hy=>by
     rcases OQ y hy with h1|h1
     ·exact .inl h1
     ·rcases OO y h1 with h2|h2
      ·have:=hOb y h2;exact .inr ⟨Qo,λhm=>by have:=fY y hm;omega⟩
      ·exact .inl (UB Qo h2)
    rw[hmg] at vE hM8;rw[<-W8] at hM8;have Bp9:=(ML hp hpn lR).2 (k:Int) Qo Qo;rw[sU] at Bp9;exact⟨_,_,_,_,_,_,_,_,_,_,he,Qi hy fY,λb5 hb5=>⟨AG9,g,Bp9,BJ8,vE,⟨Qo,Qo⟩,λSj bE _=>⟨⟨k+1,GQ V c n g,_,Qs,Qo,(hM8.step bE).BO0 Qs,hE,hC3⟩,Zo (k:=k) rfl rfl IW⟩⟩⟩
   ·have g2:¬(gi V.IE g).IL.I'>0:=Ou g2;rw[vK g2];exact(cM.BO0 (cs:=[x,x1,x2]) (λy hy=>by simp only[Ii,List.not_mem_nil,or_false] at hy ⊢;rcases hy with h|h|h <;> simp[h])).step Rl
  ·have g1:¬g≠0:=by simpa using g1
   have hs:(⟨(Qa V g c).IM,(Qa V g c).on,(Qa V g c).v,(Qa V g c).w,(Qa V g c).sum+n⟩:KM)=Gg V c n g:=by unfold Gg;rw[B' g1]
   have eA:=eA _ hs;refine⟨⟨?_,?_⟩,AG9,g,pG,BJ8,_,_,_,CI9,CH2,Cb4,AG9,g,?_,⟨?_,?_⟩,BJ8,?_,?_⟩
   ·show _<=(Qa V g c).sum+n;omega
   ·show (Qa V g c).sum+n<=_;omega
   ·have:=(ML hp hpn (Wz.Ss eA (zml Qo))).2 (k:Int) Qo Qo;rw[sU] at this;exact this
   ·show _<=(gi V.IE g).sum+n;omega
   ·show (gi V.IE g).sum+n<=_;omega
   ·have:=zrw eA Wz.nb (i:=g) u0 Qo (j:=7) (k:=1) Qd;rw[hmg] at this;exact this
   have fX:=((Wz.add qS).add hb4).Ss eA (zml Qo);have eU:=eA.Ae8 (i:=g) u0 Qo (g:=KN V c n g) rfl rfl rfl (j:=7) (vs:=[I ((gi V.IE g).sum+n)]) (by unfold KN;rw[zcq u0 Rh];rfl) Qs;have cM:=fX.Ss eU Ag;rw[hmg] at cM;have cM:Mv 8 base [x,x1,x2,b3,b4] w m _ (R3 (PJ V c n g) g (KN V c n g)) m2:=cM;have hgb:=Fq (c:=c) (n:=n) u0 Rh;have hgi:=zkv (c:=c) (n:=n) u0 Rh;have hl5:(R3 (PJ V c n g) g (KN V c n g)).IE.length=V.IE.length:=by simp only[R3,E'];exact LD _ _ _ _
   have vK:=zcr (c:=c) (n:=n) u0 Rh;have W8:GQ V c n g=RF (R3 (PJ V c n g) g (KN V c n g)) g (MZ V c n g):=rfl;generalize R3 (PJ V c n g) g (KN V c n g)=V5 at cM hgi hl5 vK W8;refine⟨λg2 R5 Rl fY=>?_,λg2=>⟨⟨Qo,Qo⟩,λR5 Rl _=>⟨⟨k+1,GQ V c n g,m2,Qs,Qo,?_,hE,hC3⟩,Zo (k:=k) rfl rfl IW⟩⟩⟩
   ·have g2:(gi V.IE g).IL.I'>0:=Ot g2;have hB:MZ V c n g=(ZP (gi V.IE g).IL ⟨2,c,n⟩).1:=by unfold MZ;rw[C' g2]
    rw[hB] at W8;obtain⟨hb,vI,_⟩:=hgg.IL Qo;have jX:Mv 8 base [x,x1,x2,b3,b4] w m R5 V5 m2:=cM.step (Rl.mono λy hy=>by simp only[Ii,List.not_mem_nil,or_false] at hy ⊢;rcases hy with h|h|h <;> simp[h]);have hr6:=jX.rd0;have hg5:g<(V5.IE.length:Int):=by rw[hl5];exact Rh
    have hLo:=hr6.g.locals g u0 hg5;have hDo:=hr6.g.Ry g u0 hg5;rw[hgi,hgb] at hLo hDo;refine I3 (Vh (op:=⟨2,c,n⟩) hb hLo hDo) ?_;rintro e RI ⟨p,he,hO,hy⟩;have lR:=jX.R7 hy;have hbs:base<=R5.heap.size:=by have:=jX.ext.size;omega
    have hOb:∀y∈YK p,R5.heap.size<=y:=λy hy=>(hO.lt y hy).1
    have BK0:=lR.own.B36 (i:=g) u0 Qo (hO.mono hbs) (λy hy hm=>by have:=hOb y hy;have:=(jX.own.lt y hm).2;omega);have vE:=zrw lR.own lR.nb (i:=g) u0 Qo (j:=8) (k:=5) Qd;have sI:=jX.ext.size
    have hM8:=lR.swap BK0 Ag rfl λy hy=>by
     rcases OQ y hy with h1|h1
     ·exact .inl h1
     ·rcases OO y h1 with h2|h2
      ·have:=hOb y h2;exact .inr ⟨Qo,λhm=>by have:=fY y hm;omega⟩
      ·exact .inl (UB Qo h2)
    rw[hmg] at vE hM8;rw[<-W8] at hM8;have Bp9:=(ML hp hpn lR).2 (k:Int) Qo Qo;rw[sU] at Bp9;exact⟨_,_,_,_,_,_,_,_,_,_,he,Qi hy fY,λb5 hb5=>⟨AG9,g,Bp9,BJ8,vE,⟨Qo,Qo⟩,λSj bE _=>⟨⟨k+1,GQ V c n g,_,Qs,Qo,(hM8.step bE).BO0 Qs,hE,hC3⟩,Zo (k:=k) rfl rfl IW⟩⟩⟩
   ·have g2:¬(gi V.IE g).IL.I'>0:=Ou g2;rw[vK g2];exact(cM.BO0 (cs:=[x,x1,x2]) (λy hy=>by simp only[Ii,List.not_mem_nil,or_false] at hy ⊢;rcases hy with h|h|h <;> simp[h])).step Rl
 ·have RM:=Ou RM;have uF:k=(QV W t).length:=Qo;subst uF;rw[List.drop_length] at hE;have hE:DD c n (QV W t) (J' W t (Tb W t n))=V:=hE;have hcV:V.IF=W.IF:=hC.cp;have cV:c<(V.IF.length:Int):=by rw[Ab3];exact c1
  have AR4:Ix m.cO W.IF.length c:=by have:=hr.c.ix Y1 c0 cV;rwa[Ab3,hmc] at this
  have hcr:=rb.c c c0 c1;have e1:=Wz.own.AF2 c0 cV (j:=3) (vs:=[I ((gi W.IF c).busy+n)]) (x:={ gi W.IF c with busy:=(gi W.IF c).busy+n }) (by rw[hcV];rfl) Qs;have uG:(V.IF.set c.toNat { gi W.IF c with busy:=(gi W.IF c).busy+n }).length=V.IF.length:=E';have hg1:gi (V.IF.set c.toNat { gi W.IF c with busy:=(gi W.IF c).busy+n }) c={ gi W.IF c with busy:=(gi W.IF c).busy+n }:=(Qx _ _ c0 cV c0).trans (C' rfl);have e2:=e1.AF2 c0 (by simpa using cV) (j:=2) (vs:=[I ((gi W.IF c).SX+n)]) (x:=Fp W c n) (by rw[hg1];rfl) Qs;have hb:=hr.c.f c0 cV (j:=3) rfl;have vZ:=zpk Wz.own Wz.nb c0 cV (j:=3) (k:=1) Qd;have fX:=Wz.Ss e1 Dz;have hrn:=fX.rd.c.f c0 (by show c<((V.IF.set c.toNat { gi W.IF c with busy:=(gi W.IF c).busy+n }).length:Int);rw[uG];exact cV) (j:=2) rfl;have hw2:=zpk e1 Wz.nb c0 (by show c<((V.IF.set c.toNat { gi W.IF c with busy:=(gi W.IF c).busy+n }).length:Int);rw[uG];exact cV) (j:=2) (k:=1) Qd;rw[hmc] at hb vZ hrn hw2;rw[hcV] at hb;rw[show gi ({ V with IF:=V.IF.set c.toNat { gi W.IF c with busy:=(gi W.IF c).busy+n } }:Q7).IF c=_ from hg1] at hrn;have cM:=fX.Ss e2 Dz
  have hW4:({ V with IF:=(V.IF.set c.toNat { gi W.IF c with busy:=(gi W.IF c).busy+n }).set c.toNat (Fp W c n) }:Q7)=Ui W c t n:=by
   unfold Ui RO;rw[hE,List.set_set]
  rw[hmc] at cM;have cM:Mv 8 base [x,x1,x2] w m _ ({ V with IF:=(V.IF.set c.toNat { gi W.IF c with busy:=(gi W.IF c).busy+n }).set c.toNat (Fp W c n) }:Q7) m2:=cM;rw[hW4] at cM;refine⟨AR4,_,hb,⟨?_,?_⟩,AR4,vZ,AR4,_,hrn,⟨?_,?_⟩,AR4,hw2,λSw eQ sH=>?_⟩
  ·show _<=(gi W.IF c).busy+n;omega
  ·show (gi W.IF c).busy+n<=_;omega
  ·show _<=(gi W.IF c).SX+n;omega
  ·show (gi W.IF c).SX+n<=_;omega
  have lR:=cM.step eQ;have sI:=lR.ext.size;have RA:=QA lR.own sE Qo Qo Qo;rw[show Qc (Ui W c t n) m2=Qc W m from lR.AO2 (by rw[show (Ui W c t n).now=V.now from by rw[<-hW4]];exact hC.now) hlE (by rw[<-hW4,show ({ V with IF:=(V.IF.set c.toNat { gi W.IF c with busy:=(gi W.IF c).busy+n }).set c.toNat (Fp W c n) }:Q7).IJ=V.IJ from rfl,hC.t];simp[J']) (by rw[<-hW4];exact hC.g.len)] at RA;refine I3 RA ?_;rintro e wv ⟨m3,he,hy⟩;exact⟨_,_,_,_,_,_,_,_,_,_,he,lR.kept hy sH,λSZ sV=>⟨m3,rfl,((lR.call hy sH).step sV).close⟩⟩
end
def zqr{Q:Nat->Prop}(h:∃f,Q f):∃f,Q f/\∀g,Q g->f<=g:=by
 obtain⟨f,hf⟩:=h
 induction f using Nat.strongRecOn with
 |ind f ih=>
  by_cases h:∃g,g<f/\Q g
  ·obtain⟨g,hg,hq⟩:=h;exact ih g hg hq
  ·exact⟨f,hf,λg hq=>Nat.le_of_not_lt λIW=>h ⟨g,IW,hq⟩⟩
open Classical in
noncomputable def zhs(Q:Nat->Prop):Nat:=if h:∃f,Q f then (zqr h).choose else 0
def zjd{Q:Nat->Prop}(h:∃f,Q f):Q (zhs Q):=by
 unfold zhs;rw[dif_pos h];exact(zqr h).choose_spec.1
def zst{Q:Nat->Prop}{f:Nat}(h:Q f):zhs Q<=f:=by
 unfold zhs;rw[dif_pos ⟨f,h⟩];exact(zqr ⟨f,h⟩).choose_spec.2 f h
noncomputable def X9(W:Q7)(c n:Int):Int:=if YY n 1 100=false\/Xd W c=false then 1 else if (gi W.IF c).up=false then 6 else if QO W=false then 10 else 0
def J9(W:Q7)(c n:Int):Q7:=PD c 400 W n
def Ph{c:Int}{f:Nat}{W:Q7}{left:Int}(h:left<=0):PD c (f+1) W left=Qb W:=by
 rw[PD,C' h]
def OP{c:Int}{f:Nat}{W:Q7}{left:Int}(h:¬left<=0)(hp:Qe W c<0):PD c (f+1) W left=Qb (Rc (RO W c (OL W c left)) c):=by
 rw[PD,B' h,C' hp]
def UT{c:Int}{f:Nat}{W:Q7}{left:Int}(h:¬left<=0)(hp:¬Qe W c<0):PD c (f+1) W left=PD c f (Uk W c left).1 (Uk W c left).2:=by
 rw[PD,B' h,B' hp]
def G4{W:Q7}{c n:Int}(hW:Qr W)(hb:X9 W c n=0):YY n 1 100/\Xd W c/\(gi W.IF c).up/\QO W/\Md 400 c W W n:=by
 unfold X9 at hb
 split at hb
 ·cases hb
 ·rename_i h1
  split at hb
  ·cases hb
  ·rename_i h2
   split at hb
   ·cases hb
   ·rename_i h3
    have h1a:YY n 1 100:=by
     cases h:YY n 1 100 with
     |true=>rfl
     |false=>exact Ir (.inl h) h1
    have h1b:Xd W c:=by
     cases h:Xd W c with
     |true=>rfl
     |false=>exact Ir (.inr h) h1
    have h2:(gi W.IF c).up:=by simpa using h2
    have h3:QO W:=by simpa using h3
    obtain⟨c0,c1⟩:=UF h1b;have:=Qu.1 h1a;exact⟨h1a,h1b,h2,h3,zrd (Qm.1 hW) (Qm.1 h3) c0 c1 h2 Qo Qo⟩
def zov{f:Nat}{c left:Int}{W0 W:Q7}(h:Md f c W0 W left):∃g,f=g+1:=by
 have h1:=h.f1;have h2:=h.l0;exact⟨f-1,Qo⟩
def zlj{f:Nat}{c left:Int}{W0 W:Q7}(h:Md f c W0 W left):SW (EH f) (Rc (RO W c (OL W c left)) c)/\SW (EH f) (RO W c (OL W c left))/\0<=(gi W.IF c).idle+left/\(gi W.IF c).idle+left<=60000000000000000:=by
 have c0:=h.c0;have c1:=h.c1;have vY:=h.sw.cu c c0 c1;have hl0:=h.l0;have uG:=h.l1;have hr:=h.rb.c c c0 c1;have s1:SW (EH f) (RO W c (OL W c left)):=h.sw.RO c0 c1 (EQ (c:=c) (by rw[E'];exact h.sw.a.c2) c0 (by rw[E'];exact c1) (by rw[show gi (W.IF.set c.toNat (OL W c left)) c=OL W c left from (Qx _ _ c0 c1 c0).trans (C' rfl)];exact h.up)) vY.1 vY.2;exact⟨s1.Rc c0 (by show c<((W.IF.set c.toNat (OL W c left)).length:Int);rw[E'];exact c1),s1,Qo,Qo⟩
section
variable {W:Q7}{m:MW}{w:Wo}
def ztw(y y1:Nat)(w0:Wo)(c n:Int)(W:Q7)(f:Nat)(vs:List Va)(w2:Wo):Prop:=
 ∃(V:Q7) (m2:MW) (left:Int),vs=I left::Qc V m2/\Wk 8 [y,y1] w0 w2 V m2/\Md f c W V left/\PD c f V left=J9 W c n
def Gl{c n:Int}(h:XV [] w W m)(hl:VB W) :
  Cz UM #[.agg (Qc W m).toArray,I c,I n] w λe w'=>∃v,e=.returned v/\QX (Yz W (X9 W c n) (J9 W c n)) w v w':=by
 refine CQ _ _ _ _ _ _ _ _ _ _ c n (R:=λv w'=>QX (Yz W (X9 W c n) (J9 W c n)) w v w') ?_;intro y hy y1 cW;have hm0:=XX;have hlc:=hl.c;refine⟨_,Uy h hl.c hl.t hl.g hl.f,λg wr hx=>QX.bad (by simpa using g) hx,λg wr Rk V'=>?_⟩;have hW:Qr W:=by simpa using g
 have wp:=Qm.1 hW;refine I3 (M0 (h.ext Rk) wp.a) ?_;rintro e wv ⟨m',he,hM,SQ⟩;have hK:=Wk.begin hy cW Rk V' hM SQ;have hr:=hK.rd;refine⟨_,_,_,_,_,_,_,_,_,_,he,Qi SQ V',_,Qq,λ_=>⟨Qo,Qo⟩,Xd W c,λ_=>Qq,λg R5 Rl=>?_,λg=>?_⟩
 ·have hb:X9 W c n=1:=by
   unfold X9;rw[C']
   simpa using g
  exact QX.no hW (by rw[hb];decide) (hK.step Rl) hb
 have g:YY n 1 100/\Xd W c:=by simpa using g
 have hn1:¬(YY n 1 100=false\/Xd W c=false):=by rw[g.1,g.2];simp
 obtain⟨c0,c1⟩:=UF g.2;have hro:=L8 hr hl;refine⟨hr.c.ix Y1 c0 c1,_,hr.c.f c0 c1 (j:=0) rfl,λg2 R5 Rl=>?_,λg2=>⟨_,hro,λg3 R5 Rl=>?_,λg3=>?_⟩⟩
 ·have hb:X9 W c n=6:=by unfold X9;rw[B' hn1,C' (by simpa using g2)]
  exact QX.no hW (by rw[hb];decide) (hK.step Rl) hb
 ·have g2:(gi W.IF c).up:=by simpa using g2
  have bM:¬QO W:=λhr=>by
   rw[show U0 (XQ W/\Ge W)=true from Qm.2 ⟨wp,Qm.1 hr⟩] at g3;cases g3
  have hb:X9 W c n=10:=by unfold X9;rw[B' hn1,B' (by rw[g2];decide),C' (by simpa using bM)]
  exact QX.no hW (by rw[hb];decide) (hK.step Rl) hb
 have g2:(gi W.IF c).up:=by simpa using g2
 have bM:QO W:=by
  have hd:U0 (XQ W/\Ge W):=by simpa using g3
  exact Qm.2 (Qm.1 hd).2
 have hb:X9 W c n=0:=by unfold X9;rw[B' hn1,B' (by rw[g2];decide),B' (by rw[bM];decide)]
 obtain⟨_,_,_,_,hI0⟩:=G4 hW hb;refine⟨λvs _ w2=>∃(V:Q7) (m2:MW) (K:Int),vs=Qc V m2/\Wk 8 [y,y1] w w2 V m2/\SW K V/\0<=K/\K<=60000000000000000/\Qb V=J9 W c n,?_,?_⟩
 ·refine⟨λvs w2=>∃f,ztw y y1 w c n W f vs w2,λvs w2=>zhs λf=>ztw y y1 w c n W f vs w2,λwr Rl _=>⟨400,W,m',n,rfl,hK.step Rl,hI0,rfl⟩,?_⟩;intro left l0 S8 Si Sp Se Sk Sn Sf Sg Sh w2 fY hinv;obtain⟨f0,hf0⟩:∃f0,f0=zhs λf=>ztw y y1 w c n W f [I left,I l0,.slice S8 Si Sp,.slice Se Sk Sn,.slice Sf Sg Sh] w2:=⟨_,rfl⟩
  have hS:=zjd hinv;simp only[<-hf0] at hS ⊢;clear hf0 hinv;obtain⟨V,m2,Cc8,hv,fZ,hI,hN⟩:=hS;simp only[Qc,I4,I5,Iv,true_and,and_true] at hv;obtain⟨rfl,rfl,⟨rfl,rfl,rfl⟩,⟨rfl,rfl,rfl⟩,rfl,rfl,rfl⟩:=hv;obtain⟨f,rfl⟩:=zov hI;have AB8:∀{vs:List Va} {w9:Wo},ztw y y1 w c n W f vs w9->(∃f,ztw y y1 w c n W f vs w9)/\(zhs λf=>ztw y y1 w c n W f vs w9)<f+1:=λhh=>⟨⟨f,hh⟩,Nat.lt_succ_of_le (zst hh)⟩
  have uH:=fZ.rd;have hf:=hI.f2;have hKu:=M3 hf;have hSu:=Bn hf;have hh0:(0:Int)<=Ql:=Qd;have pF:=hI.c1;have AR4:=uH.c.ix Y1 c0 pF;refine⟨λIW=>?_,λRM=>?_⟩
  ·have IW:=Ot IW;refine⟨_,zhq uH hI.sw.a c0 pF,λgp=>?_,λgp=>?_⟩
   ·have gp:=Ot gp;rw[OP Qo gp] at hN;obtain⟨i1,i2,i3,i4⟩:=zlj hI;have e1:Zp 8 w.heap.size _ (RO V c (OL V c left)) m2:=fZ.own.AF2 c0 pF (j:=4) (vs:=[I ((gi V.IF c).idle+left)]) (x:=OL V c left) rfl Qs;refine⟨AR4,_,uH.c.f c0 pF (j:=4) rfl,⟨Qo,Qo⟩,AR4,zpk fZ.own fZ.nb c0 pF (j:=4) Qd,λRE T' dT=>?_⟩;have eH:=(fZ.Rw e1 Dz).step T';have RA:=ZS eH.own c0 (by show c<((V.IF.set c.toNat (OL V c left)).length:Int);rw[E'];exact pF);rw[FF] at RA;refine I3 RA ?_;rintro e2 RI ⟨bH,iD⟩;exact⟨_,_,_,_,_,_,_,_,_,_,bH,eH.kept iD dT,λRQ Su _=>⟨_,m2,_,rfl,(eH.Ss iD dT).step Su,i1,Qo,Qo,hN⟩⟩
   ·have gp:=Ou gp;rw[UT Qo gp] at hN;have hR:=TO hI IW gp;have t0:=hR.line.t0;have t1:=hR.line.t1;have jF:V.IJ.length=12:=hI.sw.a.t;refine⟨λ_ _ w3=>Wk 8 [y,y1] w w3 (ZX V c (Qe V c)) m2,?_,?_⟩
    ·refine⟨AR4,_,uH.c.f c0 pF (j:=1) rfl,λ_=>AR4,_,λ_=>uH.c.f c0 pF (j:=2) rfl,λg5=>?_,λg5 RE T' _=>?_⟩
     ·have g5:Qe V c≠(gi V.IF c).cur\/(gi V.IF c).SX>=50:=by simpa using g5
      have hS:Yf V c (Qe V c)={ gi V.IF c with cur:=Qe V c,SX:=0 }:=by unfold Yf;rw[C' g5]
      have e1:=fZ.own.AF2 c0 pF (j:=1) (vs:=[I (Qe V c)]) (x:={ gi V.IF c with cur:=Qe V c }) rfl Qs;have uG:(V.IF.set c.toNat { gi V.IF c with cur:=Qe V c }).length=V.IF.length:=E';have hg1:gi (V.IF.set c.toNat { gi V.IF c with cur:=Qe V c }) c={ gi V.IF c with cur:=Qe V c }:=(Qx _ _ c0 pF c0).trans (C' rfl);have e2:=e1.AF2 c0 (by simpa using pF) (j:=2) (vs:=[I 0]) (x:=Yf V c (Qe V c)) (by rw[hg1,hS];rfl) Qs
      have hW2:({ V with IF:=(V.IF.set c.toNat { gi V.IF c with cur:=Qe V c }).set c.toNat (Yf V c (Qe V c)) }:Q7)=ZX V c (Qe V c):=by
       unfold ZX RO;rw[List.set_set]
      have qR:=fZ.Rw e1 Dz;have eH:Wk 8 [y,y1] w _ ({ V with IF:=(V.IF.set c.toNat { gi V.IF c with cur:=Qe V c }).set c.toNat (Yf V c (Qe V c)) }:Q7) m2:=qR.Rw e2 Dz;rw[hW2] at eH;exact⟨AR4,zpk fZ.own fZ.nb c0 pF (j:=1) Qd,AR4,zpk e1 fZ.nb c0 (by show c<((V.IF.set c.toNat { gi V.IF c with cur:=Qe V c }).length:Int);rw[uG];exact pF) (j:=2) Qd,λRE T' _=>eH.step T'⟩
     ·have g5:¬(Qe V c≠(gi V.IF c).cur\/(gi V.IF c).SX>=50):=by simpa using g5
      have hS:ZX V c (Qe V c)=V:=by
       unfold ZX Yf RO;rw[B' g5,Ab c0 pF]
      rw[hS];exact fZ.step T'
    ·intro dX fK dZ Sj bE hs6;have vB:=dZ.step bE;have hcG:=Gq (t:=Qe V c) (vB.rd.less (cs:=[]) Qs) hR.s1.a.tree t0 (by show _<((V.IJ.length:Nat):Int);omega) hR.us;have ecp:Qc (ZX V c (Qe V c)) m2=Qc V m2:=FF _ _ _ _;rw[ecp] at hcG;refine I3 hcG ?_;rintro e3 fC ⟨pO,pC,gD,hO,hy6⟩;have hO:UD U2 1 Qg Sj.heap.size fC pO pC (QV V (Qe V c)):=hO;have gD:e3=.returned (.slice pO (QV V (Qe V c)).length pC):=gD;have hK7:=vB.R7 hy6;refine⟨_,_,_,gD,Qi hy6 hs6,λSZ sV hs8=>?_⟩;have hK8:=hK7.step sV
     have CI2:∀z∈QL pO,z∉[y,y1]:=λz hz hm=>by
      have:=(hO.lt z hz).1;have:=hs6 z hm;omega
     have hO8:=hO.ext sV CI2
     have CI3:∀z∈QL pO,z∉QM 8 m2:=λz hz hm=>by
      have:=(hO.lt z hz).1;have:=(vB.own.lt z hm).2;omega
     have hcT:=zhr hK8.own hR.s1 hK8.base hO8 CI3 hR.len c0 (by rw[(Ki hI.sw hI.rb c0 pF hI.up t0 t1).2.2.2.2.2];exact pF) hR.pin hR.dr;rw[ecp] at hcT;refine I3 hcT ?_;rintro e4 uO ⟨m3,he4,hy9⟩;have hK9:Wk 8 [y,y1] w uO (Zl V c).1 m3:=hK8.Ss hy9 hs8;have hTk:DW c (QV V (Qe V c)) (ZX V c (Qe V c))=Zl V c:=rfl;rw[hTk] at he4 hy9;have hO9:=hO8.ext hy9.ext CI3
     have C07:∀z∈QL pO,z∉QM 8 m3:=λz hz hm=>by
      rcases hy9.sub z hm with h1|h1
      ·exact CI3 z hz h1
      ·have:=(hO8.lt z hz).2;omega
     have eC:(Zl V c).1.IF=(ZX V c (Qe V c)).IF:=hR.tk.o.c;have lT:(Zl V c).1.IF.length=V.IF.length:=by rw[eC];exact(Ki hI.sw hI.rb c0 pF hI.up t0 t1).2.2.2.2.2
     have cT:c<((Zl V c).1.IF.length:Int):=by rw[lT];exact pF
     have e9:Qc (Zl V c).1 m3=Qc V m2:=by
      rw[hy9.AO2 (W0:=ZX V c (Qe V c)) hR.tk.o.n (by rw[eC]) (by rw[hR.tk.o.t]) hR.tk.o.g.len];exact ecp
     have rT:RB (Dy (f+1)) (Zl V c).1:=hR.r1.sum hR.tk.su hR.tk.o.g (by rw[eC]);have eT:(Zl V c).1.IJ=V.IJ:=hR.tk.o.t;have eG:QH V.IE (Zl V c).1.IE:=hR.tk.o.g;have pT:QV (Zl V c).1 (Qe V c)=QV V (Qe V c):=Bl eT eG _;have uT:Q6 (Zl V c).1.IE (Q8 (Zl V c).1 (Qe V c)).II:=by rw[eG.aO,YE eT];exact hR.us
     have upT:(gi (Zl V c).1.IF c).up:=by rw[eC];exact(Ki hI.sw hI.rb c0 pF hI.up t0 t1).2.2.1
     have AN3:(gi (Zl V c).1.IF c).SX<50:=by rw[eC];exact hR.SX
     have hnx:=hR.nx;refine⟨_,_,_,_,_,_,_,_,_,_,_,he4,hK8.kept hy9 hs8,λgt Sq AC2 oP=>?_,λgt=>?_⟩
     ·have gt:¬(Zl V c).2:=by simpa using gt
      have hRW:Uk V c left=(Qb (Rc (Zl V c).1 c),left):=by unfold Uk;rw[B' gt]
      rw[hRW] at hnx hN;have AG6:=hK9.step AC2;have hcE:=ZS AG6.own c0 cT;rw[e9] at hcE;refine I3 hcE ?_;rintro e5 kU ⟨he5,Bd9⟩;refine⟨_,_,_,_,_,_,_,_,_,_,he5,AG6.kept Bd9 oP,λSA wB AR9=>?_⟩;have A42:=(AG6.Ss Bd9 oP).step wB;refine I3 (QA A42.own (hR.tk.sw.Rc c0 cT) Qo Qo A42.base) ?_;rintro e6 rS ⟨m4,he6,CK0⟩;generalize Qb (Rc (Zl V c).1 c)=V9 at he6 CK0 hnx hN;exact⟨_,_,_,_,_,_,_,_,_,_,he6,A42.kept CK0 AR9,λWB BK4 _=>AB8 ⟨V9,m4,left,rfl,(A42.Ss CK0 AR9).step BK4,hnx,hN⟩⟩
     ·have gt:(Zl V c).2:=by simpa using gt
      have hRW:Uk V c left=(Qb (Ui (Zl V c).1 c (Qe V c) (ZV V c left)),left-ZV V c left):=by unfold Uk;rw[C' gt]
      rw[hRW] at hnx hN;obtain⟨m1,m2'⟩:=hR.m gt;have uG:=hI.l1;have hcM:=zho (n:=left) hK9.rd hR.tk.sw.a (hO9.rd Xe.len CI2) (pC:=pC) hR.len c0 cT (λz hz=>by rw[eG.aO];exact hR.pin z hz);rw[e9] at hcM;refine⟨_,hcM,λSq AC2 oP=>?_⟩;have AG6:=hK9.step AC2;have Cu5:UD U2 1 Qg Sj.heap.size Sq pO pC (QV (Zl V c).1 (Qe V c)):=by rw[pT];exact hO9.ext AC2 CI2
      have hcC:=z9 (t:=Qe V c) (n:=ZV V c left) AG6.own AG6.base Cu5 C07 hR.tk.sw rT ⟨Qo,Qo⟩ ⟨Qo,Qo⟩ c0 cT upT AN3 t0 t1 uT Qo Qo;rw[e9,pT] at hcC;refine I3 hcC ?_;rintro e7 kU ⟨m4,he7,Bd9⟩;generalize Qb (Ui (Zl V c).1 c (Qe V c) (ZV V c left))=V9 at he7 Bd9 hnx hN;exact⟨_,_,_,_,_,_,_,_,_,_,he7,AG6.kept Bd9 oP,⟨by show _<=left-ZV V c left;omega,by show left-ZV V c left<=_;omega⟩,λSA wB _=>AB8 ⟨V9,m4,left-ZV V c left,rfl,(AG6.Ss Bd9 oP).step wB,hnx,hN⟩⟩
  ·have RM:=Ou RM;rw[Ph Qo] at hN;exact λRE T' _=>⟨V,m2,_,rfl,fZ.step T',hI.sw,Qo,Qo,hN⟩
 ·rintro a0 a1O a1L a1C a2O a2L a2C a3O a3L a3C w2 fY ⟨V,m2,K,hv,fZ,sw,k0,k1,hN⟩ RE T' dT;simp only[Qc,I4,I5,Iv,true_and,and_true] at hv;obtain⟨rfl,⟨rfl,rfl,rfl⟩,⟨rfl,rfl,rfl⟩,rfl,rfl,rfl⟩:=hv;have eH:=fZ.step T';refine I3 (QA eH.own sw k0 Qo eH.base) ?_;rintro e3 S3 ⟨m3,gD,hy5⟩;rw[hN] at gD hy5;exact⟨_,_,_,_,_,_,_,_,_,_,gD,eH.kept hy5 dT,λSZ sV=>QX.ok hW hb ((eH.Ss hy5 dT).step sV)⟩
end
def A9{W:Q7}{g:Int}{x y:ZD}:R3 (R3 W g x) g y=R3 W g y:=by simp[R3,List.set_set]
def z7q(W:Q7)(c n g:Int):ZD:={ gi W.IE g with IH:=(gi W.IE g).IH.set c.toNat (Gg W c n g),sum:=(gi W.IE g).sum+n }
def z59{W:Q7}{c n g:Int}(u0:0<=g)(u1:g<(W.IE.length:Int)):R3 (PJ W c n g) g (KN W c n g)=R3 W g (z7q W c n g):=by
 unfold KN;rw[zcq u0 u1];exact A9
def z0f(W:Q7)(c n g:Int):Q7:=RC W g c { Qa W g c with sum:=(Qa W g c).sum+n }
def zw6(W:Q7)(c n g:Int):Q7:=R3 (z0f W c n g) g { gi (z0f W c n g).IE g with sum:=(gi W.IE g).sum+n }
def zw5{W:Q7}{c n g:Int}(u0:0<=g)(u1:g<(W.IE.length:Int)):gi (z0f W c n g).IE g={ gi W.IE g with IH:=(gi W.IE g).IH.set c.toNat { Qa W g c with sum:=(Qa W g c).sum+n } }:=zo1 u0 u1
def zpz{W:Q7}{c n g:Int}(u0:0<=g)(u1:g<(W.IE.length:Int)):zw6 W c n g=R3 W g { gi W.IE g with IH:=(gi W.IE g).IH.set c.toNat { Qa W g c with sum:=(Qa W g c).sum+n },sum:=(gi W.IE g).sum+n }:=by
 unfold zw6;rw[zw5 u0 u1];exact A9
def z0y(W:Q7)(c n g:Int):(zw6 W c n g).IE.length=W.IE.length:=by simp[zw6,z0f,R3,RC]
def zp0{W:Q7}{c n g:Int}(u0:0<=g)(u1:g<(W.IE.length:Int)):gi (zw6 W c n g).IE g={ gi W.IE g with IH:=(gi W.IE g).IH.set c.toNat { Qa W g c with sum:=(Qa W g c).sum+n },sum:=(gi W.IE g).sum+n }:=by
 rw[zpz u0 u1,Ym u0 u1 u0,C' rfl]
def z0z{W:Q7}{c n g:Int}(u0:0<=g)(u1:g<(W.IE.length:Int))(c0:0<=c)(c1:c<((gi W.IE g).IH.length:Int)):Qa (zw6 W c n g) g c={ Qa W g c with sum:=(Qa W g c).sum+n }:=by
 unfold Qa;rw[zp0 u0 u1];exact(Qx _ _ c0 c1 c0).trans (C' rfl)
def zw8{W:Q7}{c n:Int}(u1:(0:Int)<(W.IE.length:Int)):zw6 W c n 0=R3 (PJ W c n 0) 0 (KN W c n 0):=by
 rw[zpz (I2 _) u1,z59 (I2 _) u1];unfold z7q Gg;rw[B' Qs]
def zw7{W:Q7}{c n g:Int}(u0:0<=g)(u1:g<(W.IE.length:Int)):RC (zw6 W c n g) g c (Gg W c n g)=R3 (PJ W c n g) g (KN W c n g):=by
 rw[z59 u0 u1];unfold RC;rw[zp0 u0 u1,zpz u0 u1,A9]
 dsimp only
 rw[List.set_set];rfl
def DT(W:Q7)(g:Int):List Int:=if g = -1 then [] else QR W.IE g++[0]
def zrc{W:Q7}(ht:Yr W.IE){g:Int}(hu:Q6 W.IE g):DT W g=g::DT W (gi W.IE g).IG:=by
 have h0:=(Q2.1 hu).1;unfold DT;rw[B' Qo]
 by_cases hz:g=0
 ·subst hz;rw[ht.rp,C' rfl,show QR W.IE 0=[] from Zh _ _];rfl
 ·have hp:=(Q2.1 (Y0 ht hu hz).1).1;rw[Yq ht hu hz,B' Qo];rfl
def z7k(W:Q7)(vs:List Va)(_:Wo):Nat:=match vs with
 |[_,.int _ g]=>(QR W.IE g).length
 |_=>0
def z7l(W:Q7)(vs:List Va)(_:Wo):Nat:=match vs with
 |[.int _ g]=>(DT W g).length
 |_=>0
section
variable {base pb:Nat}{W:Q7}{m:MW}{w:Wo}
def FO{K S t c left:Int}(h:PW base pb w W m)(sw:SW K W)(rb:RB S W)(hK:0<=K/\K<=60000000000000000)(hS:0<=S/\S<=60000000000000000)(c0:0<=c)(c1:c<(W.IF.length:Int))(up:(gi W.IF c).up)(SX:(gi W.IF c).SX<50)(t0:0<=t)(t1:t<12)(hu:Q6 W.IE (Q8 W t).II)(n0:0<=J8 W c (QV W t) left)(n1:J8 W c (QV W t) left<=100) :
  Cz JA #[.agg #[.pointer (pA pb),I c],I t,I left] w λe w'=>e=.returned (I (J8 W c (QV W t) left))/\Mp base pb [] w m w' (Ui W c t (J8 W c (QV W t) left)) m:=by
 obtain⟨sE,rE,_,_,hlE,_,s1,r1,cp1⟩:=Ee sw rb Qo c0 c1 up SX t0 t1 hu n0 n1;obtain⟨pin,Bt2⟩:=HY sw.a hu;have hM0:=Mp.start h;have jF:=sw.a.t;have bU:=sw.a.gl;have hlg:Qh=34686091440:=rfl;generalize hN:J8 W c (QV W t) left=n at sE rE hlE s1 r1 cp1 n0 n1;refine(Fu (pA pb) c t left (R:=λv w'=>v=I n/\Mp base pb [] w m w' (Ui W c t n) m) ?_).mono λe w' ⟨v,he,hv,h3⟩=>⟨by rw[he,hv],h3⟩
 intro b hb;have hM:=hM0.add hb;have hp:=hM0.wpt;have htv:=sw.tv t t0 t1;have htr:=rb.t t t0 t1;have hv:=Ma n (Qf (Q8 W t).nice) n0 n1;refine⟨hp.some,_,_,_,hp.IJ,hp.rd.t.ix QT t0 Qo,_,hp.rd.t.f t0 Qo (j:=1) rfl,?_⟩;refine⟨λvs w2=>∃u g,vs=[I u,I g]/\Q6 W.IE g/\Mp base pb [b] w m w2 W m/\J8 W c (QR W.IE g++[0]) u=n,z7k W,λwr hx _=>⟨left,_,rfl,hu,hM.R7 hx,hN⟩,?_⟩;rintro u9 g9 w2 V' ⟨u,g,he,tI,Wz,hE⟩;simp only[I4,I5,true_and,and_true] at he;obtain⟨rfl,rfl⟩:=he;have dD:=Wz.wpt;obtain⟨u0,u1,hgg⟩:=sw.a.u tI;have Rh:g9<(W.IE.length:Int):=Qo;refine⟨λgz=>?_,λgz=>?_⟩
 ·have gz:g9≠0:=by simpa using gz
  have hps:=Yq sw.a.tree tI gz;have hup:=(Y0 sw.a.tree tI gz).1;rw[hps] at hE;have hE:J8 W c (QR W.IE (gi W.IE g9).IG++[0]) (TM W c g9 u9)=n:=hE
  have hmu:∀{u':Int} {w8 w9:Wo},z7k W [I u',I (gi W.IE g9).IG] w8<z7k W [I u9,I g9] w9:=by
   intro u' w8 w9;show (QR W.IE (gi W.IE g9).IG).length<(QR W.IE g9).length;rw[hps];exact Nat.lt_succ_self _
  refine⟨dD.some,_,_,_,dD.IE,dD.rd.g.ix u0 Rh,_,_,_,_,_,_,_,_,_,dD.rd.g.IL u0 Rh,λb1 bY=>⟨λgq=>?_,λgq=>?_⟩⟩
  ·have gq:(gi W.IE g9).IL.I'>0:=Ot gq;obtain⟨qS,vI,_⟩:=hgg.IL Qo;have hLo:=dD.rd.g.locals g9 u0 Rh
   have hmG:TM W c g9 u9=if gi (gi W.IE g9).IL.locals c<u9 then gi (gi W.IE g9).IL.locals c else u9:=by
    unfold TM Zr;rw[C' gq]
    split <;> split <;> omega
   rw[hmG] at hE;exact⟨hLo.ix XU c0 Qo,_,hLo c c0 Qo,dD.some,_,_,_,dD.IE,dD.rd.g.ix u0 Rh,_,dD.rd.g.IG u0 Rh,λR5 S9 _=>⟨⟨_,_,rfl,hup,Wz.step S9,hE⟩,hmu⟩⟩
  ·have gq:¬(gi W.IE g9).IL.I'>0:=Ou gq;have hmG:TM W c g9 u9=u9:=by unfold TM;rw[B' gq]
   rw[hmG] at hE;exact⟨dD.some,_,_,_,dD.IE,dD.rd.g.ix u0 Rh,_,dD.rd.g.IG u0 Rh,λR5 S9 _=>⟨⟨_,_,rfl,hup,Wz.step S9,hE⟩,hmu⟩⟩
 have gz:g9=0:=by simpa using gz
 subst gz;rw[show QR W.IE 0=[] from Zh _ _,List.nil_append] at hE
 have hE:u9=n:=by
  have e0:J8 W c [0] u9=TM W c 0 u9:=rfl;rw[e0] at hE;unfold TM at hE
  rwa[B' (by have:=(hgg.root rfl).2.2;omega)] at hE
 subst hE;clear hgg Rh u0 u1 tI;have eA:Zp 8 base _ (J' W t { Q8 W t with v:=(Q8 W t).v+QS u9 (Qf (Q8 W t).nice) }) m:=Wz.own.AF3 t0 Qo (j:=5) (vs:=[I ((Q8 W t).v+QS u9 (Qf (Q8 W t).nice))]) (x:={ Q8 W t with v:=(Q8 W t).v+QS u9 (Qf (Q8 W t).nice) }) rfl Qs;have hMA:=Wz.Ss eA Hx (K9 _ _ _ _);have gA:∀x:PS,gi (J' W t x).IJ t=x:=λx=>HB t0 Qo
 have lA:∀x:PS,t<((J' W t x).IJ.length:Int):=λx=>by rw[UU];omega
 have eB:Zp 8 base _ (J' (J' W t { Q8 W t with v:=(Q8 W t).v+QS u9 (Qf (Q8 W t).nice) }) t { Q8 W t with v:=(Q8 W t).v+QS u9 (Qf (Q8 W t).nice),sum:=(Q8 W t).sum+u9 }) m:=hMA.own.AF3 t0 (lA _) (j:=6) (vs:=[I ((Q8 W t).sum+u9)]) (x:={ Q8 W t with v:=(Q8 W t).v+QS u9 (Qf (Q8 W t).nice),sum:=(Q8 W t).sum+u9 }) (by rw[gA];rfl) Qs;have hMB:=hMA.Ss eB Hx (K9 _ _ _ _);rw[set_set] at hMB;have eC:Zp 8 base _ (J' (J' W t { Q8 W t with v:=(Q8 W t).v+QS u9 (Qf (Q8 W t).nice),sum:=(Q8 W t).sum+u9 }) t (Tb W t u9)) m:=hMB.own.AF3 t0 (lA _) (j:=7) (vs:=[I ((Q8 W t).IV+u9)]) (x:=Tb W t u9) (by rw[gA];rfl) Qs;have hMC:=hMB.Ss eC Hx (K9 _ _ _ _);rw[set_set] at hMC;have rA:=hMA.wpt.rd.t.f t0 (lA _) (j:=6) rfl;rw[gA] at rA;have rB:=hMB.wpt.rd.t.f t0 (lA _) (j:=7) rfl;rw[gA] at rB;have rC:=hMC.wpt.rd.t.f t0 (lA _) (j:=1) rfl;rw[gA] at rC;refine⟨_,dD.rd.t.f t0 Qo (j:=5) rfl,_,dD.rd.t.f t0 Qo (j:=3) rfl,_,Px,_,XF,⟨?_,?_⟩,ztu Wz.own Wz.nb t0 Qo (j:=5) Qd,_,rA,⟨?_,?_⟩,ztu hMA.own hMA.nb t0 (lA _) (j:=6) Qd,_,rB,⟨?_,?_⟩,ztu hMB.own hMB.nb t0 (lA _) (j:=7) Qd,_,rC,?_⟩
 ·show _<=(Q8 W t).v+QS u9 (Qf (Q8 W t).nice);omega
 ·show (Q8 W t).v+QS u9 (Qf (Q8 W t).nice)<=_;omega
 ·show _<=(Q8 W t).sum+u9;omega
 ·show (Q8 W t).sum+u9<=_;omega
 ·show _<=(Q8 W t).IV+u9;omega
 ·show (Q8 W t).IV+u9<=_;omega
 refine⟨λvs w2=>∃(k:Nat) (g:Int) (V:Q7),vs=[I g]/\k+(DT W g).length<=4/\(g≠-1->Q6 W.IE g)/\Mp base pb [b] w m w2 V m/\DD c u9 (QV W t) (J' W t (Tb W t u9))=DD c u9 (DT W g) V/\zv8 (K+Qh+Qh*(k:Int)) (S+100+100*(k:Int)) c u9 (J' W t (Tb W t u9)) V,z7l W,λwr hx _=>⟨0,(Q8 W t).II,_,rfl,?_,λ_=>hu,hMC.step hx,?_,⟨s1.mono Qs,r1.mono Qs,rfl,rfl,rfl,QH.refl _,λ_ _=>rfl⟩⟩,?_⟩
 ·have hg0:=(Q2.1 hu).1;unfold DT;rw[B' Qo];have:(QR W.IE (Q8 W t).II++[0]).length<=4:=Bt2;omega
 ·have hg0:=(Q2.1 hu).1;unfold DT;rw[B' Qo];rfl
 rintro g9 w3 fY ⟨k,g,V,he,hk,tI,fX,hE,hC⟩;simp only[I4,I5,true_and,and_true] at he;subst he;have hp3:=fX.wpt;have Ab3:V.IF.length=W.IF.length:=by rw[hC.cp];rfl
 have hTG:QH W.IE V.IE:=hC.g;have hkk:0<=Qh*(k:Int)/\Qh*(k:Int)<=138744365760:=by simp only[Qh];omega
 have hk1:Qh*((k+1:Nat):Int)=Qh*(k:Int)+Qh:=by simp only[Qh];omega
 refine⟨λgz=>?_,λgz=>?_⟩
 ·have gz:g9≠-1:=by simpa using gz
  have tI:=tI gz;have Bd6:Q6 V.IE g9:=by rw[hTG.aO];exact tI
  obtain⟨u0,u1,hgg⟩:=hC.sw.a.u Bd6;have B13:=hC.sw.a.gl;have Rh:g9<(V.IE.length:Int):=Qo;have hsl:=hC.sw.a.sl Bd6;have cV:c<(V.IF.length:Int):=by rw[Ab3];exact c1
  have hcs:c<((gi V.IE g9).IH.length:Int):=Qo;have hrs:=zrc sw.a.tree tI;rw[hrs,List.length_cons] at hk;rw[hrs,zcs] at hE;have vA:=hC.trans (zku hC.sw hC.rb Qo c0 cV Bd6 n0 n1);have hC3:zv8 (K+Qh+Qh*((k+1:Nat):Int)) (S+100+100*((k+1:Nat):Int)) c u9 (J' W t (Tb W t u9)) (GQ V c u9 g9):=⟨vA.sw.mono Qo,vA.rb.mono Qo,vA.now,vA.t,vA.cp,vA.g,vA.p⟩;have hsv:=hC.sw.s g9 c Bd6 c0 cV;have hsr:=hC.rb.s g9 c Bd6 c0 cV;have hgr:=hC.rb.g g9 Bd6;have hv2:=Ma u9 (Qa V g9 c).w n0 n1;have hsh:=hp3.sh u0 Rh c0 hcs;have e1:Zp 8 base (Rw w3 (zwb m g9 c) (0+4) [I ((Qa V g9 c).sum+u9)]) (z0f V c u9 g9) m:=fX.own.Ae6 u0 u1 c0 hcs (j:=4) (vs:=[I ((Qa V g9 c).sum+u9)]) rfl Qs;have ec1:Qc (z0f V c u9 g9) m=Qc V m:=by simp[Qc,z0f,RC,R3]
  have cM:=fX.Ss e1 (zj4 u0 u1) ec1;have uG:(z0f V c u9 g9).IE.length=V.IE.length:=by simp[z0f,RC,R3]
  have nM:Mp base pb [b] w m _ (zw6 V c u9 g9) m:=cM.grf u0 u1 (G:={ gi (z0f V c u9 g9).IE g9 with sum:=(gi V.IE g9).sum+u9 }) rfl rfl rfl (j:=7) (vs:=[I ((gi V.IE g9).sum+u9)]) rfl Qs;have hp4:=cM.wpt
  have C19:Q1 [b] (Rw w3 (zwb m g9 c) (0+4) [I ((Qa V g9 c).sum+u9)]) m.gO (Int.toNat g9*14+7) [I (gi V.IE g9).sum]:=by
   have:=(hp4.rd.g.cells g9 u0 (by rw[uG];exact Rh)).get 7 _ rfl
   rwa[zw5 u0 Rh] at this
  have B85:=hp4.IE;rw[uG] at B85;have CW9:Ix m.gO V.IE.length g9:=hp3.rd.g.ix u0 Rh;have C27:=zrw cM.own cM.nb (i:=g9) u0 Qo (j:=7) (k:=1) Qd;refine⟨_,Zt hp3 u0 Rh c0 hcs,hsh.1,_,hsh.2 (j:=4) rfl,⟨Qo,Qo⟩,hsh.1,fX.own.Be6 fX.nb u0 u1 c0 hcs (j:=4) Qd,hp3.some,_,_,_,B85,CW9,_,C19,⟨Qo,Qo⟩,CW9,C27,λ_ _ w5=>Mp base pb [b] w m w5 (R3 (PJ V c u9 g9) g9 (KN V c u9 g9)) m,⟨λg1=>?_,λg1 RQ Su _=>?_⟩,?_⟩
  ·have hp5:=nM.wpt;have hl2:=z0y V c u9 g9;have V':=z0z (n:=u9) u0 Rh c0 hcs
   have CG1:c<((gi (zw6 V c u9 g9).IE g9).IH.length:Int):=by
    rw[zp0 u0 Rh];show c<(((gi V.IE g9).IH.set c.toNat _).length:Int);rw[E'];exact hcs
   have Ca7:=hp5.sh u0 (by rw[hl2];exact Rh) c0 CG1;have v1:=Ca7.2 (j:=2) rfl;have v2:=Ca7.2 (j:=3) rfl;rw[V'] at v1 v2;have g1:g9≠0:=by simpa using g1
   have hsS:Gg V c u9 g9={ Qa V g9 c with v:=(Qa V g9 c).v+QS u9 (Qa V g9 c).w,sum:=(Qa V g9 c).sum+u9 }:=by unfold Gg;rw[C' g1]
   have e6:Zp 8 base _ (RC (zw6 V c u9 g9) g9 c (Gg V c u9 g9)) m:=nM.own.Ae6 u0 u1 c0 CG1 (j:=2) (vs:=[I ((Qa V g9 c).v+QS u9 (Qa V g9 c).w)]) (by rw[V',hsS];rfl) Qs;have jX:=nM.Ss e6 (zj4 u0 u1) (by simp[Qc,RC,R3]);rw[zw7 u0 Rh] at jX;exact⟨hsh.1,_,v1,hsh.1,_,v2,_,XF,⟨by show _<=(Qa V g9 c).v+QS u9 (Qa V g9 c).w;omega,by show (Qa V g9 c).v+QS u9 (Qa V g9 c).w<=_;omega⟩,hsh.1,nM.own.Be6 nM.nb u0 u1 c0 CG1 (j:=2) Qd,λRQ Su _=>jX.step Su⟩
  ·have g1:g9=0:=by simpa using g1
   subst g1;rw[<-zw8 Rh];exact nM.step Su
  intro w5 fK jX;have hgb:=Fq (c:=c) (n:=u9) u0 Rh;have hgi:=zkv (c:=c) (n:=u9) u0 Rh;have hl5:(R3 (PJ V c u9 g9) g9 (KN V c u9 g9)).IE.length=V.IE.length:=by simp only[R3,E'];exact LD _ _ _ _
  have vK:=zcr (c:=c) (n:=u9) u0 Rh;have W8:GQ V c u9 g9=RF (R3 (PJ V c u9 g9) g9 (KN V c u9 g9)) g9 (MZ V c u9 g9):=rfl
  have CZ2:(gi (R3 (PJ V c u9 g9) g9 (KN V c u9 g9)).IE g9).IG=(gi W.IE g9).IG:=by
   rw[hgi];unfold KN;rw[zcq u0 Rh];exact hTG.p g9
  generalize R3 (PJ V c u9 g9) g9 (KN V c u9 g9)=V5 at jX hgi hl5 vK W8 CZ2;have hp6:=jX.wpt;have hg5:g9<(V5.IE.length:Int):=by rw[hl5];exact Rh
  have hq5:=hp6.rd.g.quo (i:=g9) u0 hg5;rw[hgi,hgb] at hq5
  have hmu:∀{w8 w9:Wo},z7l W [I (gi W.IE g9).IG] w8<z7l W [I g9] w9:=by
   intro w8 w9;show (DT W (gi W.IE g9).IG).length<(DT W g9).length;rw[hrs];exact Nat.lt_succ_self _
  have hun:(gi W.IE g9).IG≠-1->Q6 W.IE (gi W.IE g9).IG:=λcU=>by
   by_cases hz:g9=0
   ·subst hz;exact Ir sw.a.tree.rp cU
   ·exact(Y0 sw.a.tree tI hz).1
  refine⟨hp6.some,_,_,_,hp6.IE,hp6.rd.g.ix u0 hg5,_,hq5,λg2 Sj bE hs6=>?_,λg2=>?_⟩
  ·have g2:(gi V.IE g9).IL.I'>0:=Ot g2;have hB:MZ V c u9 g9=(ZP (gi V.IE g9).IL ⟨2,c,u9⟩).1:=by unfold MZ;rw[C' g2]
   rw[hB] at W8;obtain⟨qS,vI,_⟩:=hgg.IL Qo;have lR:=jX.step bE
   have Bp7:Zp 8 base Sj (RF V5 g9 (gi V.IE g9).IL) m:=by
    have:(gi V5.IE g9).IL=(gi V.IE g9).IL:=by rw[hgi,hgb]
    rw[<-this,G6 u0 hg5];exact lR.own
   refine I3 (Nu (op:=⟨2,c,u9⟩) Bp7 u0 u1 qS) ?_;rintro e7 fB ⟨he7,hB7,hX7⟩;rw[<-W8] at hB7;have ecc:Qc (GQ V c u9 g9) m=Qc V5 m:=by rw[W8];simp[Qc,RF,R3]
   have hM8:=lR.Ss hB7 hX7 ecc;have hp8:=hM8.wpt;have hl8:(GQ V c u9 g9).IE.length=V5.IE.length:=by rw[W8];simp[RF,R3]
   have CZ6:=hp8.rd.g.IG (i:=g9) u0 (by rw[hl8];exact hg5);have hpe:(gi (GQ V c u9 g9).IE g9).IG=(gi W.IE g9).IG:=vA.g.p g9;rw[hpe] at CZ6;have Cx2:=hp8.IE;have Cy2:=hp8.rd.g.ix (i:=g9) u0 (by rw[hl8];exact hg5);exact⟨_,he7,Ld hX7 hs6 lR.nb,hp8.some,_,_,_,Cx2,Cy2,_,CZ6,λSw eQ _=>⟨⟨k+1,_,GQ V c u9 g9,rfl,Qo,hun,hM8.step eQ,hE,hC3⟩,hmu⟩⟩
  ·have g2:¬(gi V.IE g9).IL.I'>0:=Ou g2;have CZ5:=hp6.rd.g.IG (i:=g9) u0 hg5;rw[CZ2] at CZ5;refine⟨hp6.some,_,_,_,hp6.IE,hp6.rd.g.ix u0 hg5,_,CZ5,λSw eQ _=>⟨⟨k+1,_,GQ V c u9 g9,rfl,Qo,hun,?_,hE,hC3⟩,hmu⟩⟩;rw[vK g2];exact jX.step eQ
 ·have gz:g9 = -1:=by simpa using gz
  subst gz;have hE:DD c u9 (QV W t) (J' W t (Tb W t u9))=V:=hE;have hcV:V.IF=W.IF:=hC.cp;have cV:c<(V.IF.length:Int):=by rw[Ab3];exact c1
  have hcr:=rb.c c c0 c1;have hs:=MQ (n:=Int.toNat c*5) (hp3.rd.c c c0 cV);have e1:=fX.own.AF2 c0 cV (j:=3) (vs:=[I ((gi W.IF c).busy+u9)]) (x:={ gi W.IF c with busy:=(gi W.IF c).busy+u9 }) (by rw[hcV];rfl) Qs;have uG:(V.IF.set c.toNat { gi W.IF c with busy:=(gi W.IF c).busy+u9 }).length=V.IF.length:=E';have hg1:gi (V.IF.set c.toNat { gi W.IF c with busy:=(gi W.IF c).busy+u9 }) c={ gi W.IF c with busy:=(gi W.IF c).busy+u9 }:=(Qx _ _ c0 cV c0).trans (C' rfl);have e2:=e1.AF2 c0 (by simpa using cV) (j:=2) (vs:=[I ((gi W.IF c).SX+u9)]) (x:=Fp W c u9) (by rw[hg1];rfl) Qs;have cM:Mp base pb [b] w m _ ({ V with IF:=V.IF.set c.toNat { gi W.IF c with busy:=(gi W.IF c).busy+u9 } }:Q7) m:=fX.Ss e1 Dz (by simp[Qc]);have nM:Mp base pb [b] w m _ ({ V with IF:=(V.IF.set c.toNat { gi W.IF c with busy:=(gi W.IF c).busy+u9 }).set c.toNat (Fp W c u9) }:Q7) m:=cM.Ss e2 Dz (by simp[Qc])
  have hW5:({ V with IF:=(V.IF.set c.toNat { gi W.IF c with busy:=(gi W.IF c).busy+u9 }).set c.toNat (Fp W c u9) }:Q7)=Ui W c t u9:=by
   unfold Ui RO;rw[hE,List.set_set]
  rw[hW5] at nM;have qS:=JK (hp3.rd.c c c0 cV) (j:=3) rfl;rw[hcV] at qS;have c4:c<((({ V with IF:=V.IF.set c.toNat { gi W.IF c with busy:=(gi W.IF c).busy+u9 } }:Q7).IF.length:Nat):Int):=by show c<((V.IF.set c.toNat _).length:Int);rw[uG];exact cV
  have hp4:=cM.wpt;have hr4:=JK (hp4.rd.c c c0 c4) (j:=2) rfl;rw[show gi ({ V with IF:=V.IF.set c.toNat { gi W.IF c with busy:=(gi W.IF c).busy+u9 } }:Q7).IF c=_ from hg1] at hr4;have Cw2:=VU hp4 c0 c4;refine⟨_,VU hp3 c0 cV,hs,_,qS,⟨by show _<=(gi W.IF c).busy+u9;omega,by show (gi W.IF c).busy+u9<=_;omega⟩,hs,M5.2 (zpk fX.own fX.nb c0 cV Qd),?_⟩;rw[TQ];refine⟨_,Cw2,hs,_,hr4,⟨by show _<=(gi W.IF c).SX+u9;omega,by show (gi W.IF c).SX+u9<=_;omega⟩,hs,M5.2 (zpk e1 fX.nb c0 c4 Qd),?_⟩;rw[TQ];exact λWL kL=>⟨rfl,(nM.step kL).close⟩
end
def cO:Code->Code
 |.loop c=>c
 |c=>c
noncomputable def Oe(l:Option Nat):V1:={ P:=Tryz.prog,T:=TT zwc,pf:=z0j,ef:=z0g,tt:=z3x,vis:=[2,4],n:=52,pm:=false,wr:=false,rd:=l }
noncomputable def GH:List (Nat×Yw):=[]
noncomputable def XO:Code:=(cL ((Po Tryz.f89)))
def O9(g:OA)(f:Int)(w:Wo)(R:Exit->List Va->Wo->Prop):Prop:= (∀a c,Q0 [] w c->w.heap.size<=a->c.heap[a]? = some (Obj.cells ([.pointer g,I f]:List Va).toArray TV (0,0))->a∉([]:List Nat)->(∀b d,Q0 [] c d->c.heap.size<=b->d.heap[b]? = some (Obj.cells ([.bool false]:List Va).toArray ZA (0,0))->b∉([]:List Nat)->(∀e,Q0 [] d e->R .normal [.pointer ((some (Addr.mk a 0 none)).map (·.add 0)),.pointer ((some (Addr.mk b 0 none)).map (·.add 0))] e)))
def GM(l:Option Nat)(p:OA)(p1:Int)(w:Wo)(R:Exit->List Va->Wo->Prop):As (Oe l) GH XO (VT [(0,.agg #[.pointer p,.int .i64 p1])]) w (H6 [2,4] R)=O9 p p1 w R:=Qk
def Gx(l:Option Nat)(p:OA)(p1:Int){w:Wo}{R:Exit->List Va->Wo->Prop}{Q:Exit->Act->Wo->Prop}{a:Act}(hn:a.tmps.size=52)(hin:FM [(0,.agg #[.pointer p,.int .i64 p1])] a)(hvc:O9 p p1 w R)(hQ:∀e vs a1 w1,R e vs w1->zwd (Xp XO) [2,4] a a1 vs->Q e a1 w1):XO.wpIn (M7 l) 0 Tryz.prog Q a w:=
 zno (C:=Oe l) (z3h _ _ _ _ _) hn hin (by rw[GM];exact hvc) hQ
noncomputable def Og(l:Option Nat):V1:={ P:=Tryz.prog,T:=TT zwc,pf:=z0j,ef:=z0g,tt:=z3x,vis:=[],n:=52,pm:=false,wr:=false,rd:=l }
noncomputable def GJ:List (Nat×Yw):=[]
noncomputable def XP:Code:=(cL (cL (cR (cR ((Po Tryz.f89))))))
def Oc(g:Int)(f:OA)(w:Wo)(R:Exit->List Va->Wo->Prop):Prop:= f.isSome/\(∃(b:OA),Q1 [] w f 0 [.pointer b]/\b.isSome/\(∃(a:OA) (e:Nat) (h:Nat),Q1 [] w b (0+2) [S a e h]/\Ix a e g/\(∃(d:Int),Q1 [] w a (Int.toNat g*9+1) [I d]/\(∀c,Q0 [] w c->R .normal [I d] c))))
def GO(l:Option Nat)(task:Int)(p:OA)(w:Wo)(R:Exit->List Va->Wo->Prop):As (Og l) GJ XP (VT [(1,.int .i64 task),(2,.pointer p)]) w (H6 [5] R)=Oc task p w R:=Qk
def Gz(l:Option Nat)(task:Int)(p:OA){w:Wo}{R:Exit->List Va->Wo->Prop}{Q:Exit->Act->Wo->Prop}{a:Act}(hn:a.tmps.size=52)(hin:FM [(1,.int .i64 task),(2,.pointer p)] a)(hvc:Oc task p w R)(hQ:∀e vs a1 w1,R e vs w1->zwd (Xp XP) [5] a a1 vs->Q e a1 w1):XP.wpIn (M7 l) 0 Tryz.prog Q a w:=
 zno (C:=Og l) (z3h _ _ _ _ _) hn hin (by rw[GO];exact hvc) hQ
noncomputable def P6(l:Option Nat):V1:={ P:=Tryz.prog,T:=TT zwc,pf:=z0j,ef:=z0g,tt:=z3x,vis:=[],n:=52,pm:=false,wr:=false,rd:=l }
noncomputable def Hu:List (Nat×Yw):=[]
noncomputable def J4:Code:=(cL (cO (cB (cR (cL (cR (cR ((Po Tryz.f89)))))))))
def P4(a:Int)(w:Wo)(R:Exit->List Va->Wo->Prop):Prop:= ((a != 0)->(∀b,Q0 [] w b->R .normal [] b))/\((a != 0)=false->(∀c,Q0 [] w c->R (.exit 0) [] c))
def HC(l:Option Nat)(g:Int)(w:Wo)(R:Exit->List Va->Wo->Prop):As (P6 l) Hu J4 (VT [(5,.int .i64 g)]) w (H6 [] R)=P4 g w R:=Qk
def H7(l:Option Nat)(g:Int){w:Wo}{R:Exit->List Va->Wo->Prop}{Q:Exit->Act->Wo->Prop}{a:Act}(hn:a.tmps.size=52)(hin:FM [(5,.int .i64 g)] a)(hvc:P4 g w R)(hQ:∀e vs a1 w1,R e vs w1->zwd (Xp J4) [] a a1 vs->Q e a1 w1):J4.wpIn (M7 l) 0 Tryz.prog Q a w:=
 zno (C:=P6 l) (z3h _ _ _ _ _) hn hin (by rw[HC];exact hvc) hQ
noncomputable def Od(l:Option Nat):V1:={ P:=Tryz.prog,T:=TT zwc,pf:=z0j,ef:=z0g,tt:=z3x,vis:=[],n:=52,pm:=false,wr:=false,rd:=l }
noncomputable def GG:List (Nat×Yw):=[]
noncomputable def YP:List Code:=[cL (cB (cL (cR (cO (cB (cR (cL (cR (cR ((Po Tryz.f89))))))))))),cL (cR (cB (cL (cR (cO (cB (cR (cL (cR (cR ((Po Tryz.f89))))))))))))]
def O8(c:OA)(d:Int)(w:Wo)(R:Exit->List Va->Wo->Prop):Prop:= c.isSome/\(∃(e:OA),Q1 [] w c 0 [.pointer e]/\e.isSome/\(∃(b:OA) (j:Nat) (m:Nat),Q1 [] w e (0+3) [S b j m]/\Ix b j d/\(∃(a:Int),Q1 [] w b (Int.toNat d*14+8+0) [I a]/\((decide (a>0))->c.isSome)/\(∃(g:Int),((decide (a>0))->Q1 [] w c 1 [I g])/\((decide (a>0))->(AY [] w λf=>Cz JL #[.pointer (b.map (·.add (Int.toNat d*14+8))),.agg #[I 1,I g,I 0]] f λn l=>(∃(i:Int),n=.returned (I i)/\Q9 [] f l/\(∀h,Q0 [] l h->R .normal [.bool ((decide (a>0))&&(i==2))] h))))/\(((decide (a>0))->False)->(∀k,Q0 [] w k->R .normal [.bool false] k))))))
def GL(l:Option Nat)(p:OA)(g:Int)(w:Wo)(R:Exit->List Va->Wo->Prop):z7a (Od l) GG YP (VT [(2,.pointer p),(5,.int .i64 g)]) w (H6 [48] R)=O8 p g w R:=Qk
def Gw(l:Option Nat)(p:OA)(g:Int){w:Wo}{R:Exit->List Va->Wo->Prop}{X:Code}{Q:Exit->Act->Wo->Prop}{a:Act}(hn:a.tmps.size=52)(hin:FM [(2,.pointer p),(5,.int .i64 g)] a)(hvc:O8 p g w R)(hX:∀vs a1 w1,R .normal vs w1->zwd (Ks YP) [48] a a1 vs->X.wpIn (M7 l) 0 Tryz.prog Q a1 w1)(hQ:∀e vs a1 w1,e≠.normal->R e vs w1->zwd (Ks YP) [48] a a1 vs->Q e a1 w1):(zzi YP X).wpIn (M7 l) 0 Tryz.prog Q a w:=
 z6i (C:=Od l) (z3h _ _ _ _ _) hn hin (by rw[GL];exact hvc) hX hQ
noncomputable def Of(l:Option Nat):V1:={ P:=Tryz.prog,T:=TT zwc,pf:=z0j,ef:=z0g,tt:=z3x,vis:=[],n:=52,pm:=false,wr:=false,rd:=l }
noncomputable def GI:List (Nat×Yw):=[]
noncomputable def YQ:Code:=(cR (cR (cO (cB (cR (cL (cR (cR ((Po Tryz.f89))))))))))
def Oa(g:OA)(c:Int)(w:Wo)(R:Exit->List Va->Wo->Prop):Prop:= g.isSome/\(∃(b:OA),Q1 [] w g 0 [.pointer b]/\b.isSome/\(∃(a:OA) (e:Nat) (h:Nat),Q1 [] w b (0+3) [S a e h]/\Ix a e c/\(∃(f:Int),Q1 [] w a (Int.toNat c*14+1) [I f]/\(∀d,Q0 [] w d->R .normal [I f] d))))
def GN(l:Option Nat)(p:OA)(g:Int)(w:Wo)(R:Exit->List Va->Wo->Prop):As (Of l) GI YQ (VT [(2,.pointer p),(5,.int .i64 g)]) w (H6 [5] R)=Oa p g w R:=Qk
def Gy(l:Option Nat)(p:OA)(g:Int){w:Wo}{R:Exit->List Va->Wo->Prop}{Q:Exit->Act->Wo->Prop}{a:Act}(hn:a.tmps.size=52)(hin:FM [(2,.pointer p),(5,.int .i64 g)] a)(hvc:Oa p g w R)(hQ:∀e vs a1 w1,R e vs w1->zwd (Xp YQ) [5] a a1 vs->Q e a1 w1):YQ.wpIn (M7 l) 0 Tryz.prog Q a w:=
 zno (C:=Of l) (z3h _ _ _ _ _) hn hin (by rw[GN];exact hvc) hQ
noncomputable def Th(l:Option Nat):V1:={ P:=Tryz.prog,T:=TT zwc,pf:=z0j,ef:=z0g,tt:=z3x,vis:=[],n:=52,pm:=false,wr:=false,rd:=l }
noncomputable def G5:List (Nat×Yw):=[]
noncomputable def YD:Code:=(cR (cR (cR ((Po Tryz.f89)))))
def Td(b:OA)(w:Wo)(R:Exit->List Va->Wo->Prop):Prop:= Xh [] w b 0 1/\(∀a,Q0 [] (Rw w b 0 [.bool false]) a->R .ret [] a)
def Ga(l:Option Nat)(Ry:OA)(w:Wo)(R:Exit->List Va->Wo->Prop):As (Th l) G5 YD (VT [(4,.pointer Ry)]) w (H6 [] R)=Td Ry w R:=Qk
def LI(l:Option Nat)(Ry:OA){w:Wo}{R:Exit->List Va->Wo->Prop}{Q:Exit->Act->Wo->Prop}{a:Act}(hn:a.tmps.size=52)(hin:FM [(4,.pointer Ry)] a)(hvc:Td Ry w R)(hQ:∀e vs a1 w1,R e vs w1->zwd (Xp YD) [] a a1 vs->Q e a1 w1):YD.wpIn (M7 l) 0 Tryz.prog Q a w:=
 zno (C:=Th l) (z3h _ _ _ _ _) hn hin (by rw[Ga];exact hvc) hQ
end Go.Proofs.YtjinkcmkgnofjaaGreatDoor
