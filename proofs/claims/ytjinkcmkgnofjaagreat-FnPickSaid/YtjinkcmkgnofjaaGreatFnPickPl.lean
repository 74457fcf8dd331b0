/- Part 12 of what the law FnPick needs. -/
import Derived.Test.YtjinkcmkgnofjaaGreatFnPickPk
set_option linter.all false
set_option maxRecDepth 100000
set_option maxHeartbeats 8000000
namespace Go.Proofs.YtjinkcmkgnofjaaGreat
open Go.RowKit
def zp6{b:Jx}(h:VL b){c:Int}{e:Nat}(e1:(e:Int)<(b.locals.length:Int))(hp:gi b.locals (e:Int)>0):XQ (Yo b (e:Int)) c<=XQ b c:=by
 have hl:=h.l2
 have SZ:∀d:Nat,gi (Yo b (e:Int)).locals (d:Int)=if e=d then 0 else gi b.locals (d:Int):=λd=>by
  show gi (b.locals.set (e:Int).toNat 0) (d:Int)=_;rw[QD _ _ Qo e1 Qo]
  by_cases h:e=d
  ·subst h;simp
  ·rw[E' h,E' Qo]
 unfold XQ
 by_cases hc:(e:Int)=c
 ·have h1:=Ld (b:=b) (b':=Yo b (e:Int)) (c:=c) (λd hd=>by rw[SZ d,E' (λh=>hd (by rw[<-h];exact hc))]) 4
  have hw:gi b.RW c=false:=by
   cases hd:gi b.RW c with
   |false=>rfl
   |true=>
    have:=((h.each c Qo Qo).2.2 hd).1;rw[<-hc] at this;omega
  rw[h1];unfold zjz;rw[hw]
  split <;> simp
 ·have h1:=zgp (b:=b) (b':=Yo b (e:Int)) (c:=c) hc (by rw[SZ e,H' rfl]) hp (λd hd=>by rw[SZ d,E' (λh=>hd h.symm)]) 4;rw[H' Qo] at h1;have:zjz (Yo b (e:Int)) c<=1:=by unfold zjz;split <;> omega
  omega
def zp7{b:Jx}{c:Int}(c0:0<=c)(c1:c<(b.locals.length:Int))(hdl:b.RW.length=b.locals.length)(hw:gi b.RW c=false):XQ (YJ b c).1 c<=XQ b c/\((YJ b c).2=2->XQ (YJ b c).1 c<XQ b c)/\((YJ b c).2≠2->gi (YJ b c).1.RW c=false):=by
 unfold YJ;split
 ·exact⟨I9 _,λh=>(by cases h),λ_=>hw⟩
 ·have h1:=Ld (b:=b) (b':=⟨b.R4,b.Sy-Y1 20 b.Sy,b.WI,b.locals.set c.toNat (Y1 20 b.Sy),b.RW.set c.toNat (Y1 20 b.Sy==0)⟩) (c:=c) (λd hd=>by
   show gi (b.locals.set c.toNat (Y1 20 b.Sy)) (d:Int)=_;rw[QD _ _ c0 c1 Qo,E' λh=>hd h.symm]) 4
  have hd:gi (b.RW.set c.toNat (Y1 20 b.Sy==0)) c=(Y1 20 b.Sy==0):=by rw[QD _ _ c0 Qo c0,H' rfl]
  unfold XQ;rw[h1];unfold zjz;rw[hw];simp only[hd]
  by_cases hm:Y1 20 b.Sy=0
  ·rw[H' (show (Y1 20 b.Sy==0)=true by rw[hm];rfl),E' Qd];exact⟨Qo,λ_=>by omega,λh=>It (H' hm) h⟩
  ·have hb:(Y1 20 b.Sy==0)=false:=by simpa using hm
   rw[hb];exact⟨I9 _,λh=>(by rw[E' hm] at h;cases h),λ_=>rfl⟩
def zm4{b:Jx}{c n:Int}(c0:0<=c)(c1:c<(b.locals.length:Int)):XQ (Tq b c n).1 c=XQ b c:=by
 unfold Tq;split
 ·rfl
 ·unfold XQ zjz
  rw[Ld (b:=b) (c:=c) (λd hd=>by
   show gi (b.locals.set c.toNat (gi b.locals c-n)) (d:Int)=_;rw[QD _ _ c0 c1 Qo,E' λh=>hd h.symm]) 4]
def zct{F K:Int}{W:Q7}(h:SF F K W){k:Int}(hu:Q6 W.IE k)(hq:(gi W.IE k).IY.R4≠0)(c:Int):∀d:Nat,d<=W.IF.length->(∀j:Int,0<=j->XQ (gi (YG W k d).IE j).IY c<=XQ (gi W.IE j).IY c)
 |0,_=>λ_ _=>I9 _
 |d+1,hd=>by
  have ih:=zct h hu hq c d Qo;obtain⟨a,b,q⟩:=HM h hu hq d Qo;simp only[YG];split
  ·rename_i hc;have hu':Q6 (YG W k d).IE k:=by rw[b.g.dW];exact hu
   obtain⟨u0,u1,hg⟩:=a.w.a.u hu';have hb:=hg.IY q;have hl:=a.w.a.gl;intro j hj;show XQ (gi (Rw _ k _).IE j).IY c<=_;rw[Ym u0 Qo hj];split
   ·rename_i e;subst e;exact IC (zp6 hb.1 (by rw[hb.2.1,b.c];omega) hc.1) (ih k hj)
   ·exact ih j hj
  ·exact ih
def zcu{F K:Int}{W:Q7}(h:SF F K W)(c:Int):∀k:Nat,k<=8->∀j:Int,0<=j->XQ (gi (X1 W k).IE j).IY c<=XQ (gi W.IE j).IY c
 |0,_=>λ_ _=>I9 _
 |k+1,hk=>by
  have ih:=zcu h c k Qo;obtain⟨a,b⟩:=TJ h k Qo;have hl:=a.w.a.gl;simp only[X1];split
  ·rename_i hc;exact λj hj=>IC (zct a (Q5.2 ⟨Qo,Qo,hc.1⟩) hc.2 c _ (I9 _) j hj) (ih j hj)
  ·exact ih
def zlz{K:Int}{W:Q7}(sw:SW K W){c:Int}(c0:0<=c)(c1:c<(W.IF.length:Int))(i:Int)(hi:0<=i):(gi (VG W c).IE i).IY=(gi W.IE i).IY:=(zhx sw c0 c1).1.b i hi
def zb6{K:Int}{W:Q7}(sw:SW K W)(hK:0<=K)(i:Int)(hi:0<=i):∀c:Nat,c<=W.IF.length->(gi (JQ W c).IE i).IY=(gi W.IE i).IY
 |0,_=>rfl
 |c+1,hc=>by
  obtain⟨s1,f1⟩:=KS sw hK c Qo;rw[show JQ W (c+1)=VG (JQ W c) (c:Int) from rfl,zlz s1 Qo (by rw[f1.c];omega) i hi,zb6 sw hK i hi c Qo]
def zjc{K:Int}{W:Q7}(sw:SW K W)(hK:0<=K)(c:Int):Ka (Qh W) c<=Ka W c:=by
 obtain⟨s1,o1⟩:=Ov (F:=K) (K:=K+Qp) (sw.sf.mono (I4 _) (by simp only[Qp];omega)) (I4 _) W.IF.length (I9 _);obtain⟨s2,b2⟩:=TJ s1 8 (I9 _);refine Li (λk hk=>?_) 8 (I9 _);have h1:(gi (Qh W).IE (k:Int)).IY=(gi (X1 (YV W W.IF.length) 8).IE (k:Int)).IY:=zb6 s2.w (by simp only[Qp];omega) (k:Int) Qo W.IF.length (by show W.IF.length<=(X1 (YV W W.IF.length) 8).IF.length;rw[b2.c,o1.c];exact I9 _);rw[h1];have h2:=zcu s1 c 8 (I9 _) (k:Int) Qo;rw[o1.b (k:Int) Qo] at h2;exact h2
def YI(W:Q7)(t:Int):List Int:=QV W.IE (Q8 W t).II++[0]
def Nv(W:Q7)(c g:Int):Q7×Bool:=if (gi W.IE g).IY.R4=0 then (W,true) else (WW W g (YJ (gi W.IE g).IY c).1,decide ((YJ (gi W.IE g).IY c).2≠2))
def zdh(c:Int):List Int->Q7->Q7×Bool
 |[],W=>(W,true)
 |g::l,W=>if (Nv W c g).2=true then zdh c l (Nv W c g).1 else ((Nv W c g).1,false)
def zg3(W:Q7)(c g n:Int):Int:=if (gi W.IE g).IY.R4>0 then Y1 n (gi (gi W.IE g).IY.locals c) else n
def AW(W:Q7)(c:Int):List Int->Int->Int
 |[],n=>n
 |g::l,n=>AW W c l (zg3 W c g n)
def Nf(W:Q7)(c n g:Int):MK:={ Qb W g c with v:=if g≠0 then (Qb W g c).v+Z6 n (Qb W g c).w else (Qb W g c).v,sum:=(Qb W g c).sum+n }
def zb8(W:Q7)(c n g:Int):Jx:=if (gi W.IE g).IY.R4>0 then (YM (gi W.IE g).IY ⟨2,c,n⟩).1 else (gi W.IE g).IY
def Kj(W:Q7)(c n g:Int):Q7:=RR W g c (Nf W c n g)
def Fg(W:Q7)(c n g:Int):ZL:={ gi (Kj W c n g).IE g with sum:=(gi W.IE g).sum+n }
def A3(W:Q7)(c n g:Int):Q7:=WW (Rw (Kj W c n g) g (Fg W c n g)) g (zb8 W c n g)
def zd5(c n:Int):List Int->Q7->Q7
 |[],W=>W
 |g::l,W=>zd5 c n l (A3 W c n g)
def Kk(W:Q7)(t n:Int):Pv:={ Q8 W t with v:=(Q8 W t).v+Z6 n (Qe (Q8 W t).nice),sum:=(Q8 W t).sum+n,IW:=(Q8 W t).IW+n }
def zke(W:Q7)(c n:Int):Pe:={ gi W.IF c with busy:=(gi W.IF c).busy+n,WC:=(gi W.IF c).WC+n }
def OC(W:Q7)(c t n:Int):Q7:=S8 (zd5 c n (YI W t) (I' W t (Kk W t n))) c (zke W c n)
def Yh(W:Q7)(c t:Int):Pe:=if t≠(gi W.IF c).cur\/(gi W.IF c).WC>=50 then { gi W.IF c with cur:=t,WC:=0 } else gi W.IF c
def YX(W:Q7)(c t:Int):Q7:=S8 W c (Yh W c t)
def Ku(W:Q7)(c n:Int):Pe:={ gi W.IF c with idle:=(gi W.IF c).idle+n }
def YR(W:Q7)(c:Int):Q7×Bool:=zdh c (YI W (Qj W c)) (YX W c (Qj W c))
def Uf(W:Q7)(c left:Int):Int:=AW (YR W c).1 c (YI W (Qj W c)) left
def Df(W:Q7)(c left:Int):Q7×Int:=
 if (YR W c).2=true then (Qh (OC (YR W c).1 c (Qj W c) (Uf W c left)),left-Uf W c left) else (Qh (RG (YR W c).1 c),left)
def Cy(c:Int):Nat->Q7->Int->Q7
 |0,W,_=>W
 |f+1,W,left=>if left<=0 then Qh W else if Qj W c<0 then Qh (RG (S8 W c (Ku W c left)) c) else Cy c f (Df W c left).1 (Df W c left).2
structure znx (K c:Int) (W W':Q7):Prop where
 sw:SW K W'
 o:Vb W W'
 q:∀i:Int,0<=i->(gi W'.IE i).IY.R4=(gi W.IE i).IY.R4
 l:∀i:Int,0<=i->gi (gi W.IE i).IY.locals c>0->gi (gi W'.IE i).IY.locals c>0
 p:∀i:Int,0<=i->XQ (gi W'.IE i).IY c<=XQ (gi W.IE i).IY c
 su:VN W W'
def znx.refl{K c:Int}{W:Q7}(h:SW K W):znx K c W W:=⟨h,Vb.refl _,λ_ _=>rfl,λ_ _ h=>h,λ_ _=>I9 _,VN.refl _⟩
def znx.trans{K c:Int}{A B C:Q7}(h:znx K c A B)(k:znx K c B C):znx K c A C:=⟨k.sw,h.o.trans k.o,λi hi=>(k.q i hi).trans (h.q i hi),λi hi g=>k.l i hi (h.l i hi g),λi hi=>IC (k.p i hi) (h.p i hi),h.su.trans k.su⟩
def znh{b:Jx}(h:VL b){c:Int}(c0:0<=c)(c1:c<(b.locals.length:Int)):(gi b.locals c>0->(YJ b c).1=b)/\((YJ b c).2≠2->gi (YJ b c).1.locals c>0):=by
 unfold YJ;split
 ·rename_i hp;exact⟨λ_=>rfl,λ_=>hp⟩
 ·rename_i hn;refine⟨λh=>It h hn,λh2=>?_⟩;show gi (b.locals.set c.toNat (Y1 20 b.Sy)) c>0;rw[QD _ _ c0 c1 c0,H' rfl];have hm:=ze1 h.p1
  by_cases e:Y1 20 b.Sy=0
  ·exact It (H' e) h2
  ·omega
def zqy{K c:Int}{W:Q7}(sw:SW K W)(c0:0<=c)(c1:c<(W.IF.length:Int)){g:Int}(hu:Q6 W.IE g)(hd:(gi W.IE g).IY.R4≠0->gi (gi W.IE g).IY.RW c=false) :
  znx K c W (Nv W c g).1/\((Nv W c g).2->((gi W.IE g).IY.R4≠0->gi (gi (Nv W c g).1.IE g).IY.locals c>0)/\∀i:Int,0<=i->((gi W.IE i).IY.R4≠0->gi (gi W.IE i).IY.RW c=false)->(gi W.IE i).IY.R4≠0->gi (gi (Nv W c g).1.IE i).IY.RW c=false)
   /\ ((Nv W c g).2=false->XQ (gi (Nv W c g).1.IE g).IY c<XQ (gi W.IE g).IY c):=by
 obtain⟨u0,u1,hg⟩:=sw.a.u hu;have cN:=sw.a.gl;unfold Nv;split
 ·rename_i hq;exact⟨znx.refl sw,λ_=>⟨λh=>It hq h,λi _ h h2=>h h2⟩,λh=>by cases h⟩
 ·rename_i hq;obtain⟨hb,hbl,_⟩:=hg.IY hq;have rL:c<((gi W.IE g).IY.locals.length:Int):=Qo;obtain⟨cA,hl2,hq2⟩:=zhz hb c0 rL;obtain⟨p1,p2,p3⟩:=zp7 c0 rL hb.dl (hd hq);obtain⟨l1,l2⟩:=znh hb c0 rL;have ha:=sw.a.WW (g:=g) hu hq cA (by rw[hl2];exact hbl) hq2;have e:∀i:Int,0<=i->gi (WW W g (YJ (gi W.IE g).IY c).1).IE i=if g=i then { gi W.IE g with IY:=(YJ (gi W.IE g).IY c).1 } else gi W.IE i:=λi hi=>Ym u0 Qo hi
  have ob:=zcr (W:=W) (b:=(YJ (gi W.IE g).IY c).1) u0 Qo;refine⟨⟨(sw.sf.A83 ob ha).w,ob,λi hi=>?_,λi hi h=>?_,λi hi=>?_,zqr _ _ _⟩,λh=>?_,λh=>?_⟩
  ·show (gi (WW W g _).IE i).IY.R4=_;rw[e i hi];split
   ·rename_i e;subst e;exact hq2
   ·rfl
  ·show gi (gi (WW W g _).IE i).IY.locals c>0;rw[e i hi];split
   ·rename_i e;subst e;show gi (YJ (gi W.IE g).IY c).1.locals c>0;rw[l1 h];exact h
   ·exact h
  ·show XQ (gi (WW W g _).IE i).IY c<=_;rw[e i hi];split
   ·rename_i e;subst e;exact p1
   ·exact I9 _
  ·have h:(YJ (gi W.IE g).IY c).2≠2:=Ot h;refine⟨λ_=>?_,λi hi h1 h2=>?_⟩
   ·show gi (gi (WW W g _).IE g).IY.locals c>0;rw[e g u0,H' rfl];exact l2 h
   ·show gi (gi (WW W g _).IE i).IY.RW c=false;rw[e i hi];split
    ·rename_i e;subst e;exact p3 h
    ·exact h1 h2
  ·have h:(YJ (gi W.IE g).IY c).2=2:=Is λhn=>Ou h hn
   show XQ (gi (WW W g _).IE g).IY c<_;rw[e g u0,H' rfl];exact p2 h
def zqz{K c:Int}(c0:0<=c):∀(l:List Int) {W:Q7},SW K W->c<(W.IF.length:Int)->(∀g∈l,Q6 W.IE g)->(∀g∈l,(gi W.IE g).IY.R4≠0->gi (gi W.IE g).IY.RW c=false)->
  znx K c W (zdh c l W).1/\((zdh c l W).2->∀g∈l,(gi W.IE g).IY.R4≠0->gi (gi (zdh c l W).1.IE g).IY.locals c>0)/\((zdh c l W).2=false->∃g∈l,XQ (gi (zdh c l W).1.IE g).IY c<XQ (gi W.IE g).IY c)
 |[],W,sw,_,_,_=>⟨znx.refl sw,λ_ g hg=>(by cases hg),λh=>by cases h⟩
 |g::l,W,sw,c1,hu,hd=>by
  obtain⟨a,b,d⟩:=zqy sw c0 c1 (hu g Ib) (hd g Ib);simp only[zdh]
  by_cases h2:(Nv W c g).2=true
  ·rw[H' h2];obtain⟨b1,b2⟩:=b h2;have h0:∀x∈l,0<=x:=λx hx=>(Q5.1 (hu x (I3 _ hx))).1
   obtain⟨a',b',d'⟩:=zqz c0 l (W:=(Nv W c g).1) a.sw (by rw[a.o.c];exact c1) (λx hx=>by rw[a.o.g.dW];exact hu x (I3 _ hx)) λx hx hq=>by
    rw[a.q x (h0 x hx)] at hq;exact b2 x (h0 x hx) (hd x (I3 _ hx)) hq
   refine⟨a.trans a',λh x hx hq=>?_,λh=>?_⟩
   ·rcases Ik.1 hx with e|e
    ·subst e;exact a'.l x (Q5.1 (hu x Ib)).1 (b1 hq)
    ·exact b' h x e (by rw[a.q x (h0 x e)];exact hq)
   ·obtain⟨x,hx,IX⟩:=d' h;exact⟨x,I3 _ hx,Nat.lt_of_lt_of_le IX (a.p x (h0 x hx))⟩
  ·rw[E' h2];exact⟨a,λh=>(by cases h),λ_=>⟨g,Ib,d (by simpa using h2)⟩⟩
def zcn{W:Q7}{c:Int}:∀(l:List Int) (n:Int),1<=n->(∀g∈l,(gi W.IE g).IY.R4>0->gi (gi W.IE g).IY.locals c>0)->1<=AW W c l n/\AW W c l n<=n
 |[],n,h,_=>⟨h,I4 _⟩
 |g::l,n,h,hl=>by
  simp only[AW]
  have hm:1<=zg3 W c g n/\zg3 W c g n<=n:=by
   unfold zg3;split
   ·rename_i hq;have:=hl g Ib hq;unfold Y1
    split <;> omega
   ·exact⟨h,I4 _⟩
  have:=zcn l (zg3 W c g n) hm.1 λx hx=>hl x (I3 _ hx)
  omega
def Lp(n w:Int)(h0:0<=n)(h1:n<=100):0<=Z6 n w/\Z6 n w<=Qp:=by
 by_cases h:1<=w/\w<=20
 ·rw[TR h0 Qo h.1 h.2];have hs:=CL h.1 h.2;refine⟨Int.mul_nonneg h0 Qo,?_⟩
  calc n*zdb w<=100*zdb w:=Int.mul_le_mul_of_nonneg_right h1 Qo
   _<=100*232792560:=Int.mul_le_mul_of_nonneg_left hs.2 Qd
   _<=Qp:=Qd
 ·rw[Lq Qo];exact⟨I4 _,Qd⟩
def zlx{b:Jx}(h:VL b){c n:Int}(c0:0<=c)(c1:c<(b.locals.length:Int)):VL (YM b ⟨2,c,n⟩).1/\(YM b ⟨2,c,n⟩).1.locals.length=b.locals.length/\(YM b ⟨2,c,n⟩).1.R4=b.R4/\XQ (YM b ⟨2,c,n⟩).1 c=XQ b c:=by
 have e:YM b ⟨2,c,n⟩=Tq b c n:=by
  unfold YM;rw[E' (show ¬(2:Int)=4 by decide),E' (by rw[Qr.2 (by show 0<=c/\c<=_;omega)];decide),E' (show ¬(2:Int)=1 by decide),H' rfl]
 rw[e];obtain⟨a,b',d⟩:=zc8 h (n:=n) c0 c1;exact⟨a,b',d,zm4 c0 c1⟩
structure zq8 (K S c n:Int) (W W':Q7):Prop where
 sw:SW K W'
 rb:RB S W'
 now:W'.now=W.now
 t:W'.IK=W.IK
 cp:W'.IF=W.IF
 g:QY W.IE W'.IE
 p:∀i:Int,0<=i->XQ (gi W'.IE i).IY c=XQ (gi W.IE i).IY c
def zij{K S c n:Int}{W:Q7}(sw:SW K W)(rb:RB S W)(hS:S+n<=100000000000000000)(c0:0<=c)(c1:c<(W.IF.length:Int)){g:Int}(hu:Q6 W.IE g)(n0:0<=n)(n1:n<=100):zq8 (K+Qp) (S+n) c n W (A3 W c n g):=by
 obtain⟨u0,u1,hg⟩:=sw.a.u hu;have cN:=sw.a.gl;have hsl:=sw.a.sl hu;have hsr:=sw.s g c hu c0 c1;have hv:=Lp n (Qb W g c).w n0 n1;have hlg:0<=Qp:=Qd;have ea:∀{i:Int},0<=i->gi (Kj W c n g).IE i=if g=i then { gi W.IE g with IH:=(gi W.IE g).IH.set c.toNat (Nf W c n g) } else gi W.IE i:=λhi=>Ym u0 Qo hi
 have eg:∀i:Int,0<=i->gi (A3 W c n g).IE i=if g=i then { gi W.IE g with IH:=(gi W.IE g).IH.set c.toNat (Nf W c n g),sum:=(gi W.IE g).sum+n,IY:=zb8 W c n g } else gi W.IE i:=λi hi=>by
  have yS:g<((Rw (Kj W c n g) g (Fg W c n g)).IE.length:Int):=by
   have:(Rw (Kj W c n g) g (Fg W c n g)).IE.length=W.IE.length:=by simp[Rw,Kj,RR]
   rw[this];omega
  have hl2:g<((Kj W c n g).IE.length:Int):=by
   have:(Kj W c n g).IE.length=W.IE.length:=by simp[Rw,Kj,RR]
   rw[this];omega
  unfold A3 WW;rw[Ym u0 yS hi,Ym u0 hl2 hi,Ym u0 hl2 u0,H' rfl,ea hi];split
  ·unfold Fg;rw[ea u0,H' rfl]
  ·rfl
 have es:∀i d:Int,0<=i->0<=d->Qb (A3 W c n g) i d=if g=i/\c=d then Nf W c n g else Qb W i d:=λi d hi hd=>by
  rw[<-Jg (W:=W) (s:=Nf W c n g) u0 Qo c0 Qo hi hd];unfold Qb;show gi (gi (A3 W c n g).IE i).IH d=gi (gi (Kj W c n g).IE i).IH d;rw[eg i hi,ea hi]
  split <;> rfl
 have hT:QY W.IE (A3 W c n g).IE:=by
  have t1:=Xu (W:=W) (g:=g) (c:=c) (s:=Nf W c n g) u0 Qo;have t2:=Jh (W:=Kj W c n g) (g:=g) (x:=Fg W c n g) u0 (by show g<((Kj W c n g).IE.length:Int);rw[show (Kj W c n g).IE.length=W.IE.length from t1.len];omega) rfl rfl rfl;have t3:=Jh (W:=Rw (Kj W c n g) g (Fg W c n g)) (g:=g) (x:={ gi (Rw (Kj W c n g) g (Fg W c n g)).IE g with IY:=zb8 W c n g }) u0 (by rw[t2.len,show (Kj W c n g).IE.length=W.IE.length from t1.len];omega) rfl rfl rfl;exact(t1.trans t2).trans t3
 have hB:(zb8 W c n g).R4=(gi W.IE g).IY.R4/\XQ (zb8 W c n g) c=XQ (gi W.IE g).IY c/\((gi W.IE g).IY.R4=0->zb8 W c n g=(gi W.IE g).IY)/\((gi W.IE g).IY.R4≠0->VL (zb8 W c n g)/\(zb8 W c n g).locals.length=W.IF.length):=by
  unfold zb8;split
  ·rename_i hq;obtain⟨hb,hbl,_⟩:=hg.IY Qo;obtain⟨a,b,d,e⟩:=zlx hb (n:=n) c0 Qo;exact⟨d,e,λh=>by omega,λ_=>⟨a,by rw[b];exact hbl⟩⟩
  ·rename_i hq;refine⟨rfl,rfl,λ_=>rfl,λh=>?_⟩;obtain⟨hb,hbl,_⟩:=hg.IY h;exact⟨hb,hbl⟩
 have hrg:=rb.g g hu
 have hW:WA (A3 W c n g):=by
  have hl:=sw.a;refine⟨hl.n1,hl.n2,hl.c1,hl.c2,hl.t,hT.tree hl.tree,hl.ups,λk k0 k1=>?_⟩;unfold Pt;rw[eg k k0];split
  ·rename_i e;subst e;refine⟨λh=>?_,λ_=>⟨hg.w1,hg.w2,hg.m,hg.m0,Y2.2 ⟨by show 0<=(gi W.IE g).sum+n;omega,by show (gi W.IE g).sum+n<=_;omega⟩,by show (List.set _ _ _).length=_;rw[I0];exact hg.len,λh=>⟨(hg.root h).1,(hg.root h).2.1,by show (zb8 W c n g).R4=0;rw[hB.1];exact(hg.root h).2.2⟩,λh=>?_,λh=>?_⟩⟩
   ·have h:(gi W.IE g).IW=false:=h;rw[(Q5.1 hu).2.2] at h;cases h
   ·have h:(zb8 W c n g).R4=0:=h;rw[hB.1] at h;have:=hg.none h;exact⟨by show Tj (zb8 W c n g)=true;rw[hB.2.2.1 h];exact this.1,this.2⟩
   ·have h:(zb8 W c n g).R4≠0:=h;rw[hB.1] at h;obtain⟨_,_,hp⟩:=hg.IY h;exact⟨(hB.2.2.2 h).1,(hB.2.2.2 h).2,hp⟩
  ·have:=hl.grp k k0 k1;exact⟨this.1,λhu=>by have:=this.2 hu;exact⟨this.w1,this.w2,this.m,this.m0,this.s,this.len,this.root,this.none,this.IY⟩⟩
 refine⟨⟨hW,λt a b m=>?_,λt a b=>?_,λk d u a b=>?_,sw.cu⟩,⟨rb.n,λt a b=>?_,λk d u a b=>?_,λk u=>?_,λd a b=>?_⟩,rfl,rfl,rfl,hT,λi hi=>?_⟩
 ·rw[hT.dW];exact sw.t t a b m
 ·have:=sw.tv t a b;exact⟨this.1,by show (Q8 W t).v<=_;omega⟩
 ·rw[hT.dW] at u;have hk:=(Q5.1 u).1;have h:=sw.s k d u a b;rw[es k d hk a];split
  ·refine⟨hsr.1,by show (Qb W g c).IL<=_;omega,?_,?_,hsr.2.2.2.2.1,hsr.2.2.2.2.2⟩
   ·show 0<=if g≠0 then (Qb W g c).v+Z6 n (Qb W g c).w else (Qb W g c).v
    split <;> omega
   ·show (if g≠0 then (Qb W g c).v+Z6 n (Qb W g c).w else (Qb W g c).v)<=_
    split <;> omega
  ·exact⟨h.1,Qo,h.2.2.1,Qo,h.2.2.2.2.1,h.2.2.2.2.2⟩
 ·have:=rb.t t a b;exact⟨this.1,by show (Q8 W t).sum<=_;omega,this.2.2.1,by show (Q8 W t).IW<=_;omega⟩
 ·rw[hT.dW] at u;have hk:=(Q5.1 u).1;have h:=rb.s k d u a b;rw[es k d hk a];split
  ·have h2:=rb.s g c hu c0 c1;exact⟨by show 0<=(Qb W g c).sum+n;omega,by show (Qb W g c).sum+n<=_;omega⟩
  ·exact⟨h.1,Qo⟩
 ·rw[hT.dW] at u;have h:=rb.g k u;rw[eg k (Q5.1 u).1];split
  ·exact⟨by show 0<=(gi W.IE g).sum+n;omega,by show (gi W.IE g).sum+n<=_;omega⟩
  ·exact⟨h.1,Qo⟩
 ·have:=rb.c d a b;exact⟨this.1,by show (gi W.IF d).busy<=_;omega,this.2.2.1,this.2.2.2.1,this.2.2.2.2⟩
 ·rw[eg i hi];split
  ·rename_i e;subst e;exact hB.2.1
  ·rfl
def RB.mono{S S':Int}{W:Q7}(h:RB S W)(k:S<=S'):RB S' W:=
 ⟨h.n,λt a b=>by have:=h.t t a b;omega,λk c u a b=>by have:=h.s k c u a b;omega,λk u=>by have:=h.g k u;omega,λc a b=>by have:=h.c c a b;omega⟩
def RB.S8{S:Int}{W:Q7}(h:RB S W){c:Int}(c0:0<=c)(c1:c<(W.IF.length:Int)){x:Pe}(hx:0<=x.busy/\x.busy<=S/\0<=x.idle/\x.idle<=50000000000000000/\0<=x.WC/\x.WC<=149):RB S (S8 W c x):=by
 have hl:(W.IF.set c.toNat x).length=W.IF.length:=I0;refine⟨h.n,h.t,λk d u a b=>?_,h.g,λd a b=>?_⟩
 ·have b:d<(((W.IF.set c.toNat x).length:Nat):Int):=b;rw[hl] at b;exact h.s k d u a b
 ·have b:d<(((W.IF.set c.toNat x).length:Nat):Int):=b;rw[hl] at b;show _<=(gi (W.IF.set c.toNat x) d).busy/\(gi (W.IF.set c.toNat x) d).busy<=_/\_<=(gi (W.IF.set c.toNat x) d).idle/\(gi (W.IF.set c.toNat x) d).idle<=_/\_<=(gi (W.IF.set c.toNat x) d).WC/\(gi (W.IF.set c.toNat x) d).WC<=_;rw[QD _ _ c0 c1 a];split
  ·exact hx
  ·exact h.c d a b
def RB.I'{S:Int}{W:Q7}(h:RB S W)(hl:W.IK.length=12){t:Int}(t0:0<=t)(t1:t<12){x:Pv}(hx:0<=x.sum/\x.sum<=S/\0<=x.IW/\x.IW<=S):RB S (I' W t x):=by
 refine⟨h.n,λu a b=>?_,h.s,h.g,h.c⟩;show _<=(gi (W.IK.set t.toNat x) u).sum/\(gi (W.IK.set t.toNat x) u).sum<=_/\_<=(gi (W.IK.set t.toNat x) u).IW/\(gi (W.IK.set t.toNat x) u).IW<=_;rw[QD _ _ t0 Qo a];split
 ·exact hx
 ·exact h.t u a b
def zq8.trans{K S K' S' c n:Int}{A B C:Q7}(h:zq8 K S c n A B)(k:zq8 K' S' c n B C):zq8 K' S' c n A C:=
 ⟨k.sw,k.rb,k.now.trans h.now,k.t.trans h.t,k.cp.trans h.cp,h.g.trans k.g,λi hi=>(k.p i hi).trans (h.p i hi)⟩
def zoa{c n:Int}(c0:0<=c)(n0:0<=n)(n1:n<=100):∀(l:List Int) {K S:Int} {W:Q7},SW K W->RB S W->S+100*(l.length:Int)<=100000000000000000->c<(W.IF.length:Int)->(∀g∈l,Q6 W.IE g)->
  zq8 (K+Qp*(l.length:Int)) (S+100*(l.length:Int)) c n W (zd5 c n l W)
 |[],K,S,W,sw,rb,_,_,_=>⟨sw.mono Qs,rb.mono Qs,rfl,rfl,rfl,QY.refl _,λ_ _=>rfl⟩
 |g::l,K,S,W,sw,rb,hS,c1,hu=>by
  rw[List.length_cons] at hS ⊢;have h1:=zij sw rb Qo c0 c1 (hu g Ib) n0 n1;have h2:=zoa c0 n0 n1 l (W:=A3 W c n g) h1.sw (h1.rb.mono (show S+n<=S+100 by omega)) Qo (by rw[h1.cp];exact c1) λx hx=>by rw[h1.g.dW];exact hu x (I3 _ hx)
  have h3:=h1.trans h2;exact⟨h3.sw.mono (by simp only[Qp];omega),h3.rb.mono Qo,h3.now,h3.t,h3.cp,h3.g,h3.p⟩
def zs6{W W':Q7}{c:Int}(h:∀i:Int,0<=i->XQ (gi W'.IE i).IY c=XQ (gi W.IE i).IY c):Ka W' c=Ka W c:=
 Nat.le_antisymm (Li (λk _=>Nat.le_of_eq (h k Qo)) 8 (I9 _)) (Li (λk _=>Nat.le_of_eq (h k Qo).symm) 8 (I9 _))
def Np{W:Q7}(ha:WA W){t:Int}(hu:Q6 W.IE (Q8 W t).II):(∀g∈YI W t,Q6 W.IE g)/\(YI W t).length<=4:=by
 refine⟨λg hg=>?_,?_⟩
 ·rcases Ip.1 hg with h|h
  ·exact(Yy ha.tree _ hu g h).1
  ·rw[IB.1 h];exact ha.root
 ·have:=Cr W.IE 3 (Q8 W t).II;unfold YI;rw[Iq];show (U6 3 W.IE (Q8 W t).II).length+1<=4;omega
def zfg{W W':Q7}(ht:W'.IK=W.IK)(hT:QY W.IE W'.IE)(t:Int):YI W' t=YI W t:=by
 unfold YI;rw[XR ht,VE hT]
def Dh(f:Nat):Int:=Qt+(400-(f:Int))*346860914400
def EX(f:Nat):Int:=Qt+(400-(f:Int))*500
structure CX (f:Nat) (c:Int) (W0 W:Q7) (left:Int):Prop where
 sw:SW (Dh f) W
 rb:RB (EX f) W
 dm:Dm W c
 c0:0<=c
 c1:c<(W.IF.length:Int)
 up:(gi W.IF c).up=true
 now:W.now=W0.now
 len:W.IF.length=W0.IF.length
 l0:0<=left
 l1:left<=100
 f1:left+Ka W c<(f:Int)
 f2:f<=400
def Di{f:Nat}(h:f<=400):Qt<=Dh f/\Dh f<=50200000000000000:=by
 unfold Dh Qt;omega
def zfj{f:Nat}(h:f<=400):Qt<=EX f/\EX f<=50000000000200000:=by
 unfold EX Qt;omega
def zjl{W:Q7}(wp:Xw W)(r:LO W){c n:Int}(c0:0<=c)(c1:c<(W.IF.length:Int))(up:(gi W.IF c).up)(n0:0<=n)(n1:n<=100):CX 400 c W W n:=by
 have hp:=zs7 W c;exact⟨(P8 wp r).mono (by unfold Dh;omega),(zwb wp r).mono (by unfold EX;omega),zog wp c0 c1,c0,c1,up,rfl,rfl,n0,n1,Qo,I9 _⟩
def Dp{K S:Int}{c t:Int}{W:Q7}(sw:SW K W)(rb:RB S W)(c0:0<=c)(c1:c<(W.IF.length:Int))(up:(gi W.IF c).up)(t0:0<=t)(t1:t<12) :
  SW K (YX W c t)/\RB S (YX W c t)/\(gi (YX W c t).IF c).up/\(gi (YX W c t).IF c).WC<50/\(gi (YX W c t).IF c).cur=t/\(YX W c t).IF.length=W.IF.length:=by
 have e:gi (YX W c t).IF c=Yh W c t:=(QD _ _ c0 c1 c0).trans (H' rfl);have hl:(YX W c t).IF.length=W.IF.length:=I0;have hup:(Yh W c t).up:=by unfold Yh;split <;> exact up
 have hr:=rb.c c c0 c1;have hcu:=sw.cu c c0 c1;refine⟨sw.S8 c0 c1 (Fb (c:=c) (by rw[I0];exact sw.a.c2) c0 (by rw[I0];exact c1) (by rw[show gi (W.IF.set c.toNat (Yh W c t)) c=_ from e];exact hup)) ?_ ?_,rb.S8 c0 c1 ?_,by rw[e];exact hup,?_,?_,hl⟩
 ·unfold Yh;split
  ·show -1<=t;omega
  ·exact hcu.1
 ·unfold Yh;split
  ·exact t1
  ·exact hcu.2
 ·unfold Yh;split
  ·exact⟨hr.1,hr.2.1,hr.2.2.1,hr.2.2.2.1,by show (0:Int)<=0;decide,by show (0:Int)<=149;decide⟩
  ·exact hr
 ·rw[e];unfold Yh;split
  ·show (0:Int)<50;decide
  ·omega
 ·rw[e];unfold Yh;split
  ·rfl
  ·rename_i h;exact Is λhn=>h (.inl λe=>hn e.symm)
structure zwu (f:Nat) (c:Int) (W0 W:Q7) (left:Int):Prop where
 line:zj4 W (Qj W c) c
 us:Q6 W.IE (Q8 W (Qj W c)).II=true
 pin:∀g∈YI W (Qj W c),Q6 W.IE g=true
 len:(YI W (Qj W c)).length<=4
 s1:SW (Dh (f+1)) (YX W c (Qj W c))
 r1:RB (EX (f+1)) (YX W c (Qj W c))
 WC:(gi (YX W c (Qj W c)).IF c).WC<50
 tk:znx (Dh (f+1)) c (YX W c (Qj W c)) (YR W c).1
 dr:∀g∈YI W (Qj W c),(gi (YX W c (Qj W c)).IE g).IY.R4≠0->gi (gi (YX W c (Qj W c)).IE g).IY.RW c=false
 m:(YR W c).2->1<=Uf W c left/\Uf W c left<=left
 ch:(YR W c).2->SW (Dh (f+1)+5*Qp) (OC (YR W c).1 c (Qj W c) (Uf W c left))/\RB (EX (f+1)+500) (OC (YR W c).1 c (Qj W c) (Uf W c left))
 nx:CX f c W0 (Df W c left).1 (Df W c left).2
 gt:QY W.IE (Df W c left).1.IE
def zd6{K S c t n:Int}{W:Q7}(sw:SW K W)(rb:RB S W)(hS:S+500<=100000000000000000)(c0:0<=c)(c1:c<(W.IF.length:Int))(up:(gi W.IF c).up)(WC:(gi W.IF c).WC<50)(t0:0<=t)(t1:t<12)(hu:Q6 W.IE (Q8 W t).II)(n0:0<=n)(n1:n<=100) :
  SW (K+5*Qp) (OC W c t n)/\RB (S+500) (OC W c t n)/\Ka (OC W c t n) c=Ka W c/\(OC W c t n).now=W.now/\(OC W c t n).IF.length=W.IF.length/\(gi (OC W c t n).IF c).up/\SW (K+Qp) (I' W t (Kk W t n))/\RB (S+100) (I' W t (Kk W t n))/\zq8 (K+5*Qp) (S+500) c n (I' W t (Kk W t n)) (zd5 c n (YI W t) (I' W t (Kk W t n))):=by
 have hv:=Lp n (Qe (Q8 W t).nice) n0 n1;have hlg:0<=Qp:=Qd;have htv:=sw.tv t t0 t1;have htr:=rb.t t t0 t1;have hcr:=rb.c c c0 c1;obtain⟨hp1,n'⟩:=Np sw.a hu;have s1:SW (K+Qp) (I' W t (Kk W t n)):=(sw.mono (K':=K+Qp) Qo).I' t0 t1 (x:=Kk W t n) (λh=>sw.t t t0 t1 h) (by show 0<=(Q8 W t).v+Z6 n (Qe (Q8 W t).nice);omega) (by show (Q8 W t).v+Z6 n (Qe (Q8 W t).nice)<=_;omega);have r1:RB (S+100) (I' W t (Kk W t n)):=(rb.mono (S':=S+100) Qo).I' sw.a.t t0 t1 (x:=Kk W t n) ⟨by show 0<=(Q8 W t).sum+n;omega,by show (Q8 W t).sum+n<=_;omega,by show 0<=(Q8 W t).IW+n;omega,by show (Q8 W t).IW+n<=_;omega⟩;have h0:=zoa c0 n0 n1 (YI W t) s1 r1 Qo c1 hp1;have h2:zq8 (K+5*Qp) (S+500) c n (I' W t (Kk W t n)) (zd5 c n (YI W t) (I' W t (Kk W t n))):=⟨h0.sw.mono (by simp only[Qp];omega),h0.rb.mono Qo,h0.now,h0.t,h0.cp,h0.g,h0.p⟩;have kT:(zd5 c n (YI W t) (I' W t (Kk W t n))).IF=W.IF:=h2.cp
 have e:gi (OC W c t n).IF c=zke W c n:=by
  show gi ((zd5 c n (YI W t) (I' W t (Kk W t n))).IF.set c.toNat (zke W c n)) c=_;rw[kT];exact(QD _ _ c0 c1 c0).trans (H' rfl)
 have hlen:(OC W c t n).IF.length=W.IF.length:=by
  show ((zd5 c n (YI W t) (I' W t (Kk W t n))).IF.set c.toNat (zke W c n)).length=_;rw[I0,kT]
 have hcu:=sw.cu c c0 c1;refine⟨h2.sw.S8 c0 (by rw[kT];exact c1) (x:=zke W c n) (Fb (c:=c) ?_ c0 ?_ ?_) hcu.1 hcu.2,h2.rb.S8 c0 (by rw[kT];exact c1) (x:=zke W c n) ⟨by show 0<=(gi W.IF c).busy+n;omega,by show (gi W.IF c).busy+n<=_;omega,hcr.2.2.1,hcr.2.2.2.1,by show 0<=(gi W.IF c).WC+n;omega,by show (gi W.IF c).WC+n<=149;omega⟩,zs6 (W':=OC W c t n) h2.p,h2.now,hlen,by rw[e];exact up,s1,r1,h2⟩
 ·rw[I0,kT];exact sw.a.c2
 ·rw[I0,kT];exact c1
 ·rw[show gi ((zd5 c n (YI W t) (I' W t (Kk W t n))).IF.set c.toNat (zke W c n)) c=_ from e];exact up
def CD{K S c:Int}{W:Q7}(sw:SW K W)(rb:RB S W)(hK:0<=K)(c0:0<=c)(c1:c<(W.IF.length:Int))(up:(gi W.IF c).up) :
  SW (K+UW) (Qh W)/\RB S (Qh W)/\Dm (Qh W) c/\(gi (Qh W).IF c).up/\(Qh W).now=W.now/\(Qh W).IF.length=W.IF.length/\Ka (Qh W) c<=Ka W c:=by
 obtain⟨s,f⟩:=Tp sw hK;have su:=zju W;exact⟨s,rb.sum su f.g f.c,znb sw hK c0 c1,by rw[su.u];exact up,f.n,f.c,zjc sw hK c⟩
def zjk{f:Nat}{c left:Int}{W0 W:Q7}(h:CX (f+1) c W0 W left)(hl:0<left)(hp:¬Qj W c<0):zwu f c W0 W left:=by
 have hf:=h.f2;have hh0:(0:Int)<=Qt:=Qd;have hK:=Di (f:=f+1) hf;have hS:=zfj (f:=f+1) hf;have c0:=h.c0;have c1:=h.c1;have eK:Dh f=Dh (f+1)+346860914400:=by unfold Dh;omega
 have eS:EX f=EX (f+1)+500:=by unfold EX;omega
 have mT:=zcw h.sw.a (h.sw.cu c c0 c1).2 h.dm.cu hp;have hM:Uf W c left=AW (YR W c).1 c (YI W (Qj W c)) left:=rfl;have hT:YR W c=zdh c (YI W (Qj W c)) (YX W c (Qj W c)):=rfl;have hR:Df W c left=if (YR W c).2=true then (Qh (OC (YR W c).1 c (Qj W c) (Uf W c left)),left-Uf W c left) else (Qh (RG (YR W c).1 c),left):=rfl;have t0:=mT.t0;have t1:=mT.t1;obtain⟨us,_,_⟩:=h.sw.t _ t0 t1 (by rw[mT.st];decide);obtain⟨pin,CA7⟩:=Np h.sw.a us;obtain⟨s1,r1,u1,CQ9,cu1,l1⟩:=Dp h.sw h.rb c0 c1 h.up t0 t1
 have hdr:∀g∈YI W (Qj W c),(gi (YX W c (Qj W c)).IE g).IY.R4≠0->gi (gi (YX W c (Qj W c)).IE g).IY.RW c=false:=λg hg hq=>by
  have hq:(gi W.IE g).IY.R4≠0:=hq;show gi (gi W.IE g).IY.RW c=false;have uC:=pin g hg;obtain⟨u0,u8,kU⟩:=h.sw.a.u uC;rcases Ip.1 hg with hg|hg
  ·have hon:=mT.on g hg;have hz:=(Yy h.sw.a.tree _ us g hg).2;have:=h.dm.on g uC hz;unfold Uk at this;rw[hon] at this
   have hd:V6 W g c=false:=by
    cases hd:V6 W g c with
    |false=>rfl
    |true=>rw[hd] at this;simp at this
   unfold V6 at hd;have:=(kU.IY hq).1.q1;rw[Ij Qo,Bool.true_and] at hd;exact hd
  ·rw[IB.1 hg] at hq kU;exact It (kU.root rfl).2.2 hq
 obtain⟨tk,tl,tf⟩:=zqz c0 (YI W (Qj W c)) s1 (by rw[l1];exact c1) pin hdr;rw[<-hT] at tk tl tf;have eT:(YR W c).1.IK=W.IK:=tk.o.t;have eC:(YR W c).1.IF=(YX W c (Qj W c)).IF:=tk.o.c;have eG:QY W.IE (YR W c).1.IE:=tk.o.g;have lT:(YR W c).1.IF.length=W.IF.length:=by rw[eC,l1]
 have rT:RB (EX (f+1)) (YR W c).1:=r1.sum tk.su tk.o.g (by rw[eC]);have uT:Q6 (YR W c).1.IE (Q8 (YR W c).1 (Qj W c)).II:=by rw[eG.dW,XR eT];exact us
 have pT:YI (YR W c).1 (Qj W c)=YI W (Qj W c):=zfg eT eG _;have upT:(gi (YR W c).1.IF c).up:=by rw[eC];exact u1
 have BK7:(gi (YR W c).1.IF c).WC<50:=by rw[eC];exact CQ9
 have phT:Ka (YR W c).1 c<=Ka W c:=Li (λk _=>tk.p (k:Int) Qo) 8 (I9 _)
 have hm:(YR W c).2->1<=Uf W c left/\Uf W c left<=left:=λht=>by
  refine zcn _ left Qo λg hg hq=>?_
  have g0:=(Q5.1 (pin g hg)).1;rw[tk.q g g0] at hq;exact tl ht g hg Qo
 have yS:=h.l1;have hch:(YR W c).2->_:=λht=>zd6 (t:=Qj W c) (n:=Uf W c left) tk.sw rT Qo c0 (by rw[lT];exact c1) upT BK7 t0 t1 uT (by have:=hm ht;omega) (by have:=hm ht;omega)
 refine⟨mT,us,pin,CA7,s1,r1,CQ9,tk,hdr,hm,λht=>⟨(hch ht).1,(hch ht).2.1⟩,?_,?_⟩
 rotate_left
 ·rw[hR]
  by_cases ht:(YR W c).2=true
  ·rw[H' ht];have a:=(hch ht).1;have g1:QY (YR W c).1.IE (OC (YR W c).1 c (Qj W c) (Uf W c left)).IE:=(hch ht).2.2.2.2.2.2.2.2.g;exact(eG.trans g1).trans (Tp a (by simp only[Qp];omega)).2.g
  ·rw[E' ht];have g1:QY (YR W c).1.IE (RG (YR W c).1 c).IE:=QY.refl _;exact(eG.trans g1).trans (Tp (tk.sw.RG c0 (by rw[lT];exact c1)) Qo).2.g
 rw[hR];have hf1:=h.f1
 by_cases ht:(YR W c).2=true
 ·rw[H' ht];obtain⟨a,b,d,e1,e2,e3,_⟩:=hch ht;obtain⟨b1,b2,b3,b4,b5,b6,b7⟩:=CD a b (by simp only[Qp];omega) c0 (by rw[e2,lT];exact c1) e3;have hm:=hm ht
  exact⟨b1.mono (by simp only[Qp,UW];omega),b2.mono Qo,b3,c0,by rw[b6,e2,lT];exact c1,b4,by rw[b5,e1,tk.o.n];exact h.now,by rw[b6,e2,lT];exact h.len,by show 0<=left-Uf W c left;omega,by show left-Uf W c left<=100;omega,by
   rw[d] at b7;show left-Uf W c left+((Ka (Qh (OC (YR W c).1 c (Qj W c) (Uf W c left))) c:Nat):Int)<_;omega,Qo⟩
 ·rw[E' ht];have ht:(YR W c).2=false:=by simpa using ht
  obtain⟨g,hg,IX⟩:=tf ht;have g0:=Q5.1 (pin g hg);have cN:=h.sw.a.gl
  have hp1:Ka (YR W c).1 c<Ka W c:=by
   refine zk8 (λk _=>tk.p (k:Int) Qo) (j:=g.toNat) ?_ 8 Qo (I9 _);rw[show ((g.toNat:Nat):Int)=g by omega];exact IX
  have ce:c<((YR W c).1.IF.length:Int):=by rw[lT];exact c1
  have sE:=tk.sw.RG c0 ce;have eE:gi (RG (YR W c).1 c).IF c=XB (gi (YR W c).1.IF c):=(QD _ _ c0 ce c0).trans (H' rfl);have lE:(RG (YR W c).1 c).IF.length=(YR W c).1.IF.length:=I0;obtain⟨b1,b2,b3,b4,b5,b6,b7⟩:=CD sE (rT.sum (zln _ c) (QY.refl _) lE) Qo c0 (by rw[lE];exact ce) (by rw[eE];exact upT)
  exact⟨b1.mono (by simp only[Qp,UW];omega),b2.mono Qo,b3,c0,by rw[b6,lE];exact ce,b4,by rw[b5];show (YR W c).1.now=_;rw[tk.o.n];exact h.now,by rw[b6,lE,lT];exact h.len,h.l0,h.l1,by
   have b7:Ka (Qh (RG (YR W c).1 c)) c<=Ka (YR W c).1 c:=b7;show left+((Ka (Qh (RG (YR W c).1 c)) c:Nat):Int)<_;omega,Qo⟩
def zt9{b:Jx}{c:Int}(c0:0<=c)(c1:c<(b.locals.length:Int)):YM b ⟨1,c,0⟩=YJ b c:=by
 unfold YM;rw[E' (show ¬(1:Int)=4 by decide),E' (by rw[Qr.2 (by show 0<=c/\c<=_;omega)];decide),H' rfl]
def zeq{α:Type}[Inhabited α]{l:List α}{k:Nat}(h:k<l.length):l.drop k=gi l (k:Int)::l.drop (k+1):=by
 rw[List.drop_eq_getElem_cons h]
 congr 1
 unfold gi;rw[Ii,List.getD_eq_getElem?_getD,Io h];rfl
def zer{α:Type}[Inhabited α]{l:List α}{k:Nat}(h:k<l.length):gi l (k:Int)∈l:=by
 have:=List.getElem_mem h;unfold gi;rw[Ii,List.getD_eq_getElem?_getD,Io h];exact this
def zh1{c g:Int}{l:List Int}{W:Q7}:zdh c (g::l) W=if (Nv W c g).2=true then zdh c l (Nv W c g).1 else ((Nv W c g).1,false):=rfl
section
variable {base:Nat}{W:Q7}{m:MW}{w:Wo}
def P2{pb n:Nat}{l:List Int}{pO:OA}{pC:Nat}{w2:Wo}{bs:List Nat}{V:Q7}{m2:MW}(hp:Jy Jk 1 Qc pb w pO pC l)(hpn:∀x∈QE pO,x∉QS n m)(hM:Mv n base bs w m w2 V m2):Jy Jk 1 Qc pb w2 pO pC l/\znn bs w2 pO l:=by
 have h:=hp.ext hM.ext hpn
 exact⟨h,h.rd Yr.len λx hx hm=>by
  have:=(hp.lt x hx).2;have:=hM.new x hm;omega⟩
def Mv.put{n:Nat}{bs:List Nat}{w0 w w':Wo}{m0:MW}{b:Nat}(h:Mv n base bs w0 m0 w W m)(hx:Q0 bs w w')(hb:w.heap.size<=b):Mv n base (bs++[b]) w0 m0 w' W m:=(h.add hb).step (hx.mono λx hm=>Ic _ hm)
def za8{K c:Int}{l:List Int}{pO:OA}{pC pb:Nat}(h:Yn 8 base w W m)(sw:SW K W)(rQ:base<=w.heap.size)(hp:Jy Jk 1 Qc pb w pO pC l)(hpn:∀x∈QE pO,x∉QS 8 m)(hl4:l.length<=4)(c0:0<=c)(c1:c<(W.IF.length:Int))(hu:∀g∈l,Q6 W.IE g)(hd:∀g∈l,(gi W.IE g).IY.R4≠0->gi (gi W.IE g).IY.RW c=false) :
  Cz OQ #[.agg (Qa W m).toArray,.slice pO l.length pC,I c] w λe w'=>∃m',e=.returned (.tuple #[.agg (Qa W m).toArray,.bool (zdh c l W).2])/\Mv 8 base [] w m w' (zdh c l W).1 m':=by
 refine(zas _ _ _ _ _ _ _ _ _ _ pO l.length pC c (R:=λv w'=>∃m',v=.tuple #[.agg (Qa W m).toArray,.bool (zdh c l W).2]/\Mv 8 base [] w m w' (zdh c l W).1 m') ?_).mono λe w' ⟨v,he,m',hv,h3⟩=>⟨m',by rw[he,hv],h3⟩
 intro x hx x1 SD;have cN:=sw.a.gl;have rU:=Yz hx SD
 refine⟨λvs w2=>∃(k:Nat) (r:List Va) (V:Q7) (m2:MW),vs=I (k:Int)::r/\k<=l.length/\Mv 8 base [x,x1] w m w2 V m2/\zdh c l W=zdh c (l.drop k) V/\SW K V/\Vb W V/\∀g∈l.drop k,(gi V.IE g).IY.R4≠0->gi (gi V.IE g).IY.RW c=false,
  Zk l.length 0,λwr Ru _=>⟨0,_,W,m,rfl,Ig _,(Mv.two h hx SD).RJ Ru,rfl,sw,Vb.refl _,hd⟩,?_⟩
 rintro i1 ll Sd Sm Sr Sj So Sq Se Sf Sg w2 Wg ⟨k,r,V,m2,he,hk,dS,hE,swV,oV,hdV⟩;simp only[I6,I7,true_and] at he;obtain⟨rfl,_⟩:=he;have hmg:m2.gO=m.gO:=by rw[dS.hd]
 have hr:=dS.rd;have B71:V.IE.length=8:=swV.a.gl;obtain⟨_,hpr⟩:=P2 hp hpn dS;refine⟨λIX=>?_,λRX=>?_⟩
 ·have CK9:=Ot IX;have IX:k<l.length:=Qo;have hdr:=zeq IX;have kU:=hu _ (zer IX);rw[hdr] at hE hdV;have uC:Q6 V.IE (gi l (k:Int)):=by rw[oV.g.dW];exact kU
  have nX:=hpr (k:Int) Qo Qo;have AB3:=hpr.ix VY (i:=(k:Int)) Qo Qo;have hdk:=hdV _ Ib;generalize sS:gi l (k:Int)=g at hE hdV uC nX hdk kU hdr;obtain⟨u0,u1,hgg⟩:=swV.a.u uC;have Si:g<(V.IE.length:Int):=Qo;have WJ:Ix m.gO W.IE.length g:=by have:=hr.g.ix (i:=g) u0 Si;rwa[B71,<-cN,hmg] at this
  have AG4:=hr.g.cells g u0 Si;rw[hmg] at AG4;refine⟨AB3,g,nX,WJ,_,_,_,_,_,_,_,_,_,_,_,_,_,_,_,_,_,_,_,_,AG4,λb4 hb4=>⟨AG4,nX,rfl,λg1=>?_,λg1=>?_⟩⟩
  ·have g1:(gi V.IE g).IY.R4=0:=by simpa using g1
   have hT:Nv V c g=(V,true):=by unfold Nv;rw[H' g1]
   rw[zh1,hT,H' rfl] at hE;exact⟨⟨Qo,Qo⟩,λwr Ru _=>⟨⟨k+1,_,V,m2,by simp;rfl,Qo,dS.step Ru,hE,swV,oV,λy hy=>hdV y (I3 _ hy)⟩,QJ (k:=k) rfl rfl IX⟩⟩
  ·have g1:(gi V.IE g).IY.R4≠0:=by simpa using g1
   obtain⟨hb,hbl,_⟩:=hgg.IY g1;have BG4:c<(V.IF.length:Int):=by rw[oV.c];exact c1
   have rL:c<((gi V.IE g).IY.locals.length:Int):=Qo;intro RL Ru gX;have pX:=dS.put Ru hb4;have hr4:=pX.rd0;refine I5 (Jd (op:=⟨1,c,0⟩) hb (hr4.g.locals g u0 Si) (hr4.g.RW g u0 Si)) ?_;rintro e RH ⟨p,he,hO,hy⟩;rw[zt9 c0 rL] at he hO;have hM5:=pX.RJ hy;have hbs:base<=RL.heap.size:=by have:=pX.ext.size;omega
   have hOb:∀y∈ZQ p,RL.heap.size<=y:=λy hy=>(hO.lt y hy).1
   have BH1:=hM5.own.Bv1 (i:=g) u0 Qo (hO.mono hbs) (λy hy hm=>by have:=hOb y hy;have:=(pX.own.lt y hm).2;omega);have tI:=zb1 hM5.own hM5.nb (i:=g) u0 Qo (j:=8) (k:=5) Qd;have oA:=pX.ext.size
   have hM6:=hM5.swap BH1 F3 rfl λy hy=>by
    rcases Tm y hy with h1|h1
    ·exact .inl h1
    ·rcases Tl y h1 with h2|h2
     ·have:=hOb y h2;exact .inr ⟨Qo,λhm=>by have:=gX y hm;omega⟩
     ·exact .inl (JN Qo h2)
   rw[hmg] at tI;have hgO:m2.gO=m.gO:=hmg;rw[hgO] at hM6;obtain⟨_,Ck9⟩:=P2 hp hpn hM5;have CL7:=Ck9 (k:Int) Qo Qo;rw[sS] at CL7;have hTk:Nv V c g=(WW V g (YJ (gi V.IE g).IY c).1,decide ((YJ (gi V.IE g).IY c).2≠2)):=by unfold Nv;rw[E' g1]
   obtain⟨tk,t2,_⟩:=zqy swV c0 BG4 uC hdk;rw[zh1] at hE;refine⟨_,_,_,_,_,_,_,_,_,_,he,Qf hy gX,λb5 hb5=>⟨AB3,g,CL7,WJ,tI,λg2 Sw eM=>?_,λg2=>⟨⟨Qo,Qo⟩,λSw eM hs6=>⟨⟨k+1,_,WW V g (YJ (gi V.IE g).IY c).1,_,by simp;rfl,Qo,(hM6.step eM).BX7 Qs,?_,?_,?_,λy hy hq=>?_⟩,QJ (k:=k) rfl rfl IX⟩⟩⟩⟩
   ·have g2:(YJ (gi V.IE g).IY c).2=2:=by simpa using g2
    have:(Nv V c g).2=false:=by rw[hTk];simp[g2]
    rw[hE,this,E' Qd,hTk];exact⟨_,rfl,(hM6.step eM).close⟩
   all_goals
    have g2:(YJ (gi V.IE g).IY c).2≠2:=by simpa using g2
    have ht2:(Nv V c g).2:=by rw[hTk];simp[g2]
    have hT1:(Nv V c g).1=WW V g (YJ (gi V.IE g).IY c).1:=by rw[hTk]
   ·rw[hE,H' ht2,hT1]
   ·rw[<-hT1];exact tk.sw
   ·rw[<-hT1];exact oV.trans tk.o
   ·have y0:=(Q5.1 (hu y (List.mem_of_mem_drop hy))).1;rw[<-hT1] at hq ⊢;rw[tk.q y y0] at hq;exact(t2 ht2).2 y y0 (hdV y (I3 _ hy)) hq
 ·have RX:=Ou RX;have uB:k=l.length:=Qo;subst uB;rw[List.drop_length] at hE;rw[hE];exact λw3 Ru=>⟨m2,rfl,(dS.step Ru).close⟩
def za6{c n:Int}{l:List Int}{pO:OA}{pC:Nat}{bs:List Nat}(h:X0 bs w W m)(ha:WA W)(hp:znn bs w pO l)(hl4:l.length<=4)(c0:0<=c)(c1:c<(W.IF.length:Int))(hu:∀g∈l,Q6 W.IE g) :
  PX bs OP #[.agg (Qa W m).toArray,.slice pO l.length pC,I c,I n] w (I (AW W c l n)):=
 zbt _ _ _ _ _ _ _ _ _ _ pO l.length pC c n λwr hx=>by
  have h:=(h.ext hx).less (cs:=[]) Qs;have hp:=(hp.ext hx).less (cs:=[]) Qs;intro _ _;refine TM l.length 0 rfl (λy k=>k<=l.length/\AW W c l n=AW W c (l.drop k) y) ⟨Ig _,rfl⟩ λy k ⟨hk,hy⟩=>⟨λIX=>?_,λRX=>?_⟩
  ·have CK9:=Ot IX;have IX:k<l.length:=Qo;have hdr:=zeq IX;have kU:=hu _ (zer IX);rw[hdr] at hy;have nX:=hp (k:Int) Qo Qo;generalize gi l (k:Int)=g at hy nX kU;obtain⟨u0,u1,hgg⟩:=ha.u kU;have cN:=ha.gl;have hyy:AW W c (g::l.drop (k+1)) y=AW W c (l.drop (k+1)) (zg3 W c g y):=rfl;rw[hyy] at hy;refine⟨hp.ix VY (i:=(k:Int)) Qo Qo,g,nX,h.g.ix u0 Qo,_,_,_,_,_,_,_,_,_,h.g.IY u0 Qo,λb1 fI=>⟨h.g.IY u0 Qo,nX,rfl,λg1=>?_,λg1=>?_⟩⟩
   ·have g1:=Ot g1;obtain⟨hb,hbl,_⟩:=hgg.IY Qo;have hLo:=h.g.locals g u0 Qo;refine⟨hLo.ix VY c0 Qo,_,hLo c c0 Qo,_,J2,⟨Qo,Qo⟩,QG Qo ⟨Qo,?_⟩⟩;rw[hy];unfold zg3;rw[H' g1]
   ·have g1:=Ou g1;refine⟨⟨Qo,Qo⟩,QG Qo ⟨Qo,?_⟩⟩;rw[hy];unfold zg3;rw[E' g1]
  ·have RX:=Ou RX;have:k=l.length:=Qo;subst this;rw[List.drop_length] at hy;show I y=_;rw[hy];rfl
end
def zf5{c n g:Int}{l:List Int}{W:Q7}:zd5 c n (g::l) W=zd5 c n l (A3 W c n g):=rfl
def L7(W:Q7)(c n g:Int):(Kj W c n g).IE.length=W.IE.length:=by simp[Kj,RR,Rw]
def zii{W:Q7}{c n g:Int}(u0:0<=g)(u1:g<(W.IE.length:Int)):gi (Kj W c n g).IE g={ gi W.IE g with IH:=(gi W.IE g).IH.set c.toNat (Nf W c n g) }:=by
 unfold Kj RR;rw[Ym u0 u1 u0,H' rfl]
def zik{W:Q7}{c n g:Int}(u0:0<=g)(u1:g<(W.IE.length:Int)):gi (Rw (Kj W c n g) g (Fg W c n g)).IE g=Fg W c n g:=by
 rw[Ym u0 (by rw[L7];exact u1) u0,H' rfl]
def A4{W:Q7}{c n g:Int}(u0:0<=g)(u1:g<(W.IE.length:Int)):(Fg W c n g).IY=(gi W.IE g).IY:=by
 unfold Fg;rw[zii u0 u1]
def zf4{W:Q7}{c n g:Int}(u0:0<=g)(u1:g<(W.IE.length:Int))(h:¬(gi W.IE g).IY.R4>0):A3 W c n g=Rw (Kj W c n g) g (Fg W c n g):=by
 unfold A3 zb8;rw[E' h,<-A4 (c:=c) (n:=n) u0 u1];have:=zik (c:=c) (n:=n) u0 u1
 conv=>lhs;arg 3;rw[<-this]
 exact zjm u0 (by simp only[Rw,I0];rw[L7];exact u1)
section
variable {base:Nat}{W:Q7}{m:MW}{w:Wo}
def BN{K S t c n:Int}{pO:OA}{pC pb:Nat}(h:Yn 8 base w W m)(rQ:base<=w.heap.size)(hp:Jy Jk 1 Qc pb w pO pC (YI W t))(hpn:∀x∈QE pO,x∉QS 8 m)(sw:SW K W)(rb:RB S W)(hK:0<=K/\K<=60000000000000000)(hS:0<=S/\S<=60000000000000000)(c0:0<=c)(c1:c<(W.IF.length:Int))(up:(gi W.IF c).up)(WC:(gi W.IF c).WC<50)(t0:0<=t)(t1:t<12)(hu:Q6 W.IE (Q8 W t).II)(n0:0<=n)(n1:n<=100) :
  Cz Tf #[.agg (Qa W m).toArray,I t,.slice pO (YI W t).length pC,I c,I n] w λe w'=>∃m',e=.returned (.agg (Qa (Qh (OC W c t n)) m').toArray)/\Mv 8 base [] w m w' (Qh (OC W c t n)) m':=by
 obtain⟨sE,rE,_,_,hlE,_,s1,r1,cp1⟩:=zd6 sw rb Qo c0 c1 up WC t0 t1 hu n0 n1;obtain⟨pin,CA7⟩:=Np sw.a hu;refine(Bs _ _ _ _ _ _ _ _ _ _ t pO (YI W t).length pC c n (R:=λv w'=>∃m',v=.agg (Qa (Qh (OC W c t n)) m').toArray/\Mv 8 base [] w m w' (Qh (OC W c t n)) m') ?_).mono λe w' ⟨v,he,m',hv,h3⟩=>⟨m',by rw[he,hv],h3⟩
 intro x hx x1 SD;have cN:=sw.a.gl;have lB:=sw.a.t;have hlg:Qp=34686091440:=rfl;have bH:=h.rd (bs:=[]) Qs;have WJ:=bH.t.ix QF t0 Qo;have htv:=sw.tv t t0 t1;have htr:=rb.t t t0 t1;have hv:=Lp n (Qe (Q8 W t).nice) n0 n1;refine⟨WJ,_,_,_,_,_,_,_,_,_,bH.t t t0 Qo,λx2 Rt=>⟨_,ZG,_,Xb,⟨?_,?_⟩,⟨?_,?_⟩,⟨?_,?_⟩,WJ,zfy h Qs t0 Qo (j:=0) Qd,?_⟩⟩
 ·show _<=(Q8 W t).v+Z6 n (Qe (Q8 W t).nice);omega
 ·show (Q8 W t).v+Z6 n (Qe (Q8 W t).nice)<=_;omega
 ·show _<=(Q8 W t).sum+n;omega
 ·show (Q8 W t).sum+n<=_;omega
 ·show _<=(Q8 W t).IW+n;omega
 ·show (Q8 W t).IW+n<=_;omega
 have eT:Yn 8 base (RN w m.tO (Int.toNat t*9) (Ys (Kk W t n))) (I' W t (Kk W t n)) m:=h.AC1 t0 Qo (j:=0) (vs:=Ys (Kk W t n)) (x:=Kk W t n) (by simp[Ys]) (by simp[Ys]);have hM1:Mv 8 base [x,x1,x2] w m (RN w m.tO (Int.toNat t*9) (Ys (Kk W t n))) (I' W t (Kk W t n)) m:=((Mv.two h hx SD).add Rt).W9 eT LK
 refine⟨λvs w2=>∃(k:Nat) (V:Q7) (m2:MW),vs=[I (k:Int)]/\k<=(YI W t).length/\Mv 8 base [x,x1,x2] w m w2 V m2/\zd5 c n (YI W t) (I' W t (Kk W t n))=zd5 c n ((YI W t).drop k) V/\zq8 (K+Qp+Qp*(k:Int)) (S+100+100*(k:Int)) c n (I' W t (Kk W t n)) V,
  Zk (YI W t).length 0,λwr Ru _=>⟨0,_,m,rfl,Ig _,hM1.RJ Ru,rfl,⟨s1.mono Qs,r1.mono Qs,rfl,rfl,rfl,QY.refl _,λ_ _=>rfl⟩⟩,?_⟩
 rintro i1 w2 Wg ⟨k,V,m2,he,hk,dS,hE,hC⟩;simp only[I6,I7,true_and,and_true] at he;subst he;have hkk:0<=Qp*(k:Int)/\Qp*(k:Int)<=138744365760:=by simp only[Qp];omega
 have hk1:Qp*((k+1:Nat):Int)=Qp*(k:Int)+Qp:=by simp only[Qp];omega
 have hmg:m2.gO=m.gO:=by rw[dS.hd]
 have hmc:m2.cO=m.cO:=by rw[dS.hd]
 have hr:=dS.rd;have B71:V.IE.length=8:=hC.sw.a.gl;have BG4:V.IF.length=W.IF.length:=by rw[hC.cp];rfl
 obtain⟨_,hpr⟩:=P2 hp hpn dS;refine⟨λIX=>?_,λRX=>?_⟩
 ·have CK9:=Ot IX;have IX:k<(YI W t).length:=Qo;have hdr:=zeq IX;have kU:=pin _ (zer IX);rw[hdr,zf5] at hE;have uC:Q6 V.IE (gi (YI W t) (k:Int)):=by rw[hC.g.dW];exact kU
  have nX:=hpr (k:Int) Qo Qo;have AB3:=hpr.ix VY (i:=(k:Int)) Qo Qo;generalize sS:gi (YI W t) (k:Int)=g at hE uC nX kU hdr;have hC2:=hC.trans (zij hC.sw hC.rb Qo c0 (by rw[BG4];exact c1) uC n0 n1);have hC3:zq8 (K+Qp+Qp*((k+1:Nat):Int)) (S+100+100*((k+1:Nat):Int)) c n (I' W t (Kk W t n)) (A3 V c n g):=⟨hC2.sw.mono Qo,hC2.rb.mono Qo,hC2.now,hC2.t,hC2.cp,hC2.g,hC2.p⟩;obtain⟨u0,u1,hgg⟩:=hC.sw.a.u uC;have Si:g<(V.IE.length:Int):=Qo;have hsl:=hC.sw.a.sl uC;have hcs:c<((gi V.IE g).IH.length:Int):=Qo;have BG9:Ix m.gO W.IE.length g:=by have:=hr.g.ix (i:=g) u0 Si;rwa[B71,<-cN,hmg] at this
  have AG4:=hr.g.cells g u0 Si;rw[hmg] at AG4;have hss:=hr.g.IH g u0 Si;have hsc:=hss c c0 hcs;have B76:=hss.ix Zz c0 hcs;have hsv:=hC.sw.s g c uC c0 (by rw[BG4];exact c1);have hsr:=hC.rb.s g c uC c0 (by rw[BG4];exact c1);have hgr:=hC.rb.g g uC;have hv2:=Lp n (Qb V g c).w n0 n1;refine⟨AB3,g,nX,BG9,_,_,_,_,_,_,_,_,_,_,_,_,_,_,_,_,_,_,_,_,AG4,λb3 hb3=>⟨AG4,nX,rfl,B76,_,_,_,_,_,hsc,λb4 hb4=>⟨AB3,g,nX,?_⟩⟩⟩
  have eA:∀s:MK,s=Nf V c n g->Yn 8 base (RN w2 (m2.ms g.toNat).sO (Int.toNat c*5) (TY s)) (Kj V c n g) m2:=λs hs=>by
   subst hs;exact dS.own.BK9 u0 Qo c0 hcs (j:=0) (vs:=TY (Nf V c n g)) (x:=Nf V c n g) (by simp[TY]) (by simp[TY])
  have CN4:=zt0 dS.own dS.nb (i:=g) u0 Qo c0 hcs (j:=0) (k:=5) Qd;have B92:=hr.g.RY (i:=g) u0 Si;rw[hmg] at B92;refine⟨λg1=>?_,λg1=>?_⟩
  ·have g1:g≠0:=by simpa using g1
   have hs:(⟨(Qb V g c).IL,(Qb V g c).on,(Qb V g c).v+Z6 n (Qb V g c).w,(Qb V g c).w,(Qb V g c).sum+n⟩:MK)=Nf V c n g:=by unfold Nf;rw[H' g1]
   have eA:=eA _ hs;refine⟨_,Xb,⟨?_,?_⟩,⟨?_,?_⟩,AB3,g,nX,BG9,_,_,_,B92,B76,CN4,AB3,g,?_,⟨?_,?_⟩,BG9,?_,?_⟩
   ·show _<=(Qb V g c).v+Z6 n (Qb V g c).w;omega
   ·show (Qb V g c).v+Z6 n (Qb V g c).w<=_;omega
   ·show _<=(Qb V g c).sum+n;omega
   ·show (Qb V g c).sum+n<=_;omega
   ·have:=(P2 hp hpn (dS.W9 eA (N9 Qo))).2 (k:Int) Qo Qo;rw[sS] at this;exact this
   ·show _<=(gi V.IE g).sum+n;omega
   ·show (gi V.IE g).sum+n<=_;omega
   ·have:=zb1 eA dS.nb (i:=g) u0 Qo (j:=7) (k:=1) Qd;rw[hmg] at this;exact this
   have hM3:=((dS.add hb3).add hb4).W9 eA (N9 Qo);have eU:=eA.A84 (i:=g) u0 Qo (g:=Fg V c n g) rfl rfl rfl (j:=7) (vs:=[I ((gi V.IE g).sum+n)]) (by unfold Fg;rw[zii u0 Si];rfl) Qs;have pX:=hM3.W9 eU F3;rw[hmg] at pX;have pX:Mv 8 base [x,x1,x2,b3,b4] w m _ (Rw (Kj V c n g) g (Fg V c n g)) m2:=pX;have hgb:=A4 (c:=c) (n:=n) u0 Si;have hgi:=zik (c:=c) (n:=n) u0 Si;have hl5:(Rw (Kj V c n g) g (Fg V c n g)).IE.length=V.IE.length:=by simp only[Rw,I0];exact L7 _ _ _ _
   have AL4:=zf4 (c:=c) (n:=n) u0 Si;have aU:A3 V c n g=WW (Rw (Kj V c n g) g (Fg V c n g)) g (zb8 V c n g):=rfl;generalize Rw (Kj V c n g) g (Fg V c n g)=V5 at pX hgi hl5 AL4 aU;refine⟨λg2 Ra Ru kO=>?_,λg2=>⟨⟨Qo,Qo⟩,λRa Ru _=>⟨⟨k+1,A3 V c n g,m2,Qs,Qo,?_,hE,hC3⟩,QJ (k:=k) rfl rfl IX⟩⟩⟩
   ·have g2:(gi V.IE g).IY.R4>0:=Ot g2;have hB:zb8 V c n g=(YM (gi V.IE g).IY ⟨2,c,n⟩).1:=by unfold zb8;rw[H' g2]
    rw[hB] at aU;obtain⟨hb,hbl,_⟩:=hgg.IY Qo;have hM6:Mv 8 base [x,x1,x2,b3,b4] w m Ra V5 m2:=pX.step (Ru.mono λy hy=>by simp only[Ik,List.not_mem_nil,or_false] at hy ⊢;rcases hy with h|h|h <;> simp[h]);have hr6:=hM6.rd0;have hg5:g<(V5.IE.length:Int):=by rw[hl5];exact Si
    have hLo:=hr6.g.locals g u0 hg5;have hDo:=hr6.g.RW g u0 hg5;rw[hgi,hgb] at hLo hDo;refine I5 (Jd (op:=⟨2,c,n⟩) hb hLo hDo) ?_;rintro e RH ⟨p,he,hO,hy⟩;have hM7:=hM6.RJ hy;have hbs:base<=Ra.heap.size:=by have:=hM6.ext.size;omega
    have hOb:∀y∈ZQ p,Ra.heap.size<=y:=λy hy=>(hO.lt y hy).1
    have BH1:=hM7.own.Bv1 (i:=g) u0 Qo (hO.mono hbs) (λy hy hm=>by have:=hOb y hy;have:=(hM6.own.lt y hm).2;omega);have tI:=zb1 hM7.own hM7.nb (i:=g) u0 Qo (j:=8) (k:=5) Qd;have oA:=hM6.ext.size
    have hM8:=hM7.swap BH1 F3 rfl λy hy=>by
     rcases Tm y hy with h1|h1
     ·exact .inl h1
     ·rcases Tl y h1 with h2|h2
      ·have:=hOb y h2;exact .inr ⟨Qo,λhm=>by have:=kO y hm;omega⟩
      ·exact .inl (JN Qo h2)
    rw[hmg] at tI hM8;rw[<-aU] at hM8;have Bj7:=(P2 hp hpn hM7).2 (k:Int) Qo Qo;rw[sS] at Bj7;exact⟨_,_,_,_,_,_,_,_,_,_,he,Qf hy kO,λb5 hb5=>⟨AB3,g,Bj7,BG9,tI,⟨Qo,Qo⟩,λSw eM _=>⟨⟨k+1,A3 V c n g,_,Qs,Qo,(hM8.step eM).BX7 Qs,hE,hC3⟩,QJ (k:=k) rfl rfl IX⟩⟩⟩
   ·have g2:¬(gi V.IE g).IY.R4>0:=Ou g2;rw[AL4 g2];exact(pX.BX7 (cs:=[x,x1,x2]) (λy hy=>by simp only[Ik,List.not_mem_nil,or_false] at hy ⊢;rcases hy with h|h|h <;> simp[h])).step Ru
  ·have g1:¬g≠0:=by simpa using g1
   have hs:(⟨(Qb V g c).IL,(Qb V g c).on,(Qb V g c).v,(Qb V g c).w,(Qb V g c).sum+n⟩:MK)=Nf V c n g:=by unfold Nf;rw[E' g1]
   have eA:=eA _ hs;refine⟨⟨?_,?_⟩,AB3,g,nX,BG9,_,_,_,B92,B76,CN4,AB3,g,?_,⟨?_,?_⟩,BG9,?_,?_⟩
   ·show _<=(Qb V g c).sum+n;omega
   ·show (Qb V g c).sum+n<=_;omega
   ·have:=(P2 hp hpn (dS.W9 eA (N9 Qo))).2 (k:Int) Qo Qo;rw[sS] at this;exact this
   ·show _<=(gi V.IE g).sum+n;omega
   ·show (gi V.IE g).sum+n<=_;omega
   ·have:=zb1 eA dS.nb (i:=g) u0 Qo (j:=7) (k:=1) Qd;rw[hmg] at this;exact this
   have hM3:=((dS.add hb3).add hb4).W9 eA (N9 Qo);have eU:=eA.A84 (i:=g) u0 Qo (g:=Fg V c n g) rfl rfl rfl (j:=7) (vs:=[I ((gi V.IE g).sum+n)]) (by unfold Fg;rw[zii u0 Si];rfl) Qs;have pX:=hM3.W9 eU F3;rw[hmg] at pX;have pX:Mv 8 base [x,x1,x2,b3,b4] w m _ (Rw (Kj V c n g) g (Fg V c n g)) m2:=pX;have hgb:=A4 (c:=c) (n:=n) u0 Si;have hgi:=zik (c:=c) (n:=n) u0 Si;have hl5:(Rw (Kj V c n g) g (Fg V c n g)).IE.length=V.IE.length:=by simp only[Rw,I0];exact L7 _ _ _ _
   have AL4:=zf4 (c:=c) (n:=n) u0 Si;have aU:A3 V c n g=WW (Rw (Kj V c n g) g (Fg V c n g)) g (zb8 V c n g):=rfl;generalize Rw (Kj V c n g) g (Fg V c n g)=V5 at pX hgi hl5 AL4 aU;refine⟨λg2 Ra Ru kO=>?_,λg2=>⟨⟨Qo,Qo⟩,λRa Ru _=>⟨⟨k+1,A3 V c n g,m2,Qs,Qo,?_,hE,hC3⟩,QJ (k:=k) rfl rfl IX⟩⟩⟩
   ·have g2:(gi V.IE g).IY.R4>0:=Ot g2;have hB:zb8 V c n g=(YM (gi V.IE g).IY ⟨2,c,n⟩).1:=by unfold zb8;rw[H' g2]
    rw[hB] at aU;obtain⟨hb,hbl,_⟩:=hgg.IY Qo;have hM6:Mv 8 base [x,x1,x2,b3,b4] w m Ra V5 m2:=pX.step (Ru.mono λy hy=>by simp only[Ik,List.not_mem_nil,or_false] at hy ⊢;rcases hy with h|h|h <;> simp[h]);have hr6:=hM6.rd0;have hg5:g<(V5.IE.length:Int):=by rw[hl5];exact Si
    have hLo:=hr6.g.locals g u0 hg5;have hDo:=hr6.g.RW g u0 hg5;rw[hgi,hgb] at hLo hDo;refine I5 (Jd (op:=⟨2,c,n⟩) hb hLo hDo) ?_;rintro e RH ⟨p,he,hO,hy⟩;have hM7:=hM6.RJ hy;have hbs:base<=Ra.heap.size:=by have:=hM6.ext.size;omega
    have hOb:∀y∈ZQ p,Ra.heap.size<=y:=λy hy=>(hO.lt y hy).1
    have BH1:=hM7.own.Bv1 (i:=g) u0 Qo (hO.mono hbs) (λy hy hm=>by have:=hOb y hy;have:=(hM6.own.lt y hm).2;omega);have tI:=zb1 hM7.own hM7.nb (i:=g) u0 Qo (j:=8) (k:=5) Qd;have oA:=hM6.ext.size
    have hM8:=hM7.swap BH1 F3 rfl λy hy=>by
     rcases Tm y hy with h1|h1
     ·exact .inl h1
     ·rcases Tl y h1 with h2|h2
      ·have:=hOb y h2;exact .inr ⟨Qo,λhm=>by have:=kO y hm;omega⟩
      ·exact .inl (JN Qo h2)
    rw[hmg] at tI hM8;rw[<-aU] at hM8;have Bj7:=(P2 hp hpn hM7).2 (k:Int) Qo Qo;rw[sS] at Bj7;exact⟨_,_,_,_,_,_,_,_,_,_,he,Qf hy kO,λb5 hb5=>⟨AB3,g,Bj7,BG9,tI,⟨Qo,Qo⟩,λSw eM _=>⟨⟨k+1,A3 V c n g,_,Qs,Qo,(hM8.step eM).BX7 Qs,hE,hC3⟩,QJ (k:=k) rfl rfl IX⟩⟩⟩
   ·have g2:¬(gi V.IE g).IY.R4>0:=Ou g2;rw[AL4 g2];exact(pX.BX7 (cs:=[x,x1,x2]) (λy hy=>by simp only[Ik,List.not_mem_nil,or_false] at hy ⊢;rcases hy with h|h|h <;> simp[h])).step Ru
 ·have RX:=Ou RX;have uB:k=(YI W t).length:=Qo;subst uB;rw[List.drop_length] at hE;have hE:zd5 c n (YI W t) (I' W t (Kk W t n))=V:=hE;have hcV:V.IF=W.IF:=hC.cp;have cV:c<(V.IF.length:Int):=by rw[BG4];exact c1
  have AL3:Ix m.cO W.IF.length c:=by have:=hr.c.ix Zy c0 cV;rwa[BG4,hmc] at this
  have hcr:=rb.c c c0 c1;have e1:=dS.own.Aa5 c0 cV (j:=3) (vs:=[I ((gi W.IF c).busy+n)]) (x:={ gi W.IF c with busy:=(gi W.IF c).busy+n }) (by rw[hcV];rfl) Qs;have yS:(V.IF.set c.toNat { gi W.IF c with busy:=(gi W.IF c).busy+n }).length=V.IF.length:=I0;have hg1:gi (V.IF.set c.toNat { gi W.IF c with busy:=(gi W.IF c).busy+n }) c={ gi W.IF c with busy:=(gi W.IF c).busy+n }:=(QD _ _ c0 cV c0).trans (H' rfl);have e2:=e1.Aa5 c0 (by simpa using cV) (j:=2) (vs:=[I ((gi W.IF c).WC+n)]) (x:=zke W c n) (by rw[hg1];rfl) Qs;have hb:=hr.c.f c0 cV (j:=3) rfl;have uD:=znq dS.own dS.nb c0 cV (j:=3) (k:=1) Qd;have hM3:=dS.W9 e1 zby;have hrn:=hM3.rd.c.f c0 (by show c<((V.IF.set c.toNat { gi W.IF c with busy:=(gi W.IF c).busy+n }).length:Int);rw[yS];exact cV) (j:=2) rfl;have hw2:=znq e1 dS.nb c0 (by show c<((V.IF.set c.toNat { gi W.IF c with busy:=(gi W.IF c).busy+n }).length:Int);rw[yS];exact cV) (j:=2) (k:=1) Qd;rw[hmc] at hb uD hrn hw2;rw[hcV] at hb;rw[show gi ({ V with IF:=V.IF.set c.toNat { gi W.IF c with busy:=(gi W.IF c).busy+n } }:Q7).IF c=_ from hg1] at hrn;have pX:=hM3.W9 e2 zby
  have hW4:({ V with IF:=(V.IF.set c.toNat { gi W.IF c with busy:=(gi W.IF c).busy+n }).set c.toNat (zke W c n) }:Q7)=OC W c t n:=by
   unfold OC S8;rw[hE,List.set_set]
  rw[hmc] at pX;have pX:Mv 8 base [x,x1,x2] w m _ ({ V with IF:=(V.IF.set c.toNat { gi W.IF c with busy:=(gi W.IF c).busy+n }).set c.toNat (zke W c n) }:Q7) m2:=pX;rw[hW4] at pX;refine⟨AL3,_,hb,⟨?_,?_⟩,AL3,uD,AL3,_,hrn,⟨?_,?_⟩,AL3,hw2,λSC mE hs7=>?_⟩
  ·show _<=(gi W.IF c).busy+n;omega
  ·show (gi W.IF c).busy+n<=_;omega
  ·show _<=(gi W.IF c).WC+n;omega
  ·show (gi W.IF c).WC+n<=_;omega
  have hM7:=pX.step mE;have oA:=hM7.ext.size;have RD:=Qu hM7.own sE Qo Qo Qo;rw[show Qa (OC W c t n) m2=Qa W m from hM7.AI5 (by rw[show (OC W c t n).now=V.now from by rw[<-hW4]];exact hC.now) hlE (by rw[<-hW4,show ({ V with IF:=(V.IF.set c.toNat { gi W.IF c with busy:=(gi W.IF c).busy+n }).set c.toNat (zke W c n) }:Q7).IK=V.IK from rfl,hC.t];simp[I']) (by rw[<-hW4];exact hC.g.len)] at RD;refine I5 RD ?_;rintro e wv ⟨m3,he,hy⟩;exact⟨_,_,_,_,_,_,_,_,_,_,he,hM7.kept hy hs7,λU' rD=>⟨m3,rfl,((hM7.call hy hs7).step rD).close⟩⟩
end
def zi5{Q:Nat->Prop}(h:∃f,Q f):∃f,Q f/\∀g,Q g->f<=g:=by
 obtain⟨f,hf⟩:=h
 induction f using Nat.strongRecOn with
 |ind f ih=>
  by_cases h:∃g,g<f/\Q g
  ·obtain⟨g,hg,hq⟩:=h;exact ih g hg hq
  ·exact⟨f,hf,λg hq=>Nat.le_of_not_lt λIX=>h ⟨g,IX,hq⟩⟩
open Classical in
noncomputable def zi4(Q:Nat->Prop):Nat:=if h:∃f,Q f then (zi5 h).choose else 0
def zmq{Q:Nat->Prop}(h:∃f,Q f):Q (zi4 Q):=by
 unfold zi4;rw[dif_pos h];exact(zi5 h).choose_spec.1
def zss{Q:Nat->Prop}{f:Nat}(h:Q f):zi4 Q<=f:=by
 unfold zi4;rw[dif_pos ⟨f,h⟩];exact(zi5 ⟨f,h⟩).choose_spec.2 f h
noncomputable def Dg(W:Q7)(c n:Int):Int:=if Yp n 1 100=false\/Y4 W c=false then 1 else if (gi W.IF c).up=false then 6 else if QO W=false then 10 else 0
def zm8(W:Q7)(c n:Int):Q7:=Cy c 400 W n
def zhj{c:Int}{f:Nat}{W:Q7}{left:Int}(h:left<=0):Cy c (f+1) W left=Qh W:=by
 rw[Cy,H' h]
def zc1{c:Int}{f:Nat}{W:Q7}{left:Int}(h:¬left<=0)(hp:Qj W c<0):Cy c (f+1) W left=Qh (RG (S8 W c (Ku W c left)) c):=by
 rw[Cy,E' h,H' hp]
def zc2{c:Int}{f:Nat}{W:Q7}{left:Int}(h:¬left<=0)(hp:¬Qj W c<0):Cy c (f+1) W left=Cy c f (Df W c left).1 (Df W c left).2:=by
 rw[Cy,E' h,E' hp]
def zqh{W:Q7}{c n:Int}(hW:QH W)(hb:Dg W c n=0):Yp n 1 100/\Y4 W c/\(gi W.IF c).up/\QO W/\CX 400 c W W n:=by
 unfold Dg at hb
 split at hb
 ·cases hb
 ·rename_i h1
  split at hb
  ·cases hb
  ·rename_i h2
   split at hb
   ·cases hb
   ·rename_i h3
    have h1a:Yp n 1 100:=by
     cases h:Yp n 1 100 with
     |true=>rfl
     |false=>exact It (.inl h) h1
    have h1b:Y4 W c:=by
     cases h:Y4 W c with
     |true=>rfl
     |false=>exact It (.inr h) h1
    have h2:(gi W.IF c).up:=by simpa using h2
    have h3:QO W:=by simpa using h3
    obtain⟨c0,c1⟩:=Xg h1b;have:=Qr.1 h1a;exact⟨h1a,h1b,h2,h3,zjl (Qm.1 hW) (Qm.1 h3) c0 c1 h2 Qo Qo⟩
def zqf{f:Nat}{c left:Int}{W0 W:Q7}(h:CX f c W0 W left):∃g,f=g+1:=by
 have h1:=h.f1;have h2:=h.l0;exact⟨f-1,Qo⟩
def zow{f:Nat}{c left:Int}{W0 W:Q7}(h:CX f c W0 W left):SW (Dh f) (RG (S8 W c (Ku W c left)) c)/\SW (Dh f) (S8 W c (Ku W c left))/\0<=(gi W.IF c).idle+left/\(gi W.IF c).idle+left<=60000000000000000:=by
 have c0:=h.c0;have c1:=h.c1;have hcu:=h.sw.cu c c0 c1;have hl0:=h.l0;have yS:=h.l1;have hr:=h.rb.c c c0 c1;have s1:SW (Dh f) (S8 W c (Ku W c left)):=h.sw.S8 c0 c1 (Fb (c:=c) (by rw[I0];exact h.sw.a.c2) c0 (by rw[I0];exact c1) (by rw[show gi (W.IF.set c.toNat (Ku W c left)) c=Ku W c left from (QD _ _ c0 c1 c0).trans (H' rfl)];exact h.up)) hcu.1 hcu.2;exact⟨s1.RG c0 (by show c<((W.IF.set c.toNat (Ku W c left)).length:Int);rw[I0];exact c1),s1,Qo,Qo⟩
section
variable {W:Q7}{m:MW}{w:Wo}
def zlu(y y1:Nat)(w0:Wo)(c n:Int)(W:Q7)(f:Nat)(vs:List Va)(w2:Wo):Prop:=
 ∃(V:Q7) (m2:MW) (left:Int),vs=I left::Qa V m2/\Wk 8 [y,y1] w0 w2 V m2/\CX f c W V left/\Cy c f V left=zm8 W c n
def BH{c n:Int}(h:X0 [] w W m)(hl:Xk W) :
  Cz T9 #[.agg (Qa W m).toArray,I c,I n] w λe w'=>∃v,e=.returned v/\QM (Xz W (Dg W c n) (zm8 W c n)) w v w':=by
 refine Bm _ _ _ _ _ _ _ _ _ _ c n (R:=λv w'=>QM (Xz W (Dg W c n) (zm8 W c n)) w v w') ?_;intro y hy y1 eR;have hm0:=YQ;have rM:=hl.c;refine⟨_,YH h hl.c hl.t hl.g hl.f,λg wr hx=>QM.bad (by simpa using g) hx,λg wr Rt Wg=>?_⟩;have hW:QH W:=by simpa using g
 have wp:=Qm.1 hW;refine I5 (Ol (h.ext Rt) wp.a) ?_;rintro e wv ⟨m',he,hM,Wc⟩;have hK:=Wk.begin hy eR Rt Wg hM Wc;have hr:=hK.rd;refine⟨_,_,_,_,_,_,_,_,_,_,he,Qf Wc Wg,_,Ql,λ_=>⟨Qo,Qo⟩,Y4 W c,λ_=>Ql,λg Ra Ru=>?_,λg=>?_⟩
 ·have hb:Dg W c n=1:=by
   unfold Dg;rw[H']
   simpa using g
  exact QM.no hW (by rw[hb];decide) (hK.step Ru) hb
 have g:Yp n 1 100/\Y4 W c:=by simpa using g
 have hn1:¬(Yp n 1 100=false\/Y4 W c=false):=by rw[g.1,g.2];simp
 obtain⟨c0,c1⟩:=Xg g.2;have hro:=PZ hr hl;refine⟨hr.c.ix Zy c0 c1,_,hr.c.f c0 c1 (j:=0) rfl,λg2 Ra Ru=>?_,λg2=>⟨_,hro,λg3 Ra Ru=>?_,λg3=>?_⟩⟩
 ·have hb:Dg W c n=6:=by unfold Dg;rw[E' hn1,H' (by simpa using g2)]
  exact QM.no hW (by rw[hb];decide) (hK.step Ru) hb
 ·have g2:(gi W.IF c).up:=by simpa using g2
  have bH:¬QO W:=λhr=>by
   rw[show JA (Xw W/\LO W)=true from Qm.2 ⟨wp,Qm.1 hr⟩] at g3;cases g3
  have hb:Dg W c n=10:=by unfold Dg;rw[E' hn1,E' (by rw[g2];decide),H' (by simpa using bH)]
  exact QM.no hW (by rw[hb];decide) (hK.step Ru) hb
 have g2:(gi W.IF c).up:=by simpa using g2
 have bH:QO W:=by
  have hd:JA (Xw W/\LO W):=by simpa using g3
  exact Qm.2 (Qm.1 hd).2
 have hb:Dg W c n=0:=by unfold Dg;rw[E' hn1,E' (by rw[g2];decide),E' (by rw[bH];decide)]
 obtain⟨_,_,_,_,hI0⟩:=zqh hW hb;refine⟨λvs _ w2=>∃(V:Q7) (m2:MW) (K:Int),vs=Qa V m2/\Wk 8 [y,y1] w w2 V m2/\SW K V/\0<=K/\K<=60000000000000000/\Qh V=zm8 W c n,?_,?_⟩
 ·refine⟨λvs w2=>∃f,zlu y y1 w c n W f vs w2,λvs w2=>zi4 λf=>zlu y y1 w c n W f vs w2,λwr Ru _=>⟨400,W,m',n,rfl,hK.step Ru,hI0,rfl⟩,?_⟩;intro left l0 Sd Sm Sr Sj So Sq Se Sf Sg w2 kO hinv;obtain⟨f0,hf0⟩:∃f0,f0=zi4 λf=>zlu y y1 w c n W f [I left,I l0,.slice Sd Sm Sr,.slice Sj So Sq,.slice Se Sf Sg] w2:=⟨_,rfl⟩
  have hS:=zmq hinv;simp only[<-hf0] at hS ⊢;clear hf0 hinv;obtain⟨V,m2,Cy5,hv,hY,hI,hN⟩:=hS;simp only[Qa,I6,I7,Iy,true_and,and_true] at hv;obtain⟨rfl,rfl,⟨rfl,rfl,rfl⟩,⟨rfl,rfl,rfl⟩,rfl,rfl,rfl⟩:=hv;obtain⟨f,rfl⟩:=zqf hI;have BO6:∀{vs:List Va} {w9:Wo},zlu y y1 w c n W f vs w9->(∃f,zlu y y1 w c n W f vs w9)/\(zi4 λf=>zlu y y1 w c n W f vs w9)<f+1:=λhh=>⟨⟨f,hh⟩,Nat.lt_succ_of_le (zss hh)⟩
  have sU:=hY.rd;have hf:=hI.f2;have hKu:=Di hf;have hSu:=zfj hf;have hh0:(0:Int)<=Qt:=Qd;have c1V:=hI.c1;have AL3:=sU.c.ix Zy c0 c1V;refine⟨λIX=>?_,λRX=>?_⟩
  ·have IX:=Ot IX;refine⟨_,G6 sU hI.sw.a c0 c1V,λgp=>?_,λgp=>?_⟩
   ·have gp:=Ot gp;rw[zc1 Qo gp] at hN;obtain⟨i1,i2,i3,i4⟩:=zow hI;have e1:Yn 8 w.heap.size _ (S8 V c (Ku V c left)) m2:=hY.own.Aa5 c0 c1V (j:=4) (vs:=[I ((gi V.IF c).idle+left)]) (x:=Ku V c left) rfl Qs;refine⟨AL3,_,sU.c.f c0 c1V (j:=4) rfl,⟨Qo,Qo⟩,AL3,znq hY.own hY.nb c0 c1V (j:=4) Qd,λRO X' gX=>?_⟩;have dT:=(hY.RN e1 zby).step X';have RD:=Zr dT.own c0 (by show c<((V.IF.set c.toNat (Ku V c left)).length:Int);rw[I0];exact c1V);rw[Nh] at RD;refine I5 RD ?_;rintro e2 RH ⟨bS,pS⟩;exact⟨_,_,_,_,_,_,_,_,_,_,bS,dT.kept pS gX,λS5 Wb _=>⟨_,m2,_,rfl,(dT.W9 pS gX).step Wb,i1,Qo,Qo,hN⟩⟩
   ·have gp:=Ou gp;rw[zc2 Qo gp] at hN;have hR:=zjk hI IX gp;have t0:=hR.line.t0;have t1:=hR.line.t1;have lB:V.IK.length=12:=hI.sw.a.t;refine⟨λ_ _ w3=>Wk 8 [y,y1] w w3 (YX V c (Qj V c)) m2,?_,?_⟩
    ·refine⟨AL3,_,sU.c.f c0 c1V (j:=1) rfl,λ_=>AL3,_,λ_=>sU.c.f c0 c1V (j:=2) rfl,λg5=>?_,λg5 RO X' _=>?_⟩
     ·have g5:Qj V c≠(gi V.IF c).cur\/(gi V.IF c).WC>=50:=by simpa using g5
      have hS:Yh V c (Qj V c)={ gi V.IF c with cur:=Qj V c,WC:=0 }:=by unfold Yh;rw[H' g5]
      have e1:=hY.own.Aa5 c0 c1V (j:=1) (vs:=[I (Qj V c)]) (x:={ gi V.IF c with cur:=Qj V c }) rfl Qs;have yS:(V.IF.set c.toNat { gi V.IF c with cur:=Qj V c }).length=V.IF.length:=I0;have hg1:gi (V.IF.set c.toNat { gi V.IF c with cur:=Qj V c }) c={ gi V.IF c with cur:=Qj V c }:=(QD _ _ c0 c1V c0).trans (H' rfl);have e2:=e1.Aa5 c0 (by simpa using c1V) (j:=2) (vs:=[I 0]) (x:=Yh V c (Qj V c)) (by rw[hg1,hS];rfl) Qs
      have hW2:({ V with IF:=(V.IF.set c.toNat { gi V.IF c with cur:=Qj V c }).set c.toNat (Yh V c (Qj V c)) }:Q7)=YX V c (Qj V c):=by
       unfold YX S8;rw[List.set_set]
      have nG:=hY.RN e1 zby;have dT:Wk 8 [y,y1] w _ ({ V with IF:=(V.IF.set c.toNat { gi V.IF c with cur:=Qj V c }).set c.toNat (Yh V c (Qj V c)) }:Q7) m2:=nG.RN e2 zby;rw[hW2] at dT;exact⟨AL3,znq hY.own hY.nb c0 c1V (j:=1) Qd,AL3,znq e1 hY.nb c0 (by show c<((V.IF.set c.toNat { gi V.IF c with cur:=Qj V c }).length:Int);rw[yS];exact c1V) (j:=2) Qd,λRO X' _=>dT.step X'⟩
     ·have g5:¬(Qj V c≠(gi V.IF c).cur\/(gi V.IF c).WC>=50):=by simpa using g5
      have hS:YX V c (Qj V c)=V:=by
       unfold YX Yh S8;rw[E' g5,zna c0 c1V]
      rw[hS];exact hY.step X'
    ·intro WY kM dE Sw eM hs6;have rK:=dE.step eM;have hcG:=MU (t:=Qj V c) (rK.rd.less (cs:=[]) Qs) hR.s1.a.tree t0 (by show _<((V.IK.length:Nat):Int);omega) hR.us;have ecp:Qa (YX V c (Qj V c)) m2=Qa V m2:=Nh _ _ _ _;rw[ecp] at hcG;refine I5 hcG ?_;rintro e3 gV ⟨pO,pC,jM,hO,hy6⟩;have hO:Jy Jk 1 Qc Sw.heap.size gV pO pC (YI V (Qj V c)):=hO;have jM:e3=.returned (.slice pO (YI V (Qj V c)).length pC):=jM;have hK7:=rK.RJ hy6;refine⟨_,_,_,jM,Qf hy6 hs6,λU' rD hs8=>?_⟩;have hK8:=hK7.step rD
     have B85:∀z∈QE pO,z∉[y,y1]:=λz hz hm=>by
      have:=(hO.lt z hz).1;have:=hs6 z hm;omega
     have hO8:=hO.ext rD B85
     have B86:∀z∈QE pO,z∉QS 8 m2:=λz hz hm=>by
      have:=(hO.lt z hz).1;have:=(rK.own.lt z hm).2;omega
     have hcT:=za8 hK8.own hR.s1 hK8.base hO8 B86 hR.len c0 (by rw[(Dp hI.sw hI.rb c0 c1V hI.up t0 t1).2.2.2.2.2];exact c1V) hR.pin hR.dr;rw[ecp] at hcT;refine I5 hcT ?_;rintro e4 qP ⟨m3,he4,hy9⟩;have hK9:Wk 8 [y,y1] w qP (YR V c).1 m3:=hK8.W9 hy9 hs8;have hTk:zdh c (YI V (Qj V c)) (YX V c (Qj V c))=YR V c:=rfl;rw[hTk] at he4 hy9;have hO9:=hO8.ext hy9.ext B86
     have Ck8:∀z∈QE pO,z∉QS 8 m3:=λz hz hm=>by
      rcases hy9.sub z hm with h1|h1
      ·exact B86 z hz h1
      ·have:=(hO8.lt z hz).2;omega
     have eC:(YR V c).1.IF=(YX V c (Qj V c)).IF:=hR.tk.o.c;have lT:(YR V c).1.IF.length=V.IF.length:=by rw[eC];exact(Dp hI.sw hI.rb c0 c1V hI.up t0 t1).2.2.2.2.2
     have cT:c<((YR V c).1.IF.length:Int):=by rw[lT];exact c1V
     have e9:Qa (YR V c).1 m3=Qa V m2:=by
      rw[hy9.AI5 (W0:=YX V c (Qj V c)) hR.tk.o.n (by rw[eC]) (by rw[hR.tk.o.t]) hR.tk.o.g.len];exact ecp
     have rT:RB (EX (f+1)) (YR V c).1:=hR.r1.sum hR.tk.su hR.tk.o.g (by rw[eC]);have eT:(YR V c).1.IK=V.IK:=hR.tk.o.t;have eG:QY V.IE (YR V c).1.IE:=hR.tk.o.g;have pT:YI (YR V c).1 (Qj V c)=YI V (Qj V c):=zfg eT eG _;have uT:Q6 (YR V c).1.IE (Q8 (YR V c).1 (Qj V c)).II:=by rw[eG.dW,XR eT];exact hR.us
     have upT:(gi (YR V c).1.IF c).up:=by rw[eC];exact(Dp hI.sw hI.rb c0 c1V hI.up t0 t1).2.2.1
     have BK7:(gi (YR V c).1.IF c).WC<50:=by rw[eC];exact hR.WC
     have hnx:=hR.nx;refine⟨_,_,_,_,_,_,_,_,_,_,_,he4,hK8.kept hy9 hs8,λgt Sp AG6 rB=>?_,λgt=>?_⟩
     ·have gt:¬(YR V c).2:=by simpa using gt
      have hRW:Df V c left=(Qh (RG (YR V c).1 c),left):=by unfold Df;rw[E' gt]
      rw[hRW] at hnx hN;have AB0:=hK9.step AG6;have hcE:=Zr AB0.own c0 cT;rw[e9] at hcE;refine I5 hcE ?_;rintro e5 gA ⟨he5,BW8⟩;refine⟨_,_,_,_,_,_,_,_,_,_,he5,AB0.kept BW8 rB,λSv AB5 A35=>?_⟩;have A26:=(AB0.W9 BW8 rB).step AB5;refine I5 (Qu A26.own (hR.tk.sw.RG c0 cT) Qo Qo A26.base) ?_;rintro e6 kJ ⟨m4,he6,CA0⟩;generalize Qh (RG (YR V c).1 c)=V9 at he6 CA0 hnx hN;exact⟨_,_,_,_,_,_,_,_,_,_,he6,A26.kept CA0 A35,λWx BH4 _=>BO6 ⟨V9,m4,left,rfl,(A26.W9 CA0 A35).step BH4,hnx,hN⟩⟩
     ·have gt:(YR V c).2:=by simpa using gt
      have hRW:Df V c left=(Qh (OC (YR V c).1 c (Qj V c) (Uf V c left)),left-Uf V c left):=by unfold Df;rw[H' gt]
      rw[hRW] at hnx hN;obtain⟨m1,m2'⟩:=hR.m gt;have yS:=hI.l1;have hcM:=za6 (n:=left) hK9.rd hR.tk.sw.a (hO9.rd Yr.len B85) (pC:=pC) hR.len c0 cT (λz hz=>by rw[eG.dW];exact hR.pin z hz);rw[e9] at hcM;refine⟨_,hcM,λSp AG6 rB=>?_⟩;have AB0:=hK9.step AG6;have Cf4:Jy Jk 1 Qc Sw.heap.size Sp pO pC (YI (YR V c).1 (Qj V c)):=by rw[pT];exact hO9.ext AG6 B85
      have hcC:=BN (t:=Qj V c) (n:=Uf V c left) AB0.own AB0.base Cf4 Ck8 hR.tk.sw rT ⟨Qo,Qo⟩ ⟨Qo,Qo⟩ c0 cT upT BK7 t0 t1 uT Qo Qo;rw[e9,pT] at hcC;refine I5 hcC ?_;rintro e7 gA ⟨m4,he7,BW8⟩;generalize Qh (OC (YR V c).1 c (Qj V c) (Uf V c left))=V9 at he7 BW8 hnx hN;exact⟨_,_,_,_,_,_,_,_,_,_,he7,AB0.kept BW8 rB,⟨by show _<=left-Uf V c left;omega,by show left-Uf V c left<=_;omega⟩,λSv AB5 _=>BO6 ⟨V9,m4,left-Uf V c left,rfl,(AB0.W9 BW8 rB).step AB5,hnx,hN⟩⟩
  ·have RX:=Ou RX;rw[zhj Qo] at hN;exact λRO X' _=>⟨V,m2,_,rfl,hY.step X',hI.sw,Qo,Qo,hN⟩
 ·rintro a0 a1O a1L a1C a2O a2L a2C a3O a3L a3C w2 kO ⟨V,m2,K,hv,hY,sw,k0,k1,hN⟩ RO X' gX;simp only[Qa,I6,I7,Iy,true_and,and_true] at hv;obtain⟨rfl,⟨rfl,rfl,rfl⟩,⟨rfl,rfl,rfl⟩,rfl,rfl,rfl⟩:=hv;have dT:=hY.step X';refine I5 (Qu dT.own sw k0 Qo dT.base) ?_;rintro e3 Sx ⟨m3,jM,hy5⟩;rw[hN] at jM hy5;exact⟨_,_,_,_,_,_,_,_,_,_,jM,dT.kept hy5 gX,λU' rD=>QM.ok hW hb ((dT.W9 hy5 gX).step rD)⟩
end
def cO:Code->Code
 |.loop c=>c
 |c=>c
def zox(W:Q7)(i:Int):Va:=.iface Xf (.agg (I i::Ys (Q8 W i)).toArray)
def zme(W:Q7)(c:Int)(i:Int):Va:=.iface XG (.agg (I i::TY (Qb W i c)).toArray)
def zce(W:Q7)(c:Int)(i:Nat):Va:=if i<12 then zox W (i:Int) else zme W c ((i-12:Nat):Int)
def zel(W:Q7)(c:Int):Option Nat->List Va
 |none=>[.nilIface]
 |some i=>[zce W c i]
def zol(W:Q7)(c:Int)(x:Option Nat):(zel W c x).length=1:=by cases x <;> rfl
def zug(W:Q7)(c:Int)(x:Option Nat):∃v r,zel W c x=v::r:=by cases x <;> exact⟨_,_,rfl⟩
def zf9(W:Q7)(c:Int)(x:Option Nat):Ze (zel W c x):=by
 cases x with
 |none=>rfl
 |some i=>
  show Ze [zce W c i]=true
  by_cases h:i<12
  ·rw[show zce W c i=zox W (i:Int) from H' h];rfl
  ·rw[show zce W c i=zme W c ((i-12:Nat):Int) from E' h];rfl
def Gy(W:Q7)(c:Int):zj2 Tryz.prog (zel W c) 1 Zg 16 none:=Mr Qk (zol W c)
def Ft:Tryz.prog.underlying Zu=some (.slice Zg):=Qk
def zoz{W:Q7}{c:Int}{i:Nat}(h:i<12):zce W c i=zox W (i:Int):=H' h
def zoy{W:Q7}{c:Int}{i:Nat}:zce W c (12+i)=zme W c (i:Int):=by
 unfold zce;rw[E' Qo,show 12+i-12=i by omega]
def zn9{bs:List Nat}{w:Wo}{o:OA}{n:Nat}{vs:List Va}(h:Q2 bs w o n vs):Q2 bs w (o.map (·.add n)) 0 vs:=JS λj v hj=>by
 obtain⟨a,ha,hb,hc⟩:=h.get j v hj;refine⟨a.add n,by rw[ha];rfl,by rw[Zv];exact hb,?_⟩;rw[JE,Nat.zero_add];exact hc
def Fk(p:Nat->Bool)(k:Nat)(h:p k):(List.range (k+1)).filter p=(List.range k).filter p++[k]:=by
 rw[List.range_succ,List.filter_append];simp[h]
def Pj(p:Nat->Bool)(k:Nat)(h:p k=false):(List.range (k+1)).filter p=(List.range k).filter p:=by
 rw[List.range_succ,List.filter_append];simp[h]
def Ed(p:Nat->Bool)(k:Nat):((List.range k).filter p).length<=k:=by
 have:=List.length_filter_le p (List.range k)
 simpa using this
def UT(W:Q7)(g c:Int)(k:Nat):List Nat:=(List.range k).filter (QX W g c)
section
variable {W:Q7}{m:MW}{w:Wo}{bs:List Nat}{p:OA}
def AA{g c:Int}(h:Od bs w p W m)(ha:WA W)(c0:0<=c)(c1:c<(W.IF.length:Int))(hb0:bs=[]) :
  Cz JH #[.agg #[.pointer p,I c],I g] w λe w'=>∃o cap,e=.returned (.slice o (UT W g c 20).length cap)/\Jy (zel W c) 1 Zg w.heap.size w' o cap ((UT W g c 20).map some)/\Q0 [] w w':=by
 subst hb0;refine(LA p c g (R:=λv w'=>∃o cap,v=.slice o (UT W g c 20).length cap/\Jy (zel W c) 1 Zg w.heap.size w' o cap ((UT W g c 20).map some)/\Q0 [] w w') ?_).mono λe w' ⟨v,he,o,cap,hv,h1⟩=>⟨o,cap,by rw[he,hv],h1⟩
 have lB:=ha.t;have cN:=ha.gl;intro b hb;refine⟨h.some,_,_,_,h.IK,?_⟩
 refine⟨λvs w1=>∃(k:Nat) (o:OA) (c':Nat),vs=[.slice o ((UT W g c k).map some).length c',I (k:Int)]/\k<=12/\Sc w [b] w1/\Ob (zel W c) 1 Zg w.heap.size [b] w1 o c' ((UT W g c k).map some),Zk 12 1,
  λwr hx _=>⟨0,none,0,rfl,Qo,⟨hx,by simpa using hb⟩,⟨.inl ⟨rfl,rfl,rfl⟩,by simp[QE]⟩⟩,?_⟩
 rintro o1 L1 C1 x w1 gZ ⟨k,o',c',he,hk,s1,hO⟩;simp only[I6,I7,Iy,true_and,and_true] at he;obtain⟨⟨rfl,rfl,rfl⟩,rfl⟩:=he;have hp1:=h.sc s1;refine⟨λIX=>?_,λRX=>?_⟩
 ·have IX:=Ot IX;have kZ:k<12:=Qo;refine⟨h.rd.t.ix QF Qo IX,_,_,_,_,_,_,_,_,_,hp1.rd.t k Qo IX,λb1 fI=>⟨_,G1 hp1 Qo IX,λq b2 cA Ra SD Wg Wn=>?_,λq=>⟨⟨Qo,Qo⟩,λRL Ru _=>⟨⟨k+1,o1,C1,?_,Qo,s1.step Ru,?_⟩,QJ (k:=k) rfl rfl kZ⟩⟩⟩⟩
  ·have q':QX W g c k:=by rw[XN kZ];rwa[Ii] at q
   have s2:=s1.sJ SD fI cA;have tF:=hO.sJ SD fI cA
   obtain⟨o2,c2,w2,Wa,uB,hO3,Rt⟩:=tF.tY (Gy W c) Ft (x:=some k) Wg s2.ext.size (by
    show _=some (Obj.cells [zce W c k].toArray _ _);rw[zoz kZ];exact Wn) (zf9 _ _ _) (by have:=Ed (QX W g c) k;simp[UT];omega) Qd Zu #[false,false]
   have s3:=s2.call Rt λx hm=>(tF.own.lt x hm).1
   have hL:(UT W g c k).map some++[some k]=(UT W g c (k+1)).map some:=by
    unfold UT;rw[Fk _ _ q',List.map_append];rfl
   rw[hL] at Wa hO3;exact⟨_,_,_,w2,Wa,uB,⟨Qo,Qo⟩,λRg Ru _=>⟨⟨k+1,o2,c2,Qs,Qo,(s3.step Ru).sub Qs,(hO3.step Ru).sub Qs⟩,QJ (k:=k) rfl rfl kZ⟩⟩
  ·have q':QX W g c k=false:=by rw[XN kZ];rwa[Ii] at q
   have hL:UT W g c (k+1)=UT W g c k:=Pj _ _ q';rw[hL];simp
  ·have q':QX W g c k=false:=by rw[XN kZ];rwa[Ii] at q
   have hL:UT W g c (k+1)=UT W g c k:=Pj _ _ q';rw[hL];exact hO.step Ru
 ·have RX:=Ou RX;have:k=12:=Qo;subst this;refine⟨h.some,_,_,_,hp1.IE,?_⟩
  refine⟨λvs w1=>∃(k:Nat) (o:OA) (c':Nat),vs=[.slice o ((UT W g c (12+k)).map some).length c',I (k:Int)]/\k<=8/\Sc w [b] w1/\Ob (zel W c) 1 Zg w.heap.size [b] w1 o c' ((UT W g c (12+k)).map some),Zk 8 1,
   λwr hx _=>⟨0,o1,C1,rfl,Qo,s1.step hx,hO.step hx⟩,?_⟩
  rintro o3 L3 C3 x w3 kO ⟨k,o',c',he,hk,s3,hO3⟩;simp only[I6,I7,Iy,true_and,and_true] at he;obtain⟨⟨rfl,rfl,rfl⟩,rfl⟩:=he;have hp3:=h.sc s3;refine⟨λIX=>?_,λdA wr hx=>?_⟩
  ·have IX:=Ot IX;have hk8:k<8:=Qo;have dD:(0:Int)<=(k:Int):=Qo;refine⟨_,HP hp3 ha Qo IX c0 c1,λq=>?_,λq=>⟨⟨Qo,Qo⟩,λSC mE _=>⟨⟨k+1,o3,C3,?_,Qo,s3.step mE,?_⟩,QJ (k:=k) rfl rfl hk8⟩⟩⟩
   ·rw[Ii] at q;have q':QX W g c (12+k):=by rw[YZ];exact q
    have hus:(gi W.IE (k:Int)).IW:=by
     unfold Xy at q;simp only[A'] at q;exact q.1.2.1
    have hkc:c<((gi W.IE (k:Int)).IH.length:Int):=by rw[ha.sl (Nw IX hus)];exact c1
    refine⟨_,Yw hp3 dD IX c0 hkc,(hp3.sh dD IX c0 hkc).1,_,_,_,_,_,zn9 (hp3.rd.g.IH _ dD IX c c0 hkc),λb3 hb3 S5 Wb kM Wn=>?_⟩;have s5:=s3.put Wb hb3;have hO5:=hO3.put Wb hb3
    obtain⟨o2,c2,w2,Wa,uB,hO6,Rt⟩:=hO5.tY (Gy W c) Ft (x:=some (12+k)) kM s5.ext.size (by
     show _=some (Obj.cells [zce W c (12+k)].toArray _ _);rw[zoy];exact Wn) (zf9 _ _ _) (by have:=Ed (QX W g c) (12+k);simp[UT];omega) Qd Zu #[false,false]
    have s6:=s5.call Rt λx hm=>(hO5.own.lt x hm).1
    have hL:(UT W g c (12+k)).map some++[some (12+k)]=(UT W g c (12+(k+1))).map some:=by
     unfold UT;rw[show 12+(k+1)=12+k+1 from rfl,Fk _ _ q',List.map_append];rfl
    rw[hL] at Wa hO6;exact⟨_,_,_,w2,Wa,uB,⟨Qo,Qo⟩,λRg Ru _=>⟨⟨k+1,o2,c2,Qs,Qo,(s6.step Ru).sub Qs,(hO6.step Ru).sub Qs⟩,QJ (k:=k) rfl rfl hk8⟩⟩
   ·rw[Ii] at q;have q':QX W g c (12+k)=false:=by rw[YZ];exact q
    have hL:UT W g c (12+(k+1))=UT W g c (12+k):=Pj _ _ q';rw[hL];simp
   ·rw[Ii] at q;have q':QX W g c (12+k)=false:=by rw[YZ];exact q
    have hL:UT W g c (12+(k+1))=UT W g c (12+k):=Pj _ _ q';rw[hL];exact hO3.step mE
  ·have dA:=Ou dA;have:k=8:=Qo;subst this;exact⟨o3,C3,Qs,(hO3.step hx).own,(s3.step hx).ext⟩
def zpd{x:Int}{t:Pv}:PX bs YP #[.agg (I x::Ys t).toArray] w (I t.v):=MD x t.state t.II t.R8 t.nice t.mask t.v t.sum t.IW t.load λwr hx=>λ_ _=>rfl
def zpc{x:Int}{s:MK}:PX bs Yt #[.agg (I x::TY s).toArray] w (I s.v):=M6 x s.IL s.on s.v s.w s.sum λwr hx=>λ_ _=>rfl
def zrr (W : Q7) (i : Int) (w : World) : (A2 "loop.example/stint/impl.time" (zox W i) []).run Tryz.prog w = .ok (.enter YP #[.agg (.int .i64 i :: Ys (Q8 W i)).toArray]) w := by kernel_rfl
def zob (W : Q7) (c i : Int) (w : World) : (A2 "loop.example/stint/impl.time" (zme W c i) []).run Tryz.prog w = .ok (.enter Yt #[.agg (.int .i64 i :: TY (Qb W i c)).toArray]) w := by kernel_rfl
def zpm (c : Int) (i : Nat) : ∃ (F : FuncId) (aa : Array Value), (∀ w : World, (A2 "loop.example/stint/impl.time" (zce W c i) []).run Tryz.prog w = .ok (.enter F aa) w) ∧ ∀ (bs : List Nat) (w : World), Q3 bs Tryz.prog F aa w (.int .i64 (QZ W c i)) := by
 by_cases h:i<12
 ·rw[zoz h,Mx h]
  refine⟨YP,#[.agg (.int .i64 (i:Int)::Ys (Q8 W (i:Int))).toArray],?_,?_⟩
  ·intro w;exact zrr W (i:Int) w
  ·intro bs w;exact zpd (x:=(i:Int)) (t:=Q8 W (i:Int))
 ·have e:i=12+(i-12):=Qo
  rw[e,zoy,Mw]
  refine⟨Yt,#[.agg (.int .i64 ((i-12:Nat):Int)::TY (Qb W ((i-12:Nat):Int) c)).toArray],?_,?_⟩
  ·intro w;exact zob W c ((i-12:Nat):Int) w
  ·intro bs w;exact zpc (x:=((i-12:Nat):Int)) (s:=Qb W ((i-12:Nat):Int) c)
def Fl{x:Int}:PX bs JU #[I x] w (.bool false):=BP x λwr hx=>by
 show Value.bool (x != x)=_;simp
def zf6(x y:Int):Int:=if x<y then -1 else if x>y then 1 else 0
def zau{x y:Int}:PX bs UG #[I x,I y] w (I (zf6 x y)):=D5 x y λwr hx=>by
 refine⟨_,Fl,_,Fl,λg=>(by cases g),λ_=>⟨λg=>(by cases g),λ_=>⟨λg=>?_,λg=>⟨λg2=>?_,λg2=>?_⟩⟩⟩⟩
 ·unfold zf6;rw[H' (Ot g)]
 ·unfold zf6;rw[E' (Ou g),H' (Ot g2)]
 ·unfold zf6;rw[E' (Ou g),E' (Ou g2)]
def zf7{x y:Int}:zf6 x y<0↔x<y:=by
 unfold zf6;split
 ·rename_i h;exact⟨λ_=>h,λ_=>by decide⟩
 ·rename_i h
  split <;> exact⟨λhc=>by omega,λhc=>It hc h⟩
def zpb{c:Int}{i j:Nat}:PX bs Y9 #[zce W c i,zce W c j] w (I (zf6 (QZ W c i) (QZ W c j))):=by
 refine P4 λwr0 tJ=>Gu (zce W c i) (zce W c j) (R:=λv w'=>v=I (zf6 (QZ W c i) (QZ W c j))/\Q0 [] wr0 w') ?_
 intro wr hx hs;obtain⟨F,aa,h1,h2⟩:=zpm (W:=W) c i;obtain⟨F',aa',h1',h2'⟩:=zpm (W:=W) c j;exact⟨F,aa,h1 wr,(h2 [] wr wr (Q0.refl _ _)).mono λe w1 ⟨he,SD⟩=>⟨_,he,Uj,λRa eR _=>⟨F',aa',h1' Ra,(h2' [] Ra Ra (Q0.refl _ _)).mono λe w2 ⟨he,Rt⟩=>⟨_,he,Uj,_,zau,λRg Wc=>⟨rfl,((((hx.trans SD).trans eR).trans Rt)).trans Wc⟩⟩⟩⟩⟩
def zmj{c:Int}{L:List Nat}{o:OA}{cap:Nat}(h:Rd (zel W c) 1 [] w o (L.map some))(hl:1<=L.length)(hl2:L.length<=100) :
  Cz Zl #[.slice o L.length cap,.func (.func Y9) #[] #[]] w λe w'=>e=.returned (zce W c (GI (QZ W c) L).toNat)/\Q0 [] w w':=by
 refine(Jj o L.length cap (.func Y9) #[] #[] (R:=λv w'=>v=zce W c (GI (QZ W c) L).toNat/\Q0 [] w w') ?_).mono λe w' ⟨v,he,hv,h1⟩=>⟨by rw[he,hv],h1⟩
 have hlm:((L.map some).length:Int)=(L.length:Int):=Qs
 have cell:∀{w1:Wo} {k:Nat},Q0 [] w w1->k<L.length->Q2 [] w1 o (Int.toNat (k:Int)*1) [zce W c (gi L (k:Int))]:=λ{w1 k} hx hk=>by
  have:=(h.ext hx) (k:Int) Qo Qo
  rwa[zun some L Qo Qo] at this
 have ix:∀{k:Nat},k<L.length->Ix o L.length (k:Int):=λ{k} hk=>by
  have:=h.ix (zug W c) (i:=(k:Int)) Qo Qo
  rwa[List.length_map] at this
 have take:∀{k:Nat},k<L.length->L.take (k+1)=L.take k++[gi L (k:Int)]:=λ{k} hk=>by
  rw[List.take_succ_eq_append_getElem hk,XT hk]
 refine⟨λg=>by have:=Ot g;omega,λ_=>⟨ix (k:=0) Qo,_,cell (k:=0) (Q0.refl _ _) Qo,?_⟩⟩;refine⟨λvs w1=>∃k:Nat,vs=[zce W c (GI (QZ W c) (L.take k)).toNat,I (k:Int)]/\1<=k/\k<=L.length/\Q0 [] w w1,Zk L.length 1,λwr hx _=>⟨1,?_,Qo,Qo,hx⟩,?_⟩
 ·rw[take (k:=0) Qo,List.take_zero,D2];rw[H' (by rfl)];simp
 rintro mv x w1 gZ ⟨k,he,hk1,hk,hX⟩;simp only[I6,I7,and_true] at he;obtain⟨rfl,_,rfl⟩:=he;refine⟨λIX=>?_,λRX wr hx=>⟨?_,hX.trans hx⟩⟩
 ·have IX:=Ot IX;have mL:k<L.length:=Qo
  have fJ:L.take k≠[]:=λe=>by
   have h0:(L.take k).length=0:=by rw[e];rfl
   rw[List.length_take] at h0;omega
  have hmn:=zkz (QZ W c) (L.take k) fJ;refine⟨ix mL,_,cell hX mL,λRa SD Wg=>.inl ⟨Y9,#[zce W c (gi L (k:Int)),zce W c (GI (QZ W c) (L.take k)).toNat],by rfl,(zpb (bs:=[]) Ra (Q0.refl _ _)).mono λe w2 ⟨he,Rt⟩=>⟨_,he,Uj,λg=>⟨ix mL,_,cell ((hX.trans SD).trans Rt) mL,⟨Qo,Qo⟩,λRg Ru _=>⟨⟨k+1,?_,Qo,Qo,((hX.trans SD).trans Rt).trans Ru⟩,QJ (k:=k) rfl rfl mL⟩⟩,λg=>⟨⟨Qo,Qo⟩,λRL Ru _=>⟨⟨k+1,?_,Qo,Qo,((hX.trans SD).trans Rt).trans Ru⟩,QJ (k:=k) rfl rfl mL⟩⟩⟩⟩⟩
  ·have g:=zf7.1 (Ot g);rw[take mL,D2,H' (by rw[Ij g,Bool.or_true]),Ii];simp
  ·have g:=Ou g;have g:¬QZ W c (gi L (k:Int))<QZ W c (GI (QZ W c) (L.take k)).toNat:=λhc=>g (zf7.2 hc)
   rw[take mL,D2,E' (by rw[decide_eq_false g,decide_eq_false (show ¬GI (QZ W c) (L.take k)<0 by omega)];decide)];simp
 ·have RX:=Ou RX;have:k=L.length:=Qo;subst this;rw[List.take_length]
def zti(W:Q7)(i:Int)(w:Wo):(Instr.typeAssert (zox W i) Zg Xf true).run Tryz.prog w=.ok (.tuple #[.agg (I i::Ys (Q8 W i)).toArray,.bool true]) w:=Qk
def zqv(W:Q7)(c i:Int)(w:Wo):(Instr.typeAssert (zme W c i) Zg Xf true).run Tryz.prog w=.ok (.tuple #[.agg (I 0::Ys VI).toArray,.bool false]) w:=Qk
def zqu(W:Q7)(c i:Int)(w:Wo):(Instr.typeAssert (zme W c i) Zg XG true).run Tryz.prog w=.ok (.tuple #[.agg (I i::TY (Qb W i c)).toArray,.bool true]) w:=Qk
def zgt{c:Int}(h:Od bs w p W m)(ha:WA W)(kX : -1<=(gi W.IF c).cur)(c0:0<=c)(c1:c<(W.IF.length:Int)):PX bs Vi #[.agg #[.pointer p,I c]] w (I (if (gi W.IF c).up=true then Qj W c else -1)):=by
 refine P4 λwr0 tJ=>E5 p c (R:=λv w'=>v=I (if (gi W.IF c).up=true then Qj W c else -1)/\Q0 [] wr0 w') ?_
 have h:=(h.ext tJ).less (cs:=[]) Qs;have cN:=ha.gl;have cc:=h.rd.c c c0 c1;have sm:=zht (n:=Int.toNat c*5) cc;intro b hb;refine⟨m.cO.map (λa=>a.add (Int.toNat c*5)),by exact ziy h c0 c1,sm,_,Ki cc (j:=0) rfl,λg wr hx=>⟨?_,hx⟩,λg=>⟨sm,_,Ki cc (j:=1) rfl,λ_=>sm,_,λ_=>Ki cc (j:=2) rfl,λg2=>⟨sm,_,Ki cc (j:=1) rfl,λwr hx=>⟨?_,hx⟩⟩,λg2=>?_⟩⟩
 ·rw[E' (by simpa using g)]
 ·have gu:(gi W.IF c).up:=by simpa using g
  simp only[A',Iv,Il] at g2;rw[H' gu];unfold Qj;rw[H' ⟨Qo,g2.2⟩]
 have gu:(gi W.IF c).up:=by simpa using g
 have hpk:Qj W c=U5 W 0 c:=by
  unfold Qj;rw[E'];rintro⟨e1,e2⟩;rw[Iv.2 (show (gi W.IF c).cur≠-1 by omega),Ij e2] at g2;cases g2
 rw[H' gu,hpk];refine⟨λvs w1=>∃x:Int,vs=[I x]/\Q6 W.IE x/\U5 W x c=U5 W 0 c/\Sc wr0 [b] w1,λvs _=>(3-dep 3 W.IE (Y5 0 vs)).toNat,λwr hx _=>⟨0,rfl,ha.root,rfl,⟨hx,by simpa using hb⟩⟩,?_⟩;rintro x w1 gZ ⟨x',he,hux,hI,s1⟩ RL Ru kO;simp only[I6,I7,true_and,and_true] at he;subst he;have s3:=s1.step Ru;have hp3:Od [] RL p W m:=(h.sc s3).less Qs;have lA:=Ox ha hux (c:=c);have B81:GI (QZ W c) (UT W x c 20)=Qi W x c:=KE _ _ _;refine(AA hp3 ha c0 c1 rfl).mono λe w4 ⟨o,cap,he,hO,X'⟩=>⟨_,_,_,he,Qf X' kO,λq RO Wb=>⟨?_,((s3.RJ X').step Wb).ext⟩,λq S5 Wb kM=>?_⟩
 ·have hn : UT W x c 20 = [] := List.eq_nil_of_length_eq_zero (by have:(((UT W x c 20).length:Nat):Int)=0:=by simpa using q
                                                                  omega)
  have:Qi W x c = -1:=by rw[<-B81,hn];rfl
  rw[<-hI,lA,H' Qo]
 have fJ:UT W x c 20≠[]:=λe=>by rw[e] at q;simp at q
 have hlen:1<=(UT W x c 20).length:=by
  rcases Nat.eq_zero_or_pos (UT W x c 20).length with h0|h0
  ·exact It (List.eq_nil_of_length_eq_zero h0) fJ
  ·exact h0
 have hF:0<=Qi W x c:=by rw[<-B81];exact zkz _ _ fJ
 have s5:=(s3.RJ X').step Wb;have hO5:=(Ob.of hO kO).step Wb;have Cv5:=Ed (QX W x c) 20;refine(zmj (hO5.rd0 (Gy W c).len) hlen (by unfold UT;omega)).mono λe w6 ⟨he,eM⟩=>⟨_,he,Qf eM kM,?_⟩
 rw[B81]
 by_cases h12:Qi W x c<12
 ·have hi:(Qi W x c).toNat<12:=Qo;rw[zoz hi];refine⟨_,_,_,_,_,_,_,_,_,_,_,λwq=>zti W _ wq,λ_ b1 fI Sw mE=>⟨?_,((s5.RJ eM).step mE).ext⟩,λg=>by cases g⟩;rw[<-hI,lA,E' Qo,H' h12,show (((Qi W x c).toNat:Nat):Int)=Qi W x c by omega]
 ·have e:(Qi W x c).toNat=12+((Qi W x c).toNat-12):=Qo;rw[e,zoy];have ei:(((Qi W x c).toNat-12:Nat):Int)=Qi W x c-12:=Qo;obtain⟨k1,k2,k3,_⟩:=Oq ha hux (c:=c) Qo;have hdk:=OD ha k1;rw[ei];refine⟨_,_,_,_,_,_,_,_,_,_,_,λwq=>zqv W c _ wq,λg=>(by cases g),λ_=>⟨_,_,_,_,_,_,_,λwq=>zqu W c _ wq,λ_ b2 cA SC mE _=>⟨⟨Qi W x c-12,rfl,k1,?_,(s5.RJ eM).step mE⟩,?_⟩,λg=>by cases g⟩⟩
  ·rw[<-hI,lA,E' Qo,E' h12]
  ·show (3-dep 3 W.IE (Qi W x c-12)).toNat<(3-dep 3 W.IE x).toNat;omega
def Ek{c:Int}(h:X0 bs w W m)(hl:Xk W):PX bs Vg #[.agg (Qa W m).toArray,I c] w (I (M8 W c)):=by
 refine P4 λwr0 tJ=>E4 _ _ _ _ _ _ _ _ _ _ c (R:=λv w'=>v=I (M8 W c)/\Q0 [] wr0 w') ?_
 have h:=(h.ext tJ).less (cs:=[]) Qs;intro b wb hxb hb Wn _;have sV:=h.ext hxb;have hp:=zq7 (bs:=[]) Wn sV (Q0.refl _ _) Qs;refine⟨_,_,_,_,_,_,_,_,_,_,hp.cs,_,Kv sV hl.c hl.g hl.f,Y4 W c,λ_=>by exact Bv hp hl.c,λg wr hx=>⟨?_,hxb.trans hx⟩,λg=>?_⟩
 ·unfold M8;rw[E'];rintro⟨h1,h2,_⟩;rw[h1,h2] at g;cases g
 simp only[I1,I8] at g;have wp:=Qm.1 g.1;obtain⟨c0,c1⟩:=Xg g.2;refine⟨some ⟨b,0,none⟩,c,by exact TK,_,zgt hp wp.a (wp.c c c0 c1).c1 c0 c1,λwr hx=>⟨?_,hxb.trans hx⟩⟩;unfold M8
 cases hu:(gi W.IF c).up with
 |true=>rw[H' rfl,H' ⟨g.1,g.2,rfl⟩]
 |false=>rw[E' Qd,E' (λhc=>by cases hc.2.2)]
end
def zit{W:Q7}{g c:Int}(h:¬Qi W g c<0):ZO W g c 20/\Zc W g c 20=QZ W c (Qi W g c).toNat:=by
 unfold ZO Zc;unfold Qi at h ⊢;rw[E' h];exact⟨Ij Qo,rfl⟩
def zpx{W:Q7}(ha:WA W)(fl:zwk W){c:Int}(c0:0<=c)(c1:c<(W.IF.length:Int))(f:Nat):∀g:Int,Q6 W.IE g->(4-dep 3 W.IE g).toNat=f->(∀x∈QV W.IE g,(Qb W x c).v<=(Qb W (gi W.IE x).IG c).IL)->0<=U5 W g c->
  (Q8 W (U5 W g c)).v<=(Qb W (Q8 W (U5 W g c)).II c).IL/\∀x∈QV W.IE (Q8 W (U5 W g c)).II,(Qb W x c).v<=(Qb W (gi W.IE x).IG c).IL:=by
 induction f with
 |zero=>
  intro g hu hf;have:=OD ha hu;omega
 |succ f ih=>
  intro g hu hf hp h;rw[Ox ha hu] at h ⊢
  by_cases h1:Qi W g c<0
  ·rw[H' h1] at h;omega
  ·rw[E' h1] at h ⊢;obtain⟨b1,b2⟩:=zit h1;have pY:=fl g c hu c0 c1 b1;rw[b2] at pY
   by_cases h2:Qi W g c<12
   ·rw[H' h2] at h ⊢
    have hm:QX W g c (Qi W g c).toNat:=by
     rcases Z9 (QX W g c) (QZ W c) 20 with ⟨a,_⟩|⟨_,_,a,_⟩
     ·unfold Qi at h1;omega
     ·exact a
    rw[XN Qo] at hm;unfold VT at hm;rw[show (((Qi W g c).toNat:Nat):Int)=Qi W g c by omega] at hm;simp only[A',Iu] at hm;unfold QZ at pY;rw[H' Qo,show (((Qi W g c).toNat:Nat):Int)=Qi W g c by omega] at pY;rw[show (Q8 W (Qi W g c)).II=g from hm.1.2];exact⟨pY,hp⟩
   ·rw[E' h2] at h ⊢;obtain⟨k1,k2,k3,k4⟩:=Oq ha hu (g:=g) (c:=c) Qo
    have hm:QX W g c (Qi W g c).toNat:=by
     rcases Z9 (QX W g c) (QZ W c) 20 with ⟨a,_⟩|⟨_,_,a,_⟩
     ·unfold Qi at h1;omega
     ·exact a
    rw[show (Qi W g c).toNat=12+(Qi W g c-12).toNat by omega,YZ] at hm;unfold Xy at hm;rw[show (((Qi W g c-12).toNat:Nat):Int)=Qi W g c-12 by omega] at hm;simp only[A',Iu] at hm;unfold QZ at pY;rw[E' Qo,show (((Qi W g c).toNat-12:Nat):Int)=Qi W g c-12 by omega] at pY;refine ih _ k1 Qo (λx hx=>?_) h;rw[Yb ha.tree k1 k2] at hx;rcases Ik.1 hx with e|e
    ·rw[e,hm.1.2.2];exact pY
    ·rw[hm.1.2.2] at e;exact hp x e
structure zvm (W:Q7) (c t WC:Int):Prop where
 r0:0<=WC
 r1:WC<50
 t1:(Q8 W t).v-(Qb W (Q8 W t).II c).IL<=Z6 WC (Qe (Q8 W t).nice)
 t2:(Qb W (Q8 W t).II c).IL<=(Q8 W t).v
 p1:∀x∈QV W.IE (Q8 W t).II,(Qb W x c).v-(Qb W (gi W.IE x).IG c).IL<=Z6 WC (Qb W x c).w
 p2:∀x∈QV W.IE (Q8 W t).II,(Qb W (gi W.IE x).IG c).IL<=(Qb W x c).v
def zrl{W:Q7}(iv:J4 W){c:Int}(c0:0<=c)(c1:c<(W.IF.length:Int))(hl:zj4 W (Qj W c) c)(hp:¬Qj W c<0):zvm W c (Qj W c) (gi (YX W c (Qj W c)).IF c).WC:=by
 have wp:=iv.wp;have p:=Xe wp;have h:=Tw p hl.t0 hl.t1 (by rw[hl.st];decide);have e:gi (YX W c (Qj W c)).IF c=Yh W c (Qj W c):=(QD _ _ c0 c1 c0).trans (H' rfl)
 have t2:(Qb W (Q8 W (Qj W c)).II c).IL<=(Q8 W (Qj W c)).v:=by
  have:=(h.f hl.st).1
  rwa[hl.R8] at this
 have p2:∀x∈QV W.IE (Q8 W (Qj W c)).II,(Qb W (gi W.IE x).IG c).IL<=(Qb W x c).v:=λx hx=>by
  obtain⟨xu,xz⟩:=Yy wp.a.tree _ h.g x hx;exact((p.s x c xu c0 c1).st xz (hl.on x hx)).1
 rw[e]
 by_cases hc:(gi W.IF c).cur>=0/\(gi W.IF c).WC<50
 ·have hpk:Qj W c=(gi W.IF c).cur:=by unfold Qj;rw[H' hc]
  have hs:Yh W c (Qj W c)=gi W.IF c:=by
   unfold Yh;rw[E'];rintro (h|h)
   ·exact h hpk
   ·omega
  rw[hs];have hy:=(p.c c c0 c1).yes hc.1;have hq:=(p.c c c0 c1).q hc.1 (by rw[<-hpk];exact hl.st) (by rw[<-hpk];exact hl.R8);rw[<-hpk] at hq;exact⟨Qo,hc.2,hq.1,t2,λx hx=>(hq.2 x hx).2,p2⟩
 ·have hpk:Qj W c=U5 W 0 c:=by unfold Qj;rw[E' hc]
  have hs:(Yh W c (Qj W c)).WC=0:=by
   unfold Yh;rw[H']
   by_cases h0:(gi W.IF c).cur>=0
   ·exact .inr Qo
   ·exact .inl Qo
  rw[hs];have hn:=zpx wp.a iv.fl c0 c1 _ 0 wp.a.root rfl (λx hx=>by rw[show QV W.IE 0=[] from Zf _ _] at hx;cases hx) (by rw[<-hpk];omega);rw[<-hpk] at hn;have v0:∀w:Int,0<=Z6 0 w:=λw=>(KZ 0 w).1
  refine⟨I4 _,Qd,?_,t2,λx hx=>?_,p2⟩
  ·have:=v0 (Qe (Q8 W (Qj W c)).nice);have:=hn.1;omega
  ·have:=v0 (Qb W x c).w;have:=hn.2 x hx;omega
def zp4{gs:List ZL}(ht:ZZ gs):∀g:Int,Q6 gs g->∀x∈QV gs g,dep 3 gs x<=dep 3 gs g:=
 TP ht (λx hx=>by rw[show QV gs 0=[] from Zf _ _] at hx;cases hx) λh hu hz ih x hx=>by
  rw[Yb ht hu hz] at hx;rcases Ik.1 hx with e|e
  ·subst e;exact I4 _
  ·obtain⟨_,_,_,d,e1,e2,_⟩:=ZR ht hu hz;have:=ih x e;omega
def zs4{gs:List ZL}(ht:ZZ gs):∀g:Int,Q6 gs g->(QV gs g++[0]).Nodup:=
 TP ht (by rw[show QV gs 0=[] from Zf _ _];simp) λh hu hz ih=>by
  rw[Yb ht hu hz,List.cons_append,List.nodup_cons];refine⟨λhm=>?_,ih⟩;rcases Ip.1 hm with hm|hm
  ·obtain⟨hp,_,_,d,e1,e2,_⟩:=ZR ht hu hz;have:=zp4 ht _ hp h hm;omega
  ·exact hz (IB.1 hm)
def zrp{W:Q7}{c n g:Int}(cN:W.IE.length=8)(u0:0<=g)(u1:g<8)(c0:0<=c)(cs:c<((gi W.IE g).IH.length:Int))(i d:Int)(hi:0<=i)(hd:0<=d):Qb (A3 W c n g) i d=if g=i/\c=d then Nf W c n g else Qb W i d:=by
 rw[<-Jg (W:=W) (s:=Nf W c n g) u0 Qo c0 cs hi hd];have hl2:g<((Kj W c n g).IE.length:Int):=by rw[L7];omega
 have yS:g<((Rw (Kj W c n g) g (Fg W c n g)).IE.length:Int):=by simp only[Rw,I0];rw[L7];omega
 unfold Qb;show gi (gi (A3 W c n g).IE i).IH d=gi (gi (Kj W c n g).IE i).IH d;unfold A3 WW;rw[Ym u0 yS hi,Ym u0 hl2 hi,Ym u0 hl2 u0,H' rfl];split
 ·rename_i e;subst e;rfl
 ·rfl
def zrq{K S c n:Int}(c0:0<=c)(n0:0<=n)(n1:n<=100):∀(l:List Int) {W:Q7},l.Nodup->SW K W->RB S W->S+100*(l.length:Int)<=100000000000000000->c<(W.IF.length:Int)->(∀g∈l,Q6 W.IE g)->
  ∀i d:Int,0<=i->0<=d->Qb (zd5 c n l W) i d=if i∈l/\c=d then Nf W c n i else Qb W i d:=by
 intro l
 induction l generalizing K S with
 |nil=>
  intro W _ _ _ _ _ _ i d _ _;rw[E' Qs];rfl
 |cons g l ih=>
  intro W nd sw rb hS c1 hu i d hi hd;rw[List.length_cons] at hS;have uC:=hu g Ib;obtain⟨u0,u1,_⟩:=sw.a.u uC;have hsl:=sw.a.sl uC;have h1:=zij sw rb Qo c0 c1 uC n0 n1;obtain⟨hng,ndl⟩:=List.nodup_cons.1 nd;have e:=zrp (n:=n) sw.a.gl u0 u1 c0 Qo;rw[zf5,ih ndl h1.sw (h1.rb.mono (show S+n<=S+100 by omega)) Qo (by rw[h1.cp];exact c1) (λx hx=>by rw[h1.g.dW];exact hu x (I3 _ hx)) i d hi hd]
  by_cases hil:i∈l
  ·have hgi:g≠i:=λh=>hng (h▸hil)
   by_cases hcd:c=d
   ·rw[H' ⟨hil,hcd⟩,H' ⟨I3 _ hil,hcd⟩];unfold Nf;rw[e i c hi c0,E' λh=>hgi h.1]
   ·rw[E' λh=>hcd h.2,E' λh=>hcd h.2,e i d hi hd,E' λh=>hcd h.2]
  ·rw[E' λh=>hil h.1,e i d hi hd]
   by_cases hgi:g=i
   ·subst hgi
    by_cases hcd:c=d
    ·rw[H' ⟨rfl,hcd⟩,H' ⟨Ib,hcd⟩]
    ·rw[E' λh=>hcd h.2,E' λh=>hcd h.2]
   ·rw[E' λh=>hgi h.1,E'];rintro⟨hm,_⟩;rcases Ik.1 hm with h|h
    ·exact hgi h.symm
    ·exact hil h
def zlr{a b w:Int}(ha:0<=a)(hb:0<=b)(h:a+b<=149)(w1:1<=w)(w2:w<=20):Z6 (a+b) w=Z6 a w+Z6 b w/\Z6 a w+Z6 b w<=Zs w:=by
 have e1:=zdj ha hb Qo w1 w2;have e2:=zdj (a:=a+b) (b:=149-(a+b)) (w:=w) Qo Qo Qo w1 w2;rw[show a+b+(149-(a+b))=149 by omega] at e2;have:=(KZ (149-(a+b)) w).1;unfold Zs;omega
structure zws (V T:Q7) (c t:Int):Prop where
 tk:T.IK=V.IK
 g:QY V.IE T.IE
 s:∀i:Int,0<=i->(gi T.IE i).IH=(gi V.IE i).IH
 cp:∀d:Int,0<=d->gi T.IF d=if c=d then Yh V c t else gi V.IF d
 l:T.IF.length=V.IF.length
def zua{K S:Int}{V T:Q7}{c t m:Int}(iv:J4 V)(hM:zws V T c t)(sw:SW K T)(rb:RB S T)(hS:0<=S/\S+500<=100000000000000000)(c0:0<=c)(c1:c<(V.IF.length:Int))(up:(gi V.IF c).up)(t0:0<=t)(t1:t<12)(lA:(Q8 V t).state=1)(kT:(Q8 V t).R8=c)(rA:(Yh V c t).cur=t)(hb:zvm V c t (Yh V c t).WC)(m0:1<=m)(m1:m<=100):VJ (OC T c t m):=by
 have wp:=iv.wp;have p:=Xe wp;have hht:=Tw p t0 t1 (by rw[lA];decide);have cN:=wp.a.gl;have lB:=wp.a.t;have c1T:c<(T.IF.length:Int):=by rw[hM.l];exact c1
 have eTc:gi T.IF c=Yh V c t:=(hM.cp c c0).trans (H' rfl);have upT:(gi T.IF c).up:=by rw[eTc];unfold Yh;split <;> exact up
 have BK7:(gi T.IF c).WC<50:=by rw[eTc];exact hb.r1
 have hg:Q6 V.IE (Q8 V t).II:=hht.g;have huT:Q6 T.IE (Q8 T t).II:=by rw[hM.g.dW,XR hM.tk];exact hg
 have pT:YI T t=YI V t:=zfg hM.tk hM.g t;obtain⟨sE,rE,_,_,hlE,_,s1,r1,cp1⟩:=zd6 sw rb hS.2 c0 c1T upT BK7 t0 t1 huT Qo m1;obtain⟨pin,CA7⟩:=Np sw.a huT;have hTG:QY V.IE (OC T c t m).IE:=hM.g.trans cp1.g;have shT:∀i d:Int,0<=i->Qb T i d=Qb V i d:=λi d hi=>by unfold Qb;rw[hM.s i hi]
 have hnd:(YI T t).Nodup:=by rw[pT];exact zs4 wp.a.tree _ hg
 have eS:∀i d:Int,0<=i->0<=d->Qb (OC T c t m) i d=if i∈YI V t/\c=d then Nf V c m i else Qb V i d:=λi d hi hd=>by
  have e:=zrq c0 Qo m1 (YI T t) hnd s1 r1 Qo c1T pin i d hi hd;have e':Qb (OC T c t m) i d=if i∈YI T t/\c=d then Nf T c m i else Qb T i d:=e;rw[e',pT,shT i d hi];have:Nf T c m i=Nf V c m i:=by unfold Nf;rw[shT i c hi]
  rw[this]
 have fF:∀i d:Int,0<=i->0<=d->(Qb (OC T c t m) i d).IL=(Qb V i d).IL:=λi d hi hd=>by
  rw[eS i d hi hd];split
  ·rename_i h;rw[<-h.2];rfl
  ·rfl
 have fO:∀i d:Int,0<=i->0<=d->(Qb (OC T c t m) i d).on=(Qb V i d).on:=λi d hi hd=>by
  rw[eS i d hi hd];split
  ·rename_i h;rw[<-h.2];rfl
  ·rfl
 have fW:∀i d:Int,0<=i->0<=d->(Qb (OC T c t m) i d).w=(Qb V i d).w:=λi d hi hd=>by
  rw[eS i d hi hd];split
  ·rename_i h;rw[<-h.2];rfl
  ·rfl
 have fV:∀i d:Int,0<=i->0<=d->¬(i∈QV V.IE (Q8 V t).II/\c=d)->(Qb (OC T c t m) i d).v=(Qb V i d).v:=λi d hi hd hn=>by
  rw[eS i d hi hd];split
  ·rename_i h
   have hz:¬i≠0:=λhz=>by
    rcases Ip.1 h.1 with h'|h'
    ·exact hn ⟨h',h.2⟩
    ·exact hz (IB.1 h')
   rw[<-h.2];show (if i≠0 then _ else _)=_;rw[E' hz]
  ·rfl
 have fP:∀i:Int,i∈QV V.IE (Q8 V t).II->(Qb (OC T c t m) i c).v=(Qb V i c).v+Z6 m (Qb V i c).w:=λi hi=>by
  obtain⟨iu,iz⟩:=Yy wp.a.tree _ hg i hi;rw[eS i c (Q5.1 iu).1 c0,H' ⟨Ic _ hi,rfl⟩];show (if i≠0 then _ else _)=_;rw[H' iz]
 have eK:∀i:Int,0<=i->Q8 (OC T c t m) i=if t=i then Kk V t m else Q8 V i:=λi hi=>by
  have h1:Q8 (OC T c t m) i=gi (T.IK.set t.toNat (Kk T t m)) i:=by
   show gi (zd5 c m (YI T t) (I' T t (Kk T t m))).IK i=_;rw[cp1.t];rfl
  have h2:Kk T t m=Kk V t m:=by unfold Kk;rw[XR hM.tk]
  rw[h1,QD _ _ t0 (by rw[hM.tk];omega) hi,h2];split
  ·rfl
  ·exact XR hM.tk i
 have eC:∀d:Int,0<=d->gi (OC T c t m).IF d=if c=d then zke T c m else gi V.IF d:=λd hd=>by
  have h1:gi (OC T c t m).IF d=gi (T.IF.set c.toNat (zke T c m)) d:=by
   show gi ((zd5 c m (YI T t) (I' T t (Kk T t m))).IF.set c.toNat (zke T c m)) d=_;rw[cp1.cp];rfl
  rw[h1,QD _ _ c0 c1T hd];split
  ·rfl
  ·rename_i h;rw[hM.cp d hd,E' h]
 have wn:1<=Qe (Q8 V t).nice/\Qe (Q8 V t).nice<=20:=by
  have:=XS (Q8 V t).nice;have:=hht.n;omega
 have hv0:∀w:Int,0<=Z6 m w:=λw=>(KZ m w).1
 have Cm4:∀i d:Int,Q6 V.IE i->0<=d->d<(V.IF.length:Int)->1<=(Qb V i d).w/\(Qb V i d).w<=20:=λi d hu d0 d1=>by
  have:=GX wp hu d0 d1;exact⟨this.w1,this.w2⟩
 have vt:=zlr hb.r0 (show 0<=m by omega) (by have:=hb.r1;omega) wn.1 wn.2
 have vp:∀i:Int,i∈QV V.IE (Q8 V t).II->Z6 ((Yh V c t).WC+m) (Qb V i c).w=Z6 (Yh V c t).WC (Qb V i c).w+Z6 m (Qb V i c).w/\Z6 (Yh V c t).WC (Qb V i c).w+Z6 m (Qb V i c).w<=Zs (Qb V i c).w:=λi hi=>by
  have h:=Cm4 i c (Yy wp.a.tree _ hg i hi).1 c0 c1;exact zlr hb.r0 (show 0<=m by omega) (by have:=hb.r1;omega) h.1 h.2
 have Bv0:∀i:Int,Q6 V.IE i->i≠0->0<=(gi V.IE i).IG:=λi hu hz=>(Q5.1 (ZR wp.a.tree hu hz).1).1
 have CM9:∀i:Int,i∈QV V.IE (Q8 V t).II->UX (OC T c t m) i c:=λi hi=>by
  obtain⟨iu,iz⟩:=Yy wp.a.tree _ hg i hi;have i0:=(Q5.1 iu).1;unfold UX;rw[hTG.p,fF _ c (Bv0 i iu iz) c0,fP i hi,fW i c i0 c0];have h1:=hb.p1 i hi;have h2:=hb.p2 i hi;have h3:=vp i hi;have:=hv0 (Qb V i c).w;omega
 refine⟨⟨sE.a,λi a b=>?_,λi a b n=>?_,λk d hk d0 d1=>?_⟩,λd d0 d1=>?_⟩
 ·have hrt:=rE.t i a b;rw[eK i a] at hrt ⊢;split
  ·rename_i he;rw[H' he] at hrt;refine .inr ⟨by show (Q8 V t).state≠0;rw[lA];decide,hht.st,by rw[hTG.dW];exact hg,hht.n,hht.m,hht.m0,Y2.2 ⟨hrt.1,Qo⟩,Y2.2 ⟨hrt.2.2.1,Qo⟩,hht.l1,hht.l2,λ_=>?_⟩;show (Qb (OC T c t m) (Q8 V t).II (Q8 V t).R8).IL<=(Q8 V t).v+Z6 m (Qe (Q8 V t).nice)/\(Q8 V t).v+Z6 m (Qe (Q8 V t).nice)-(Qb (OC T c t m) (Q8 V t).II (Q8 V t).R8).IL<=Zs (Qe (Q8 V t).nice);rw[kT,fF _ c (Q5.1 hg).1 c0];have:=hb.t1;have:=hb.t2;have:=hv0 (Qe (Q8 V t).nice);omega
  ·rcases p.t i a b with h|⟨h1,h2⟩
   ·exact .inl h
   ·refine .inr ⟨h1,h2.st,by rw[hTG.dW];exact h2.g,h2.n,h2.m,h2.m0,h2.s,h2.u,h2.l1,h2.l2,λhs=>?_⟩;rw[fF _ _ (Q5.1 h2.g).1 (p.l i a b h1).1];exact h2.f hs
 ·rw[hlE,hM.l];rw[eK i a] at n ⊢;split
  ·show 0<=(Q8 V t).R8/\(Q8 V t).R8<_;rw[kT];exact⟨c0,c1⟩
  ·rename_i he;rw[E' he] at n;exact p.l i a b n
 ·have hrs:=rE.s k d hk d0 d1;rw[hTG.dW] at hk;rw[hlE,hM.l] at d1;have k0:=(Q5.1 hk).1;have hp:=p.s k d hk d0 d1;refine⟨Y2.2 ⟨hrs.1,Qo⟩,λhz=>?_,λhz ho=>?_⟩
  ·have h:=hp.root hz;rw[fO k d k0 d0,fW k d k0 d0,fV k d k0 d0 λh=>(Yy wp.a.tree _ hg k h.1).2 hz];exact h
  ·rw[fO k d k0 d0] at ho
   by_cases hin:k∈QV V.IE (Q8 V t).II/\c=d
   ·obtain⟨h1,rfl⟩:=hin;exact CM9 k h1
   ·have h:=hp.st hz ho;unfold UX at h ⊢;rw[hTG.p,fF _ d (Bv0 k hk hz) d0,fV k d k0 d0 hin,fW k d k0 d0];exact h
 ·have hrc:=rE.c d d0 d1;rw[hlE,hM.l] at d1
  by_cases hd:c=d
  ·subst hd;have e:=(eC c c0).trans (H' rfl);have Cc9:(gi (OC T c t m).IF c).cur=t:=by rw[e];show (gi T.IF c).cur=t;rw[eTc];exact rA
   have Cd2:(gi (OC T c t m).IF c).WC=(Yh V c t).WC+m:=by rw[e];show (gi T.IF c).WC+m=_;rw[eTc]
   have bH:=hb.r0;have tR:=hb.r1;refine⟨Y2.2 ⟨hrc.1,Qo⟩,Y2.2 ⟨hrc.2.2.1,by have:=hrc.2.2.2.1;omega⟩,Qo,Qo,λh0=>by omega,λ_=>⟨by rw[e];exact upT,Qo,Qo⟩,λ_ _ _=>?_⟩;rw[Cc9,Cd2,eK t t0,H' rfl];refine⟨?_,λx hx=>?_⟩
   ·show (Q8 V t).v+Z6 m (Qe (Q8 V t).nice)-(Qb (OC T c t m) (Q8 V t).II c).IL<=Z6 ((Yh V c t).WC+m) (Qe (Q8 V t).nice);rw[fF _ c (Q5.1 hg).1 c0,vt.1];have:=hb.t1;omega
   ·have hx:x∈QV (OC T c t m).IE (Q8 V t).II:=hx;rw[VE hTG] at hx;obtain⟨xu,xz⟩:=Yy wp.a.tree _ hg x hx;refine⟨CM9 x hx,?_⟩;rw[hTG.p,fF _ c (Bv0 x xu xz) c0,fP x hx,fW x c (Q5.1 xu).1 c0,(vp x hx).1];have:=hb.p1 x hx;omega
  ·have e:=(eC d d0).trans (E' hd);have h:=p.c d d0 d1;refine⟨by rw[e];exact h.b,by rw[e];exact h.i,by rw[e];exact h.c1,by rw[e];exact h.c2,by rw[e];exact h.no,by rw[e];exact h.yes,?_⟩;rw[e];intro h0 h1 h2;rw[eK _ h0] at h1 h2 ⊢
   by_cases ht:t=(gi V.IF d).cur
   ·rw[H' ht] at h2;have h2:(Q8 V t).R8=d:=h2;exact It (kT.symm.trans h2) hd
   ·rw[E' ht] at h1 h2 ⊢;obtain⟨q1,q2⟩:=h.q h0 h1 h2;have kU:=(Tw p h0 h.c2 (by rw[h1];decide)).g;refine⟨by rw[fF _ d (Q5.1 kU).1 d0];exact q1,λx hx=>?_⟩;rw[VE hTG] at hx;obtain⟨xu,xz⟩:=Yy wp.a.tree _ kU x hx;have x0:=(Q5.1 xu).1;have:=q2 x hx;unfold UX at this ⊢;rw[hTG.p,fF _ d (Bv0 x xu xz) d0,fV x d x0 d0 λh=>hd h.2,fW x d x0 d0];exact this
def ztf(W:Q7)(c n g:Int):VM W (A3 W c n g):=
 ((CH W g c (Nf W c n g)).trans (zjr (W:=Kj W c n g) (g:=g) (x:=Fg W c n g) rfl rfl rfl rfl rfl)).trans (zjq _ _ _)
def zlh(c n:Int):∀(l:List Int) (W:Q7),VM W (zd5 c n l W)
 |[],W=>VM.refl _
 |g::l,W=>(ztf W c n g).trans (zlh c n l _)
def zli(W:Q7)(c g:Int):VM W (Nv W c g).1:=by
 unfold Nv;split
 ·exact VM.refl _
 ·exact zjq _ _ _
def zlj(c:Int):∀(l:List Int) (W:Q7),VM W (zdh c l W).1
 |[],W=>VM.refl _
 |g::l,W=>by
  simp only[zdh];split
  ·exact(zli W c g).trans (zlj c l _)
  ·exact zli W c g
def zqm(W:Q7)(c t:Int):VM W (YX W c t):=zfm (by unfold Yh;split <;> rfl)
def zl6(W:Q7)(c t:Int):XB (Yh W c t)=XB (gi W.IF c):=by unfold Yh;split <;> rfl
def zr2{f:Nat}{c left:Int}{W0 V:Q7}(h:CX f c W0 V left)(iv:J4 V):J4 (Qh (RG (S8 V c (Ku V c left)) c)):=by
 have p:=Xe iv.wp;have c0:=h.c0;have c1:=h.c1;have hK:=Di h.f2;have hh0:(0:Int)<=Qt:=Qd;have lA:UW=173430457200:=rfl;obtain⟨sE,s1,i3,i4⟩:=zow h;have hl:(S8 V c (Ku V c left)).IF.length=V.IF.length:=I0
 have hP:VJ (S8 V c (Ku V c left)):=by
  refine⟨⟨s1.a,λt t0 t1=>(p.t t t0 t1).imp id λh=>⟨h.1,h.2.gr rfl⟩,λt t0 t1 n=>?_,λk d hk d0 d1=>?_⟩,λd d0 d1=>?_⟩
  ·rw[hl];exact p.l t t0 t1 n
  ·rw[hl] at d1;exact(p.s k d hk d0 d1).Bg7 rfl λ_=>rfl
  ·rw[hl] at d1;have hd:=p.c d d0 d1;have e:gi (S8 V c (Ku V c left)).IF d=if c=d then Ku V c left else gi V.IF d:=QD _ _ c0 c1 d0
   by_cases he:c=d
   ·subst he;have e:=e.trans (H' rfl);exact⟨by rw[e];exact hd.b,by rw[e];exact Y2.2 ⟨i3,by show (gi V.IF c).idle+left<=_;omega⟩,by rw[e];exact hd.c1,by rw[e];exact hd.c2,by rw[e];exact hd.no,by rw[e];exact hd.yes,by rw[e];exact hd.q⟩
   ·have e:=e.trans (E' he);exact⟨by rw[e];exact hd.b,by rw[e];exact hd.i,by rw[e];exact hd.c1,by rw[e];exact hd.c2,by rw[e];exact hd.no,by rw[e];exact hd.yes,by rw[e];exact hd.q⟩
 exact Zo sE Qo Qo (hP.RG c0 (by rw[hl];exact c1)) (((zfm (W:=V) (c:=c) (x:=Ku V c left) rfl).loc rfl (Ue iv.wp)).RG _)
def ztb{f:Nat}{c left:Int}{W0 V:Q7}(h:CX (f+1) c W0 V left)(iv:J4 V)(hl:0<left)(hp:¬Qj V c<0):J4 (Df V c left).1:=by
 have hR:=zjk h hl hp;have c0:=h.c0;have c1:=h.c1;have hK:=Di h.f2;have hSu:=zfj h.f2;have hh0:(0:Int)<=Qt:=Qd;have lA:UW=173430457200:=rfl;have hlg:Qp=34686091440:=rfl;have t0:=hR.line.t0;have t1:=hR.line.t1;obtain⟨q1,q2,q3,q4,q5,q6⟩:=Dp h.sw h.rb c0 c1 h.up t0 t1;have eC:(YR V c).1.IF=(YX V c (Qj V c)).IF:=hR.tk.o.c;have lT:(YR V c).1.IF.length=V.IF.length:=by rw[eC];exact q6
 have cT:c<((YR V c).1.IF.length:Int):=by rw[lT];exact c1
 have rT:RB (EX (f+1)) (YR V c).1:=hR.r1.sum hR.tk.su hR.tk.o.g (by rw[eC]);have eT:(YR V c).1.IK=V.IK:=hR.tk.o.t;have eG:QY V.IE (YR V c).1.IE:=hR.tk.o.g;have eN:(YR V c).1.now=V.now:=hR.tk.o.n;have eSh:∀i:Int,0<=i->(gi (YR V c).1.IE i).IH=(gi V.IE i).IH:=hR.tk.o.s;have sT:VM V (YR V c).1:=(zqm V c (Qj V c)).trans (zlj c _ _);have lcT:Nx (YR V c).1:=sT.loc eT (Ue iv.wp)
 have eCp:∀d:Int,0<=d->gi (YR V c).1.IF d=if c=d then Yh V c (Qj V c) else gi V.IF d:=λd hd=>by
  rw[eC];exact QD _ _ c0 c1 hd
 have hRW:Df V c left=if (YR V c).2=true then (Qh (OC (YR V c).1 c (Qj V c) (Uf V c left)),left-Uf V c left) else (Qh (RG (YR V c).1 c),left):=rfl;rw[hRW]
 by_cases gt:(YR V c).2=true
 ·rw[H' gt];obtain⟨m1,m2⟩:=hR.m gt;obtain⟨sC,rC⟩:=hR.ch gt;have yS:=h.l1;have hb:=zrl iv c0 c1 hR.line hp;have es:gi (YX V c (Qj V c)).IF c=Yh V c (Qj V c):=(QD _ _ c0 c1 c0).trans (H' rfl);rw[es] at hb q5;have hP:VJ (OC (YR V c).1 c (Qj V c) (Uf V c left)):=zua iv ⟨eT,eG,eSh,eCp,lT⟩ hR.tk.sw rT ⟨Qo,Qo⟩ c0 c1 h.up t0 t1 hR.line.st hR.line.R8 q5 hb m1 Qo;refine Zo sC Qo Qo hP ?_;have uT:Q6 (YR V c).1.IE (Q8 (YR V c).1 (Qj V c)).II:=by rw[eG.dW,XR eT];exact hR.us
  have upT:(gi (YR V c).1.IF c).up:=by rw[eC];exact q3
  have BK7:(gi (YR V c).1.IF c).WC<50:=by rw[eC];exact hR.WC
  have cp1:=(zd6 (t:=Qj V c) (n:=Uf V c left) hR.tk.sw rT Qo c0 cT upT BK7 t0 t1 uT Qo Qo).2.2.2.2.2.2.2.2;have l1:Nx (I' (YR V c).1 (Qj V c) (Kk (YR V c).1 (Qj V c) (Uf V c left))):=lcT.I' hR.tk.sw.a t0 t1 λn=>lcT _ t0 t1 n
  have l2:=(zlh c (Uf V c left) (YI (YR V c).1 (Qj V c)) (I' (YR V c).1 (Qj V c) (Kk (YR V c).1 (Qj V c) (Uf V c left)))).loc cp1.t l1;refine VM.loc (zfm ?_) rfl l2;show (gi (YR V c).1.IF c).up=(gi (zd5 c (Uf V c left) (YI (YR V c).1 (Qj V c)) (I' (YR V c).1 (Qj V c) (Kk (YR V c).1 (Qj V c) (Uf V c left)))).IF c).up;rw[cp1.cp];rfl
 ·rw[E' gt]
  have hE:RG (YR V c).1 c=RG { (YR V c).1 with IF:=V.IF } c:=by
   have e1:=(eCp c c0).trans (H' rfl);show ({ (YR V c).1 with IF:=(YR V c).1.IF.set c.toNat (XB (gi (YR V c).1.IF c)) }:Q7)={ (YR V c).1 with IF:=V.IF.set c.toNat (XB (gi V.IF c)) };rw[e1,zl6,eC];show ({ (YR V c).1 with IF:=(V.IF.set c.toNat (Yh V c (Qj V c))).set c.toNat (XB (gi V.IF c)) }:Q7)=_;rw[List.set_set]
  have ha:WA ({ (YR V c).1 with IF:=V.IF }:Q7):=hR.tk.sw.a.cp lT.symm iv.wp.a.ups;have p2:VJ ({ (YR V c).1 with IF:=V.IF }:Q7):=(Xe iv.wp).A83 ⟨eN,rfl,eT,eG,eSh⟩ ha;have nI:=lcT.RG c;have sE:=hR.tk.sw.RG c0 cT;rw[hE] at nI sE ⊢;exact Zo sE Qo Qo (p2.RG c0 c1) nI
def zhk{c:Int}{W0:Q7}:∀(f:Nat) {V:Q7} {left:Int},CX f c W0 V left->J4 V->J4 (Cy c f V left)
 |0,V,left,h,_=>by
  have:=h.f1;have:=h.l0;omega
 |f+1,V,left,h,iv=>by
  have hK:=Di h.f2;have hh0:(0:Int)<=Qt:=Qd;have lA:UW=173430457200:=rfl
  by_cases hl:left<=0
  ·rw[zhj hl];exact Zo h.sw Qo Qo (Xe iv.wp) (Ue iv.wp)
  ·by_cases hp:Qj V c<0
   ·rw[zc1 hl hp];exact zr2 h iv
   ·rw[zc2 hl hp];have hR:=zjk h Qo hp;exact zhk f hR.nx (ztb h iv Qo hp)
def zsc{W:Q7}{c n:Int}(iv:J4 W)(hb:Dg W c n=0):J4 (zm8 W c n):=zhk 400 (zqh (Qm.2 iv.wp) hb).2.2.2.2 iv
def znm{W:Q7}(wp:Xw W){c:Int}(c0:0<=c)(c1:c<(W.IF.length:Int)):Xw (RG W c):=by
 have hl:(RG W c).IF.length=W.IF.length:=I0;have e:∀d:Int,0<=d->gi (RG W c).IF d=if c=d then XB (gi W.IF c) else gi W.IF d:=λd d0=>QD _ _ c0 c1 d0
 have sta:=Lm W c
 have ha:WA (RG W c):=wp.a.cp (cs:=W.IF.set c.toNat (XB (gi W.IF c))) I0 (by
  rw[show Jb (W.IF.set c.toNat (XB (gi W.IF c)))=Jb W.IF from sta.ups];exact wp.a.ups)
 refine⟨ha,λt t0 t1=>?_,λk d k0 k1 d0 d1=>?_,λd d0 d1=>?_⟩
 ·rcases wp.t t t0 t1 with hz|⟨n,hx⟩
  ·exact .inl hz
  ·refine .inr ⟨n,hx.st,hx.g,hx.n,hx.m,hx.m0,hx.v,hx.s,hx.u,hx.l1,hx.l2,?_,hx.f⟩;rw[sta.wh];exact hx.c
 ·have hs:=wp.s k d k0 k1 d0 d1;exact⟨hs.f,hs.v,hs.s,hs.w1,hs.w2,hs.root,hs.on,hs.st⟩
 ·rw[hl] at d1;have h:=wp.c d d0 d1
  by_cases hd:c=d
  ·subst hd;have e1:=(e c c0).trans (H' rfl);refine⟨by rw[e1];exact h.b,by rw[e1];exact h.i,by rw[e1];show (-1:Int)<=-1;decide,by rw[e1];show (-1:Int)<_;have:=wp.a.t;show (-1:Int)<(W.IK.length:Int);omega,λ_=>by rw[e1];rfl,λh0=>?_⟩;rw[e1] at h0;have h0:(0:Int)<=-1:=h0;omega
  ·have e1:=(e d d0).trans (E' hd);refine⟨by rw[e1];exact h.b,by rw[e1];exact h.i,by rw[e1];exact h.c1,by rw[e1];exact h.c2,by rw[e1];exact h.no,λh0=>?_⟩;rw[e1] at h0 ⊢;obtain⟨y1,y2,y3,y4,y5,y6⟩:=h.yes h0;refine⟨y1,y2,y3,y4,y5,?_⟩;unfold P7 at y6 ⊢;rw[e1];exact y6
def zmh{W:Q7}(iv:J4 W){c:Int}(c0:0<=c)(c1:c<(W.IF.length:Int)):J4 (RG W c):=
 ⟨znm iv.wp c0 c1,λk d hu d0 d1 hb=>by
  have hl:(RG W c).IF.length=W.IF.length:=I0;rw[hl] at d1;exact iv.fl k d hu d0 d1 hb⟩
def D4(W:Q7)(t g:Int):Int:=if Zb (Qv W g (Q8 W t).mask) (Q8 W t).R8=true then (Q8 W t).R8 else LF (Qv W g (Q8 W t).mask)
noncomputable def AV(W:Q7)(t g:Int):Int:=if ZI W t=false\/Q6 W.IE g=false then 2 else if QO W=false then 10 else 0
def za9(W:Q7)(t g:Int):Q7:=if (Q8 W t).II=g then W else Qh (UU (QW W t) t g (D4 W t g))
def zk2{W:Q7}(wp:Xw W){t g:Int}(t0:0<=t)(t1:t<12)(n:(Q8 W t).state≠0):0<=D4 W t g/\D4 W t g<(W.IF.length:Int)/\Zb (Qv W g (Q8 W t).mask) (D4 W t g):=by
 unfold D4;split
 ·rename_i h;have:=(Xe wp).l t t0 t1 n;exact⟨this.1,this.2,h⟩
 ·have hw:=L4 wp.a g (Q8 W t).mask;have hf:=Lr wp.a g (Q8 W t).mask;exact⟨hf.1,hf.2,D1 hw.1 hw.2⟩
def zr8{W:Q7}{t g:Int}(iv:J4 W)(hb:AV W t g=0):J4 (za9 W t g):=by
 have wp:=iv.wp;unfold AV at hb
 split at hb
 ·cases hb
 ·rename_i h1
  split at hb
  ·cases hb
  ·rename_i h3;have hth:ZI W t:=by cases h:ZI W t with|true=>rfl|false=>exact It (.inl h) h1
   have hu:Q6 W.IE g:=by cases h:Q6 W.IE g with|true=>rfl|false=>exact It (.inr h) h1
   have hr:QO W:=by simpa using h3
   obtain⟨t0,t1,n⟩:=YK hth;have lB:=wp.a.t;unfold za9;split
   ·exact iv
   ·obtain⟨m0,m1,m2⟩:=zk2 wp (g:=g) t0 Qo n;have sw:=P8 wp (Qm.1 hr);obtain⟨c0,c1⟩:=(Xe wp).l t t0 Qo n
    have key:VJ (QW W t)/\VM W (QW W t)/\SW Qt (QW W t)/\Q8 (QW W t) t=Q8 W t/\(QW W t).IK=W.IK/\(QW W t).IE=W.IE:=by
     unfold QW;split
     ·exact⟨(Xe wp).RG c0 c1,Lm _ _,sw.RG c0 c1,rfl,rfl,rfl⟩
     ·exact⟨Xe wp,VM.refl _,sw,rfl,rfl,rfl⟩
    obtain⟨k1,k2,k3,k4,k5,k6⟩:=key;have hlo:=k2.loc k5 (Ue wp);have hu2:Q6 (QW W t).IE g:=by rw[k6];exact hu
    have hm1:D4 W t g<((QW W t).IF.length:Int):=by rw[k2.len];exact m1
    have sf:=(Nq (Mb k3) (I4 _) (t:=t) t0 Qo hu2 m0 hm1).2;refine Zo sf.w (by simp only[Qp];decide) (by simp only[Qp,UW];decide) (Cv k1 t0 Qo (by rw[k4];exact n) hu2 m0 hm1) λi i0 i1 hn=>?_
    rw[(Nt (QW W t) t g (D4 W t g)).wh];rw[zjh k1.a.t t0 Qo i0] at hn ⊢
    split at hn
    ·rename_i he;rw[H' he];show Zb (Qv (QW W t) g (Q8 (QW W t) t).mask) (D4 W t g)=true;rw[k4,k2.wh];exact m2
    ·rename_i he;rw[E' he];exact hlo i i0 i1 hn
structure zb3 (W:Q7) (g:Int):Prop where
 g1:1<=g
 us:Q6 W.IE g=true
 nk:∀h:Int,1<=h->h<8->(gi W.IE h).IW->(gi W.IE h).IG≠g
 nt:∀t:Int,0<=t->t<12->(Q8 W t).state≠0->(Q8 W t).II≠g
def XA(W:Q7)(g:Int):Q7:=Rw W g CR
section
variable {W:Q7}{g:Int}
def zb3.g8(h:zb3 W g)(ha:WA W):g<8:=by
 have:=ha.gl;have:=(Q5.1 h.us).2.1;omega
def LS(ha:WA W)(h:zb3 W g){i:Int}(hi:0<=i):gi (XA W g).IE i=if g=i then CR else gi W.IE i:=Ym (by have:=h.g1;omega) (Q5.1 h.us).2.1 hi
def Gt(ha:WA W)(h:zb3 W g){k:Int}(hu:Q6 W.IE k)(hk:k≠g):gi (XA W g).IE k=gi W.IE k:=by
 rw[LS ha h (Q5.1 hu).1,E' λe=>hk e.symm]
def zea(ha:WA W):(XA W g).IE.length=8:=by
 have:=ha.gl;simp[XA,Rw];omega
def A5(ha:WA W)(h:zb3 W g){k:Int}(hu:Q6 W.IE k)(hz:k≠0):(gi W.IE k).IG≠g:=by
 obtain⟨a,b,c⟩:=Q5.1 hu;have:=ha.gl;exact h.nk k Qo Qo c
def Ng(ha:WA W)(h:zb3 W g){k:Int}:Q6 (XA W g).IE k=true↔Q6 W.IE k/\k≠g:=by
 have cN:=ha.gl;rw[Q5,Q5,zea ha,cN];constructor
 ·rintro⟨x,y,z⟩;rw[LS ha h x] at z
  by_cases e:g=k
  ·rw[H' e] at z;cases z
  ·rw[E' e] at z;exact⟨⟨x,y,z⟩,λe2=>e e2.symm⟩
 ·rintro⟨⟨x,y,z⟩,e⟩;refine⟨x,y,?_⟩;rw[LS ha h x,E' λe2=>e e2.symm];exact z
def zoh(ha:WA W)(h:zb3 W g):∀(f:Nat) (k:Int),Q6 W.IE k->k≠g->dep f (XA W g).IE k=dep f W.IE k
 |0,_,_,_=>rfl
 |f+1,k,hu,hk=>by
  by_cases hz:k=0
  ·subst hz;rw[Ye,Ye]
  ·have ih:=zoh ha h f _ (ZR ha.tree hu hz).1 (A5 ha h hu hz);simp only[dep];rw[Gt ha h hu hk,ih]
def zeb(ha:WA W)(h:zb3 W g):∀(f:Nat) (k:Int),Q6 W.IE k->k≠g->U6 f (XA W g).IE k=U6 f W.IE k
 |0,_,_,_=>rfl
 |f+1,k,hu,hk=>by
  by_cases hz:k=0
  ·subst hz;rw[Zf,Zf]
  ·have ih:=zeb ha h f _ (ZR ha.tree hu hz).1 (A5 ha h hu hz);simp only[U6];rw[Gt ha h hu hk,ih]
def zil(ha:WA W)(h:zb3 W g):∀k:Int,Q6 W.IE k->k≠g->∀x∈QV W.IE k,x≠g:=
 TP ha.tree (λ_ x hx=>by rw[show QV W.IE 0=[] from Zf _ _] at hx;cases hx) λk hu hz ih hk x hx=>by
  rw[Yb ha.tree hu hz] at hx;rcases Ik.1 hx with e|e
  ·rw[e];exact hk
  ·exact ih (A5 ha h hu hz) x e
def zrt(ha:WA W)(h:zb3 W g):ZZ (XA W g).IE:=by
 have ht:=ha.tree;have r:=Gt ha h ha.root (by have:=h.g1;omega)
 have sp:∀{k:Int},1<=k->k<8->(gi (XA W g).IE k).IW->Q6 W.IE k/\k≠g/\gi (XA W g).IE k=gi W.IE k:=λ{k} b d hh=>by
  have:=(Ng ha h).1 (Q5.2 ⟨Qo,by rw[zea ha];omega,hh⟩);exact⟨this.1,this.2,Gt ha h this.1 this.2⟩
 refine⟨zea ha,by rw[r];exact ht.ru,by rw[r];exact ht.rp,by rw[r];exact ht.rn,λk b d hh=>?_,λk b d hh=>?_,λk b d hh=>?_,λx k b d e hx hk=>?_⟩
 ·obtain⟨_,_,e⟩:=sp b d hh;rw[e] at hh ⊢;exact ht.nm k b d hh
 ·obtain⟨_,_,e⟩:=sp b d hh;rw[e] at hh ⊢;exact(Ng ha h).2 ⟨ht.par k b d hh,h.nk k b d hh⟩
 ·obtain⟨u,n,_⟩:=sp b d hh;rw[zoh ha h 3 k u n];exact ht.dp k b d (Q5.1 u).2.2
 ·rintro⟨q1,q2⟩;obtain⟨u1,_,e1⟩:=sp Qo e hx;obtain⟨u2,_,e2⟩:=sp b Qo hk;rw[e1,e2] at q1 q2;exact ht.uniq x k b d e (Q5.1 u1).2.2 (Q5.1 u2).2.2 ⟨q1,q2⟩
def Mq(ha:WA W)(h:zb3 W g){k c:Int}(hu:Q6 W.IE k)(hk:k≠g):Qb (XA W g) k c=Qb W k c:=by
 unfold Qb;rw[Gt ha h hu hk]
def zrs(wp:Xw W)(h:zb3 W g){c:Int}:QA W g c=false:=by
 have hl:=wp.a.gl;have ht:=wp.a.t
 have e1:∀j,j<W.IK.length->VT W g c j=false:=λj hj=>by
  unfold VT
  cases hs:((gi W.IK (j:Int)).state==1) with
  |false=>rfl
  |true=>
   have hs:(gi W.IK (j:Int)).state=1:=by simpa using hs
   have:(gi W.IK (j:Int)).II≠g:=h.nt (j:Int) Qo Qo (by rw[show (Q8 W (j:Int)).state=1 from hs];decide);rw[show ((gi W.IK (j:Int)).II==g)=false by simpa using this];rfl
 have e2:∀j,j<W.IE.length->Xy W g c j=false:=λj hj=>by
  unfold Xy
  by_cases hj1:1<=j
  ·cases hs:(gi W.IE (j:Int)).IW with
   |false=>simp
   |true=>
    have:=h.nk (j:Int) Qo Qo hs;rw[show ((gi W.IE (j:Int)).IG==g)=false by simpa using this];simp
  ·rw[decide_eq_false hj1];rfl
 unfold QA;rw[PL e1,PL e2];rfl
def zud(wp:Xw W)(h:zb3 W g){c:Int}(c0:0<=c)(c1:c<(W.IF.length:Int)):(Qb W g c).on=false:=by
 have g1:=h.g1;have:=(wp.s g c Qo (h.g8 wp.a) c0 (by rw[wp.a.sl h.us];exact c1)).on Qo;rw[this,zrs wp h];rfl
def zki(wp:Xw W)(h:zb3 W g){k c:Int}(c0:0<=c)(c1:c<(W.IF.length:Int))(j:Nat):Xy (XA W g) k c j=Xy W k c j:=by
 have ha:=wp.a;unfold Xy
 by_cases e:g=(j:Int)
 ·rw[LS ha h Qo,H' e,<-e,zud wp h c0 c1];simp[CR]
 ·rw[LS ha h Qo,E' e]
  have:Qb (XA W g) (j:Int) c=Qb W (j:Int) c:=by
   unfold Qb;rw[LS ha h Qo,E' e]
  rw[this]
def zuc(wp:Xw W)(h:zb3 W g){k c:Int}(c0:0<=c)(c1:c<(W.IF.length:Int)):QA (XA W g) k c=QA W k c:=by
 unfold QA;rw[show VO (VT (XA W g) k c) (XA W g).IK.length=VO (VT W k c) W.IK.length from rfl,zea wp.a,wp.a.gl];rw[PK λj _=>zki wp h c0 c1 j]
def zue(ha:WA W)(h:zb3 W g){k:Int}(hu:Q6 W.IE k)(hk:k≠g)(u:Int):V7 (XA W g).IE k u=V7 W.IE k u:=by
 have e:QV (XA W g).IE k=QV W.IE k:=zeb ha h 3 k hu hk;have g1:=h.g1;unfold V7;rw[e];refine Eh _ _ λs x hx=>?_
 have hxu:Q6 W.IE x/\x≠g:=by
  rcases Ip.1 hx with hx|hx
  ·exact⟨(Yy ha.tree k hu x hx).1,zil ha h k hu hk x hx⟩
  ·rw[IB.1 hx];exact⟨ha.root,Qo⟩
 rw[Gt ha h hxu.1 hxu.2]
def zvv(ha:WA W)(h:zb3 W g){k:Int}(hu:Q6 W.IE k)(hk:k≠g)(m:Int):Qv (XA W g) k m=Qv W k m:=zq6 (W:=W) (W':=XA W g) rfl (zue ha h hu hk) m
def zr5(iv:J4 W)(h:zb3 W g):J4 (XA W g):=by
 have wp:=iv.wp;have ha:=wp.a;have g1:=h.g1;have g8:=h.g8 ha;have cN:=ha.gl;have hpu:∀{k:Int},Q6 W.IE k->k≠0->Q6 W.IE (gi W.IE k).IG:=λhu hz=>(ZR ha.tree hu hz).1
 have hA:WA (XA W g):=by
  refine⟨ha.n1,ha.n2,ha.c1,ha.c2,ha.t,zrt ha h,ha.ups,λk k0 k1=>?_⟩;unfold Pt;rw[LS ha h k0];split
  ·exact⟨λ_=>⟨rfl,rfl,rfl,rfl,rfl,rfl,rfl,rfl,show Tj ⟨0,0,0,[],[]⟩=true by decide⟩,λhh=>by cases hh⟩
  ·have:=ha.grp k k0 k1;exact⟨this.1,λhu=>by have:=this.2 hu;exact⟨this.w1,this.w2,this.m,this.m0,this.s,this.len,this.root,this.none,this.IY⟩⟩
 refine⟨⟨hA,λt t0 t1=>?_,λk c k0 k1 c0 c1=>?_,λc c0 c1=>?_⟩,λk c hu c0 c1 hb=>?_⟩
 ·rcases wp.t t t0 t1 with hz|⟨n,hx⟩
  ·exact .inl hz
  ·have hn:=h.nt t t0 t1 n;refine .inr ⟨n,hx.st,(Ng ha h).2 ⟨hx.g,hn⟩,hx.n,hx.m,hx.m0,hx.v,hx.s,hx.u,hx.l1,hx.l2,?_,λhs=>?_⟩
   ·rw[show (Q8 (XA W g) t)=Q8 W t from rfl,zvv ha h hx.g hn];exact hx.c
   ·rw[show (Q8 (XA W g) t)=Q8 W t from rfl,Mq ha h hx.g hn];exact hx.f hs
 ·by_cases e:g=k
  ·subst e;rw[LS ha h k0,H' rfl] at c1;have c1:c<(0:Int):=c1;omega
  ·have hg:gi (XA W g).IE k=gi W.IE k:=by rw[LS ha h k0,E' e]
   have e2:k≠g:=λh=>e h.symm
   rw[hg] at c1
   have hu:Q6 W.IE k:=by
    cases hh:(gi W.IE k).IW with
    |true=>exact Q5.2 ⟨k0,Qo,hh⟩
    |false=>
     have:=((ha.grp k k0 k1).1 hh).l;omega
   have cl:c<(W.IF.length:Int):=by rw[<-ha.sl hu];exact c1
   have hs:=wp.s k c k0 k1 c0 c1;have es:=Mq ha h (c:=c) hu e2;refine⟨by rw[es];exact hs.f,by rw[es];exact hs.v,by rw[es];exact hs.s,by rw[es];exact hs.w1,by rw[es];exact hs.w2,λhz=>by rw[es];exact hs.root hz,λhz=>?_,λhz ho=>?_⟩
   ·rw[es,zuc wp h c0 cl,show V6 (XA W g) k c=V6 W k c by unfold V6;rw[hg]];exact hs.on hz
   ·rw[es] at ho;rw[es,hg,Mq ha h (hpu hu hz) (A5 ha h hu hz)];exact hs.st hz ho
 ·have hc:=wp.c c c0 c1;refine⟨hc.b,hc.i,hc.c1,hc.c2,hc.no,λh0=>?_⟩;have h0:0<=(gi W.IF c).cur:=h0;obtain⟨y1,y2,y3,y4,y5,y6⟩:=hc.yes h0;have hl:=ha.t;have hc2:=hc.c2
  have kU:Q6 W.IE (Q8 W (gi W.IF c).cur).II/\(Q8 W (gi W.IF c).cur).II≠g:=by
   rcases wp.t _ h0 Qo with hz|⟨n,hx⟩
   ·unfold Zi at y5;rw[hz.1] at y5;simp at y5
   ·exact⟨hx.g,h.nt _ h0 Qo n⟩
  obtain⟨kU,hgn⟩:=kU;have hpt:QV (XA W g).IE (Q8 W (gi W.IF c).cur).II=QV W.IE (Q8 W (gi W.IF c).cur).II:=zeb ha h 3 _ kU hgn;refine⟨y1,y2,y3,y4,?_,?_⟩
  ·unfold Zi JM at y5 ⊢;rw[show (gi (XA W g).IF c).cur=(gi W.IF c).cur from rfl,show Q8 (XA W g) (gi W.IF c).cur=Q8 W (gi W.IF c).cur from rfl,hpt];rw[A',List.all_eq_true] at y5 ⊢;exact⟨y5.1,λx hx=>by rw[Mq ha h (Yy ha.tree _ kU x hx).1 (zil ha h _ kU hgn x hx)];exact y5.2 x hx⟩
  ·unfold P7 VS at y6 ⊢;rw[show (gi (XA W g).IF c).cur=(gi W.IF c).cur from rfl,show (gi (XA W g).IF c).WC=(gi W.IF c).WC from rfl,show Q8 (XA W g) (gi W.IF c).cur=Q8 W (gi W.IF c).cur from rfl,hpt,Mq ha h kU hgn];rw[A',List.all_eq_true] at y6 ⊢;refine⟨y6.1,λx hx=>?_⟩;obtain⟨xu,xz⟩:=Yy ha.tree _ kU x hx;have xg:=zil ha h _ kU hgn x hx;rw[Mq ha h xu xg,Gt ha h xu xg,Mq ha h (hpu xu xz) (A5 ha h xu xz)];exact y6.2 x hx
 ·have cl:c<(W.IF.length:Int):=c1;obtain⟨hk,hkg⟩:=(Ng ha h).1 hu
  have Aa1:∀j,j<20->QX (XA W g) k c j=QX W k c j:=λj hj=>by
   by_cases tG:j<12
   ·rw[XN tG,XN tG];rfl
   ·rw[show j=12+(j-12) by omega,YZ,YZ,zki wp h c0 cl (j-12)]
  have hv:∀j,j<20->QX (XA W g) k c j->QZ (XA W g) c j=QZ W c j:=λj hj hm=>by
   unfold QZ;split
   ·rfl
   ·rename_i tG;have hm2:=hm;rw[show j=12+(j-12) by omega,YZ] at hm2;unfold Xy at hm2;simp only[A'] at hm2
    have fJ:((j-12:Nat):Int)≠g:=λe=>by
     have hu2:=hm2.1.2.1;rw[LS ha h Qo,H' e.symm] at hu2;cases hu2
    rw[Aa1 j hj,show j=12+(j-12) by omega,YZ] at hm;unfold Xy at hm;simp only[A'] at hm;rw[Mq ha h (Q5.2 ⟨Qo,Qo,hm.1.2.1⟩) fJ]
  have e:QN (QX (XA W g) k c) (QZ (XA W g) c) 20=QN (QX W k c) (QZ W c) 20:=Pl Aa1 hv;have pY:=iv.fl k c hk c0 cl (by unfold ZO at hb ⊢;rwa[e] at hb);rw[Mq ha h hk hkg];refine Int.le_trans (Int.le_of_eq ?_) pY;unfold ZO at hb;have hb:=Ot hb;rw[e] at hb;unfold Zc;rw[e,E' Qo,E' Qo];rcases Z9 (QX W k c) (QZ W c) 20 with ⟨q,_⟩|⟨_,q2,q3,_⟩
  ·omega
  ·have IX:(QN (QX W k c) (QZ W c) 20).toNat<20:=Qo;exact hv _ IX (by rw[Aa1 _ IX];exact q3)
def znv(W:Q7)(g:Int):Prop:=(∃h:Int,1<=h/\h<8/\(gi W.IE h).IW/\(gi W.IE h).IG=g)\/∃t:Int,0<=t/\t<12/\(Q8 W t).state≠0/\(Q8 W t).II=g
noncomputable def E2(W:Q7)(g:Int):Int:=if g=0 then 1 else if Q6 W.IE g=false then 2 else if JA (znv W g) then 4 else if QO W=false then 10 else 0
def zoi{W:Q7}{g:Int}(hb:E2 W g=0):zb3 W g/\QO W:=by
 unfold E2 at hb
 split at hb
 ·cases hb
 rename_i h1
 split at hb
 ·cases hb
 rename_i h2
 split at hb
 ·cases hb
 rename_i h3
 split at hb
 ·cases hb
 rename_i h4;have h3:¬znv W g:=λh=>h3 (Qm.2 h)
 have hu:Q6 W.IE g:=by simpa using h2
 have:=(Q5.1 hu).1;exact⟨⟨Qo,hu,λh a b c d=>h3 (.inl ⟨h,a,b,c,d⟩),λt a b c d=>h3 (.inr ⟨t,a,b,c,d⟩)⟩,by simpa using h4⟩
end
def Nb(W:Q7)(c:Int):Int:=if Y4 W c=false then 1 else if (gi W.IF c).cur<0 then 6 else 0
def zvg{W:Q7}{c:Int}(h:Nb W c=0):Y4 W c/\0<=(gi W.IF c).cur:=by
 unfold Nb at h
 split at h
 ·cases h
 ·rename_i h1
  split at h
  ·cases h
  ·exact⟨by simpa using h1,Qo⟩
section
variable {W:Q7}{m:MW}{w:Wo}{bs:List Nat}
def HU{c:Int}(h:X0 [] w W m)(hl:Xk W) :
  Cz UO #[.agg (Qa W m).toArray,I c] w λe w'=>∃v,e=.returned v/\QM (Xz W (Nb W c) (RG W c)) w v w':=by
 refine HC _ _ _ _ _ _ _ _ _ _ c (R:=λv w'=>QM (Xz W (Nb W c) (RG W c)) w v w') ?_;intro y hy y1 eR;have hm0:=YQ;have rM:=hl.c;refine⟨_,YH h hl.c hl.t hl.g hl.f,λg wr hx=>QM.bad (by simpa using g) hx,λg wr Rt Wg=>?_⟩;have hW:QH W:=by simpa using g
 have wp:=Qm.1 hW;refine I5 (Ol (h.ext Rt) wp.a) ?_;rintro e wv ⟨m',he,hM,Wc⟩;have hK:=Wk.begin hy eR Rt Wg hM Wc;have hr:=hK.rd;refine⟨_,_,_,_,_,_,_,_,_,_,he,Qf Wc Wg,⟨Qo,Qo⟩,Y4 W c,Ql,λg Ra Ru=>?_,λg=>?_⟩
 ·have hb:Nb W c=1:=by unfold Nb;rw[H' (by simpa using g)]
  exact QM.no hW (by rw[hb];decide) (hK.step Ru) hb
 have g:Y4 W c:=by simpa using g
 obtain⟨c0,c1⟩:=Xg g;refine⟨hr.c.ix Zy c0 c1,_,hr.c.f c0 c1 (j:=1) rfl,λg2 Rg Ru=>?_,λg2 RO X' gX=>?_⟩
 ·have g2:=Ot g2;have hb:Nb W c=6:=by unfold Nb;rw[E' (by rw[g];decide),H' g2]
  exact QM.no hW (by rw[hb];decide) (hK.step Ru) hb
 have g2:=Ou g2;have hb:Nb W c=0:=by unfold Nb;rw[E' (by rw[g];decide),E' g2]
 have dT:=hK.step X';refine I5 (Zr dT.own c0 c1) ?_;rintro e1 RF ⟨mJ,rN⟩;exact⟨_,_,_,_,_,_,_,_,_,_,mJ,dT.kept rN gX,λS5 Wb=>QM.ok hW hb ((dT.W9 rN gX).step Wb)⟩
def zl5(V:Q7)(t g c:Int)(m:MW):Qa (UU V t g c) m=Qa V m:=by
 unfold UU
 split <;> simp[Qa,RG,S8,I']
def zuz{K:Int}{W:Q7}(sw:SW K W){t:Int}(t0:0<=t)(t1:t<12)(n:(Q8 W t).state≠0):SW K (QW W t):=by
 unfold QW;split
 ·have:=sw.t t t0 t1 n;exact sw.RG this.2.1 this.2.2
 ·exact sw
def BC{t g:Int}(h:X0 [] w W m)(hl:Xk W) :
  Cz T4 #[.agg (Qa W m).toArray,I t,I g] w λe w'=>∃v,e=.returned v/\QM (Xz W (AV W t g) (za9 W t g)) w v w':=by
 refine Bh _ _ _ _ _ _ _ _ _ _ t g (R:=λv w'=>QM (Xz W (AV W t g) (za9 W t g)) w v w') ?_;intro y hy y1 eR wr Rt Wg;refine I5 (Z8 (h.ext Rt) hl) ?_;rintro e wv (⟨hW,he,Wc⟩|⟨hW,m',he,hM,Wc⟩)
 ·exact⟨_,_,_,_,_,_,_,_,_,_,_,he,Qf Wc Wg,λ_ Ra Ru=>QM.bad hW ((Rt.trans Wc).fresh Ru λz hm=>.inl (Yz hy eR z hm)),λg=>by simp at g⟩
 have hK:=Wk.begin hy eR Rt Wg hM Wc;have hr:=hK.rd;have wp:=Qm.1 hW;have lB:=wp.a.t;refine⟨_,_,_,_,_,_,_,_,_,_,_,he,Qf Wc Wg,λg=>by split at g <;> simp at g,λ_=>⟨_,Je hr hl.t,_,λ_=>X3 hr.g,λq Rg Ru=>?_,λq=>?_⟩⟩
 ·have hb:AV W t g=2:=by
   unfold AV;rw[H']
   simpa using q
  exact QM.no hW (by rw[hb];decide) (hK.step Ru) hb
 simp only[I1,I8] at q;obtain⟨q1,q2⟩:=q;have n1:¬(ZI W t=false\/Q6 W.IE g=false):=by rw[q1,q2];simp
 obtain⟨t0,t1,tn⟩:=YK q1;have WJ:=hr.t.ix QF t0 t1;refine⟨λg3 RO Ru=>?_,λg3=>?_⟩
 ·have bH:¬QO W:=λhr=>by rw[H' hr] at g3;simp at g3
  have hb:AV W t g=10:=by unfold AV;rw[E' n1,H' (by simpa using bH)]
  rw[E' bH];exact QM.no hW (by rw[hb];decide) (hK.step Ru) hb
 have bH:QO W:=Is λhr=>by rw[E' hr] at g3;simp at g3
 have hb:AV W t g=0:=by unfold AV;rw[E' n1,E' (by rw[bH];decide)]
 have sw:=P8 wp (Qm.1 bH);obtain⟨hu,c0,c1⟩:=sw.t t t0 Qo tn;refine⟨WJ,_,_,_,_,_,_,_,_,_,hr.t t t0 t1,λb2 cA=>⟨λg4 RO X'=>?_,λg4=>?_⟩⟩
 ·have g4:(Q8 W t).II=g:=by simpa[Q8] using g4
  have hE:za9 W t g=W:=by unfold za9;rw[H' g4]
  have:=QM.ok (W':=za9 W t g) hW hb (m':=m') (hE.symm▸hK.step X')
  rwa[hE] at this ⊢
 have g4:¬(Q8 W t).II=g:=by simpa[Q8] using g4
 have hE:za9 W t g=Qh (UU (QW W t) t g (D4 W t g)):=by unfold za9;rw[E' g4]
 obtain⟨m0,m1,_⟩:=zk2 wp (g:=g) t0 Qo tn;have hK0:=hK.add cA;refine⟨_,XL hr wp.a.c2 wp.a.tree q2,λvs bs w1=>bs=[]/\vs=[I (D4 W t g)]/\Q0 [y,y1] wv w1,⟨_,ZU,λg5=>⟨_,PY,λS5 Wb _=>⟨rfl,?_,Wb⟩⟩,λg5 Sw eM _=>⟨rfl,?_,eM⟩⟩,?_⟩
 ·have g5:¬Zb (Qv W g (Q8 W t).mask) (Q8 W t).R8:=by simpa[Q8] using g5
  unfold D4;rw[E' g5];rfl
 ·have g5:Zb (Qv W g (Q8 W t).mask) (Q8 W t).R8:=by simpa[Q8] using g5
  unfold D4;rw[H' g5];rfl
 rintro cv RF gZ ⟨-,hv,hxv⟩;simp only[I6,I7,true_and,and_true] at hv;subst hv;have Cm7:Q0 ([y,y1]++[b2]) wv RF:=hxv.mono λx hm=>Ic _ hm
 have hK1:=hK0.step Cm7;have e5:Qa (RG W (Q8 W t).R8) m'=Qa W m':=by simp[Qa,RG,S8]
 refine⟨λvs bs w1=>bs=[]/\vs=Qa W m'/\Wk 8 ([y,y1]++[b2]) w w1 (QW W t) m',⟨hK1.rd.c.ix Zy c0 c1,_,hK1.rd.c.f c0 c1 (j:=1) rfl,λg6 SC mE hs7=>?_,λg6 aM hx9 _=>⟨rfl,rfl,?_⟩⟩,?_⟩
 ·have g6:(gi W.IF (Q8 W t).R8).cur=t:=by simpa using g6
  have hY:=hK1.step mE;refine I5 (Zr hY.own c0 c1) ?_;rintro e1 RH ⟨mJ,rN⟩;rw[show Qa (RG W (gi W.IK t).R8) m'=Qa W m' from e5] at mJ;refine⟨_,_,_,_,_,_,_,_,_,_,mJ,hY.kept rN hs7,λU' rD _=>⟨rfl,rfl,?_⟩⟩;have hlv:QW W t=RG W (Q8 W t).R8:=by unfold QW;rw[H' g6]
  rw[hlv];exact(hY.W9 rN hs7).step rD
 ·have g6:¬(gi W.IF (Q8 W t).R8).cur=t:=by simpa using g6
  have hlv:QW W t=W:=by unfold QW;rw[E' g6]
  rw[hlv];exact hK1.step hx9
 rintro l Sd Sm Sr Sj So Sq Se Sf Sg Sx kO ⟨-,hv,nG⟩;simp only[Qa,I6,I7,Iy,true_and,and_true] at hv;obtain⟨rfl,⟨rfl,rfl,rfl⟩,⟨rfl,rfl,rfl⟩,rfl,rfl,rfl⟩:=hv;have swl:=zuz sw t0 Qo tn;have ht:(QW W t).IK=W.IK:=by unfold QW;split <;> rfl
 have hg:(QW W t).IE=W.IE:=by unfold QW;split <;> rfl
 have rL:(QW W t).IF.length=W.IF.length:=by
  unfold QW;split
  ·exact I0
  ·rfl
 have hn:(QW W t).now=W.now:=by unfold QW;split <;> rfl
 have eL:∀mm,Qa (QW W t) mm=Qa W mm:=λmm=>by simp[Qa,ht,hg,rL,hn]
 have tn2:(Q8 (QW W t) t).state≠0:=by rw[XR ht];exact tn
 have hu2:Q6 (QW W t).IE g:=by rw[hg];exact q2
 have hm1:D4 W t g<((QW W t).IF.length:Int):=by rw[rL];exact m1
 rw[hE];generalize QW W t=V at nG swl eL tn2 hu2 hm1;generalize D4 W t g=c at m0 hm1;intro Sp AG6 rB;have dT:=nG.step AG6;have RD:=Ui dT.own (Mb swl) (I4 _) (by simp only[Qp];decide) (t:=t) (g:=g) (c:=c) t0 Qo tn2 hu2 m0 hm1;rw[eL] at RD;refine I5 RD ?_;rintro e2 bN ⟨bS,pS⟩;have dE:=dT.W9 pS rB;have sf2:=(Nq (Mb swl) (I4 _) (t:=t) t0 Qo hu2 m0 hm1).2;have eP:Qa (UU V t g c) m'=Qa W m':=by rw[<-eL];exact zl5 V t g c m'
 refine⟨_,_,_,_,_,_,_,_,_,_,bS,dT.kept pS rB,λSn Ay5 AL6=>?_⟩;have rK:=dE.step Ay5;have rR:=Qu rK.own sf2.w (by simp only[Qp];decide) (by simp only[Qp];decide) rK.base;rw[eP] at rR;refine I5 rR ?_;rintro e3 WY ⟨m2,jM,hy5⟩;exact⟨_,_,_,_,_,_,_,_,_,_,jM,rK.kept hy5 AL6,λSv AB5=>QM.ok hW hb ((rK.W9 hy5 AL6).step AB5)⟩
def BI{g:Int}(h:X0 bs w W m)(hg8:W.IE.length=8)(Cm0:W.IK.length=12) :
  PX bs Ta #[.agg (Qa W m).toArray,I g] w (.bool (JA (znv W g))):=
 N0 _ _ _ _ _ _ _ _ _ _ g λwr hx=>by
  have h:=(h.ext hx).less (cs:=[]) Qs;intro b hb;refine Xr 8 1 rfl (λk=>1<=k/\k<=8/\∀j:Int,1<=j->j<(k:Int)->¬((gi W.IE j).IW/\(gi W.IE j).IG=g)) ⟨Qo,Qo,λj a b=>by omega⟩ λk ⟨hk1,hk8,kF⟩=>⟨λIX=>?_,λRX=>?_⟩
  ·have IX:=Ot IX;have k0:(0:Int)<=(k:Int):=Qo;refine⟨h.g.ix k0 IX,_,h.g.IW k0 IX,λ_=>h.g.ix k0 IX,_,λ_=>h.g.IG k0 IX,λq=>?_,λq=>⟨⟨Qo,Qo⟩,QB Qo ⟨Qo,Qo,λj a b=>?_⟩⟩⟩
   ·rw[A',Iu] at q;exact zh8 (.inl ⟨(k:Int),Qo,Qo,q.1,q.2⟩)
   ·by_cases e:j<(k:Int)
    ·exact kF j a e
    ·have:j=(k:Int):=Qo;subst this;rintro⟨q1,q2⟩;rw[q1,Iu.2 q2] at q;cases q
  ·have RX:=Ou RX;refine Xr 12 0 rfl (λk=>k<=12/\∀j:Int,0<=j->j<(k:Int)->¬((Q8 W j).state≠0/\(Q8 W j).II=g)) ⟨Qo,λj a b=>by omega⟩ λk2 ⟨kZ,hnt⟩=>⟨λSi=>?_,λdA=>?_⟩
   ·have Si:=Ot Si;have k0:(0:Int)<=(k2:Int):=Qo;refine⟨h.t.ix QF k0 Si,_,h.t.f k0 Si (j:=0) rfl,λ_=>h.t.ix QF k0 Si,_,λ_=>h.t.f k0 Si (j:=1) rfl,λq=>?_,λq=>⟨⟨Qo,Qo⟩,QB Qo ⟨Qo,λj a b=>?_⟩⟩⟩
    ·rw[A',Iu,Iv] at q;exact zh8 (.inr ⟨(k2:Int),Qo,Qo,q.1,q.2⟩)
    ·by_cases e:j<(k2:Int)
     ·exact hnt j a e
     ·have:j=(k2:Int):=Qo;subst this;rintro⟨q1,q2⟩;have q1:(gi W.IK (k2:Int)).state≠0:=q1;have q2:(gi W.IK (k2:Int)).II=g:=q2;rw[Iv.2 q1,Iu.2 q2] at q;cases q
   ·have dA:=Ou dA;refine K7 ?_;rintro (⟨j,a,b,c,d⟩|⟨j,a,b,c,d⟩)
    ·exact kF j a Qo ⟨c,d⟩
    ·exact hnt j a Qo ⟨c,d⟩
def Ep{g:Int}(h:X0 [] w W m)(hl:Xk W) :
  Cz Vn #[.agg (Qa W m).toArray,I g] w λe w'=>∃v,e=.returned v/\QM (Xz W (E2 W g) (XA W g)) w v w':=by
 refine E6 _ _ _ _ _ _ _ _ _ _ g (R:=λv w'=>QM (Xz W (E2 W g) (XA W g)) w v w') ?_;intro x hx x1 SD wr Rt Wg;refine I5 (Uy (g:=g) (ok:=true) (h.ext Rt) hl) ?_;rintro e wv (⟨hW,he,hy⟩|⟨hW,m',he,hM,hy⟩)
 ·exact⟨_,_,_,_,_,_,_,_,_,_,_,he,Qf hy Wg,λ_ Ra Ru=>QM.bad hW ((Rt.trans hy).fresh Ru λy hm=>.inl (Yz hx SD y hm)),λg=>by simp at g⟩
 have hK:=Wk.begin hx SD Rt Wg hM hy;have hr:=hK.rd;have wp:=Qm.1 hW;refine⟨_,_,_,_,_,_,_,_,_,_,_,he,Qf hy Wg,λg1 Ra Ru=>?_,λg1=>⟨_,BI hr wp.a.gl wp.a.t,λg2 Rg Ru=>?_,λg2=>⟨λg3 RL Ru=>?_,λg3=>?_⟩⟩⟩
 ·have hb:E2 W g=PA W g true:=by
   by_cases h0:g=0
   ·unfold E2 PA;rw[H' h0,H' (.inr h0)]
   ·have e0:¬(true=false\/g=0):=by simp[h0]
    by_cases h1:Q6 W.IE g=false
    ·unfold E2 PA;rw[E' h0,E' e0,H' h1,H' h1]
    ·exfalso
     unfold PA at g1;rw[E' e0,E' h1] at g1
     split at g1 <;> simp at g1
  exact QM.no hW (λh0=>by rw[<-hb,h0] at g1;simp at g1) (hK.step Ru) hb
 all_goals
  have g1':¬g=0/\¬Q6 W.IE g=false:=by
   unfold PA at g1
   by_cases h0:g=0
   ·rw[H' (.inr h0)] at g1;simp at g1
   ·refine⟨h0,λh1=>?_⟩;rw[E' (show ¬(true=false\/g=0) by simp[h0]),H' h1] at g1;simp at g1
  have hgB:PA W g true=if QO W=false then 10 else 0:=by
   unfold PA;rw[E' (show ¬(true=false\/g=0) by simp[g1'.1]),E' g1'.2]
 ·have hb:E2 W g=4:=by unfold E2;rw[E' g1'.1,E' g1'.2,H' g2]
  exact QM.no hW (by rw[hb];decide) (hK.step Ru) hb
 ·have bH:QO W=false:=by
   cases hq:QO W with
   |false=>rfl
   |true=>rw[hgB,hq] at g3;simp at g3
  have hb:E2 W g=10:=by unfold E2;rw[E' g1'.1,E' g1'.2,E' (by rw[g2];decide),H' bH]
  rw[hgB,H' bH];exact QM.no hW (by rw[hb];decide) (hK.step Ru) hb
 ·have bH:QO W:=by
   cases hq:QO W with
   |true=>rfl
   |false=>rw[hgB,hq] at g3;simp at g3
  have hb:E2 W g=0:=by unfold E2;rw[E' g1'.1,E' g1'.2,E' (by rw[g2];decide),E' (by rw[bH];decide)]
  have hu:Q6 W.IE g:=by simpa using g1'.2
  obtain⟨u0,u1,_⟩:=Q5.1 hu;have cN:=wp.a.gl
  have SZ:Wk 8 [x,x1] w (RN wv m'.gO (Int.toNat g*14) (YC CR BO)) (XA W g) (Oo m' g.toNat BO):=
   ⟨hK.s.call F3 λy hy=>(hK.own.lt y hy).1,⟨hK.own.Bm9 u0 Qo (g:=CR) (p:=BO) (j:=0) (vs:=YC CR BO) ⟨.inl ⟨rfl,rfl,rfl⟩,.inl ⟨rfl,rfl,rfl⟩,.inl ⟨rfl,rfl,rfl⟩⟩ (λy hy=>by simp[Qw,BO,QE] at hy) (by simp[YC]) (by simp[YC]),λy hy hm=>by
    rcases Tm y hy with h1|h1
    ·exact hK.nb y h1 hm
    ·simp[Qw,BO,QE] at h1⟩⟩
  refine⟨hr.g.ix u0 u1,zb1 hK.own hK.nb u0 Qo (j:=0) Qd,λRO X'=>?_⟩;have A30:=QM.ok hW hb (SZ.step X');have ew:Qa (XA W g) (Oo m' g.toNat BO)=Qa W m':=by simp[Qa,XA,Rw,Oo]
  rw[ew] at A30;have hgz:PA W g true=0:=by rw[hgB,E' (by rw[bH];decide)]
  exact A30
end
def zsm{V:Q7}(ha:WA V):Xk V:=by
 have h1:=ha.c2;have h2:=ha.t;have h3:=ha.gl;have hm:=Zp;have hn1:=ha.n1;have hn2:=ha.n2;refine⟨Qo,Qo,Qo,λi a b=>?_⟩;have hb:=Hx ha a Qo;have hg:=ha.grp i a Qo;have hz:(⟨[].toArray⟩:ByteArray).size=0:=rfl;refine⟨?_,?_,Qo,Qo,Qo⟩
 ·cases hu:(gi V.IE i).IW with
  |false=>rw[(hg.1 hu).n,hz];omega
  |true=>
   by_cases e:i=0
   ·rw[e,ha.tree.rn,hz];omega
   ·have:=(Mz.1 (ha.tree.nm i Qo Qo hu)).1;omega
 cases hu:(gi V.IE i).IW with
 |false=>rw[(hg.1 hu).ne];exact⟨Qd,Qd⟩
 |true=>
  have hg:=hg.2 hu
  by_cases hq:(gi V.IE i).IY.R4=0
  ·rw[(hg.none hq).2.2];exact⟨Qd,Qd⟩
  ·have:=hg.IY hq;exact⟨Qo,Qo⟩
def Kz{n:Nat}{p:Int}{name:ByteArray}{w:Wo}(hn:n<=4) :
  Cz Ut #[I (n:Int),I p,.string name] w λe w'=>∃mg,e=.returned (.agg (YC (On n p name) mg).toArray)/\Mj w.heap.size w' (On n p name,mg)/\Q0 [] w w':=by
 refine(Ac (n:Int) p name (R:=λv w'=>∃mg,v=.agg (YC (On n p name) mg).toArray/\Mj w.heap.size w' (On n p name,mg)/\Q0 [] w w') ?_).mono λe w' ⟨v,he,mg,hv,h3⟩=>⟨mg,by rw[he,hv],h3⟩
 intro b hb b1 fI
 refine⟨λvs w2=>∃(k:Nat) (o:OA) (cap:Nat),vs=[I (k:Int),.bool true,I p,.string name,I 10,I 15,I 0,I 0,I 0,I 0,I 0,I 0,.slice none 0 0,.slice none 0 0,.slice o k cap]/\k<=n/\Sc w [b,b1] w2/\Ob TY 5 YA w.heap.size [b,b1] w2 o cap (List.replicate k zba),
  Zk n 0,λwr hx _=>⟨0,none,0,rfl,Ig _,(((Sc.start w).add hb).add fI).RJ hx,⟨.inl ⟨rfl,rfl,rfl⟩,by simp[QE]⟩⟩,?_⟩
 rintro c1 l l1 l2 l3 l4 l5 l6 l7 l8 l9 l10 nM nL nK AH0 AG9 AG8 AH2 tK AH1 wv Wg ⟨k,o,cap,he,hk,s1,hO⟩;simp only[I6,I7,Value.bool.injEq,Value.string.injEq,Iy,true_and,and_true] at he;obtain⟨rfl,rfl,rfl,rfl,rfl,rfl,rfl,rfl,rfl,rfl,rfl,rfl,⟨rfl,rfl,rfl⟩,⟨rfl,rfl,rfl⟩,rfl,rfl,rfl⟩:=he;refine⟨λIX=>?_,λRX=>?_⟩
 ·have IX:=Ot IX;intro b3 hb3 RL Ru kO Wn;have s2:=s1.put Ru hb3;have tF:=hO.put Ru hb3;obtain⟨o2,c2,w2,Wa,uB,hO3,Rt⟩:=tF.tY VX MY (x:=zba) kO s2.ext.size Wn (zv9 _) (by simp;omega) Qd ZJ #[false,false];have s3:=s2.call Rt λx hm=>(tF.own.lt x hm).1
  have hL:List.replicate tK zba++[zba]=List.replicate (tK+1) zba:=by rw[List.replicate_succ']
  rw[hL] at Wa hO3;rw[List.length_replicate,List.length_replicate] at Wa;exact⟨_,_,_,w2,Wa,uB,⟨Qo,Qo⟩,λRO X' _=>⟨⟨tK+1,o2,c2,Qs,Qo,(s3.step X').sub Qs,(hO3.step X').sub Qs⟩,QJ (k:=tK) rfl rfl Qo⟩⟩
 ·have RX:=Ou RX;have:tK=n:=Qo;subst this;intro S5 Wb;refine⟨⟨none,0,none,0,AH2,AH1⟩,?_,⟨.inl ⟨rfl,rfl,rfl⟩,.inl ⟨rfl,rfl,rfl⟩,(hO.step Wb).own⟩,(s1.step Wb).ext⟩;simp[YC,On,Za]
def zv5:QR≠ZE:=Qd
def ztw:QT≠ZE:=Qd
def zv4:QT≠QR:=Qd
def HL{i:Int}(h0:0<=i)(h1:i<8):gi (List.replicate 8 TT) i=TT:=by
 obtain⟨k,rfl⟩:=Int.eq_ofNat_of_zero_le h0;rw[XT (by rw[List.length_replicate];omega)];exact List.getElem_replicate _
def zm0{base:Nat}{w:Wo}{o:OA}{cap:Nat}(h:Jy OG 14 QT base w o cap (List.replicate 8 TT)):Mi base w o cap (List.replicate 8 TT):=by
 refine⟨h,λi h0 h1=>?_,λi j h0 h1 _ _ _ x hm=>?_⟩
 ·rw[HL h0 (by simpa using h1)];exact⟨.inl ⟨rfl,rfl,rfl⟩,.inl ⟨rfl,rfl,rfl⟩,.inl ⟨rfl,rfl,rfl⟩⟩
 ·rw[HL h0 (by simpa using h1)] at hm;simp[Qw,TT,QE] at hm
section
variable {w:Wo}{b:Nat}
def zwt(b:Nat)(w:Wo)(vs:List Va)(bs:List Nat)(w2:Wo):Prop:=
 ∃(bx:Nat) (tO gO:OA) (tC gC:Nat),bs=[bx]/\vs=[I 0,.slice none 0 0,.slice tO 12 tC,.slice gO 8 gC]/\Sc w [b,bx] w2/\Ob Ys 9 QR w.heap.size [b,bx] w2 tO tC (List.replicate 12 VI)/\Ob OG 14 QT w.heap.size [b,bx] w2 gO gC (List.replicate 8 TT)
def zpq{bs:List Nat}{w1:Wo}(s:Sc w bs w1)(hs:∀x∈bs,x<w1.heap.size):∃(o:OA) (c:Nat) (w2:Wo),(Instr.makeSlice Zn (I 12) (I 12):Sem Va).run Tryz.prog w1=.ok (.slice o 12 c) w2/\Q9 bs w1 w2/\Q0 [] w1 w2/\Ob Ys 9 QR w.heap.size bs w2 o c (List.replicate 12 VI):=
 ⟨_,_,_,KR OF KX 12 Qd (by have:=Zp;omega) w1,Qf (Zj _ _) hs,Zj _ _,(Ob.of (TO (enc:=Ys) OF.len QR 12 VI w1) hs).mono s.ext.size⟩
def zpp{bs:List Nat}{w1:Wo}(s:Sc w bs w1)(hs:∀x∈bs,x<w1.heap.size):∃(o:OA) (c:Nat) (w2:Wo),(Instr.makeSlice Z1 (I 8) (I 8):Sem Va).run Tryz.prog w1=.ok (.slice o 8 c) w2/\Q9 bs w1 w2/\Q0 [] w1 w2/\Ob OG 14 QT w.heap.size bs w2 o c (List.replicate 8 TT):=
 ⟨_,_,_,KR X4 MX 8 Qd (by have:=Zp;omega) w1,Qf (Zj _ _) hs,Zj _ _,(Ob.of (TO (enc:=OG) X4.len QT 8 TT w1) hs).mono s.ext.size⟩
def BG{n:Nat}(n0:1<=n)(n1:n<=4) :
  Cz T8 #[I (n:Int)] w λe w'=>∃m,e=.returned (.tuple #[.agg (Qa (JB n) m).toArray,.bool true])/\Yn 8 w.heap.size w' (JB n) m/\Q0 [] w w':=by
 refine(Bl (n:Int) (R:=λv w'=>∃m,v=.tuple #[.agg (Qa (JB n) m).toArray,.bool true]/\Yn 8 w.heap.size w' (JB n) m/\Q0 [] w w') ?_).mono λe w' ⟨v,he,m,hv,h3⟩=>⟨m,by rw[he,hv],h3⟩
 intro b hb;have hin:Yp (n:Int) 1 4:=Qr.2 ⟨Qo,Qo⟩;have s0:Sc w [b] w:=(Sc.start w).add hb;refine⟨_,Ql,λg=>(by rw[hin] at g;cases g),λ_=>⟨zwt b w,?_,?_⟩⟩
 ·refine⟨λRa SD gZ=>?_,λSw eM hs6=>?_,λb5 hb5=>⟨λSn Ay5 AL6=>?_,λWx BH4 Cl2=>?_⟩⟩
  ·have s1:=s0.RJ SD;obtain⟨tO,tC,w2,hr,hk,he,hT⟩:=zpq s1 gZ;have s2:=s1.RJ he;refine⟨_,_,_,w2,hr,hk,λRg Rt Wg=>?_,λb2 cA RO X' gX=>?_⟩
   ·have s3:=s2.step Rt;obtain⟨gO,gC,w3,hr3,yX,jM,hG⟩:=zpp s3 Wg;exact⟨_,_,_,w3,hr3,yX,λb1 fI RL Ru _=>⟨b1,tO,gO,tC,gC,rfl,rfl,(s3.RJ jM).put Ru fI,((hT.step Rt).RJ jM).put Ru fI,hG.put Ru fI⟩⟩
   ·have s3:=s2.put X' cA;obtain⟨gO,gC,w3,hr3,yX,jM,hG⟩:=zpp s3 gX;exact⟨_,_,_,w3,hr3,yX,λS5 Wb _=>⟨b2,tO,gO,tC,gC,rfl,rfl,(s3.RJ jM).step Wb,((hT.put X' cA).RJ jM).step Wb,hG.step Wb⟩⟩
  ·have s1:=s0.RJ eM;obtain⟨gO,gC,w2,hr,hk,he,hG⟩:=zpp s1 hs6;have s2:=s1.RJ he;refine⟨_,_,_,w2,hr,hk,λRg Rt Wg=>?_,λb2 cA RO X' gX=>?_⟩
   ·have s3:=s2.step Rt;obtain⟨tO,tC,w3,hr3,yX,jM,hT⟩:=zpq s3 Wg;exact⟨_,_,_,w3,hr3,yX,λb1 fI RL Ru _=>⟨b1,tO,gO,tC,gC,rfl,rfl,(s3.RJ jM).put Ru fI,hT.put Ru fI,((hG.step Rt).RJ jM).put Ru fI⟩⟩
   ·have s3:=s2.put X' cA;obtain⟨tO,tC,w3,hr3,yX,jM,hT⟩:=zpq s3 gX;exact⟨_,_,_,w3,hr3,yX,λS5 Wb _=>⟨b2,tO,gO,tC,gC,rfl,rfl,(s3.RJ jM).step Wb,hT.step Wb,((hG.put X' cA).RJ jM).step Wb⟩⟩
  ·have s1:=(s0.add hb5).RJ Ay5;obtain⟨tO,tC,w2,hr,hk,he,hT⟩:=zpq s1 AL6;refine⟨_,_,_,w2,hr,hk,λRg Rt Wg=>?_⟩;have s3:=(s1.RJ he).step Rt;obtain⟨gO,gC,w3,hr3,yX,jM,hG⟩:=zpp s3 Wg;exact⟨_,_,_,w3,hr3,yX,λS5 Wb _=>⟨b5,tO,gO,tC,gC,rfl,rfl,(s3.RJ jM).step Wb,((hT.step Rt).RJ jM).step Wb,hG.step Wb⟩⟩
  ·have s1:=(s0.add hb5).RJ BH4;obtain⟨gO,gC,w2,hr,hk,he,hG⟩:=zpp s1 Cl2;refine⟨_,_,_,w2,hr,hk,λRg Rt Wg=>?_⟩;have s3:=(s1.RJ he).step Rt;obtain⟨tO,tC,w3,hr3,yX,jM,hT⟩:=zpq s3 Wg;exact⟨_,_,_,w3,hr3,yX,λS5 Wb _=>⟨b5,tO,gO,tC,gC,rfl,rfl,(s3.RJ jM).step Wb,hT.step Wb,((hG.step Rt).RJ jM).step Wb⟩⟩
 ·rintro l Sd Sm Sr Sj So Sq Se Sf Sg b6 cM rB ⟨bx,tO,gO,tC,gC,hbx,hv,s1,hT,hG⟩;simp only[I6,I7,Iy,true_and,and_true] at hbx hv;subst hbx;obtain⟨rfl,⟨rfl,rfl,rfl⟩,⟨rfl,rfl,rfl⟩,rfl,rfl,rfl⟩:=hv
  refine⟨λvs w2=>∃(k:Nat) (o:OA) (cap:Nat),vs=[I (k:Int),I 0,.slice o k cap,.slice Sj 12 Sq,.slice Se 8 Sg]/\k<=n/\Sc w [b,b6] w2/\Ob K5 5 ZE w.heap.size [b,b6] w2 o cap (List.replicate k (⟨true,-1,0,0,0⟩:Pe))/\Ob Ys 9 QR w.heap.size [b,b6] w2 Sj Sq (List.replicate 12 VI)/\Ob OG 14 QT w.heap.size [b,b6] w2 Se Sg (List.replicate 8 TT),
   Zk n 0,λwr hx _=>⟨0,none,0,rfl,Ig _,s1.step hx,⟨.inl ⟨rfl,rfl,rfl⟩,by simp[QE]⟩,hT.step hx,hG.step hx⟩,?_⟩
  rintro c1 l4 mN jH mM mG oM mF kP nO mO wv Wg ⟨k,o,cap,he,hk,s2,hC,hT2,hG2⟩;simp only[I6,I7,Iy,true_and,and_true] at he;obtain⟨rfl,rfl,⟨rfl,rfl,rfl⟩,⟨rfl,rfl,rfl⟩,rfl,rfl,rfl⟩:=he;clear hT hG;refine⟨λIX=>?_,λRX=>?_⟩
  ·have IX:=Ot IX;intro b3 hb3 RL Ru kO Wn;have s3:=s2.put Ru hb3;have hC2:=hC.put Ru hb3;obtain⟨o2,c2,w2,Wa,uB,hC3,Rt⟩:=hC2.tY Lb Ga (x:=(⟨true,-1,0,0,0⟩:Pe)) kO s3.ext.size Wn (zv7 _) (by simp;omega) Qd Y8 #[false,false];have s4:=s3.call Rt λx hm=>(hC2.own.lt x hm).1
   have hT3:=(hT2.put Ru hb3);have hT4:Ob Ys 9 QR w.heap.size [b,b6,b3] w2 mG mF (List.replicate 12 VI):=⟨hT3.own.ext Rt (hT3.own.WX hC2.own zv5),hT3.nb⟩;have hG3:=(hG2.put Ru hb3);have hG4:Ob OG 14 QT w.heap.size [b,b6,b3] w2 kP mO (List.replicate 8 TT):=⟨hG3.own.ext Rt (hG3.own.WX hC2.own ztw),hG3.nb⟩;have hL:List.replicate jH (⟨true,-1,0,0,0⟩:Pe)++[⟨true,-1,0,0,0⟩]=List.replicate (jH+1) (⟨true,-1,0,0,0⟩:Pe):=by rw[List.replicate_succ']
   rw[hL] at Wa hC3;rw[List.length_replicate,List.length_replicate] at Wa;exact⟨_,_,_,w2,Wa,uB,⟨Qo,Qo⟩,λRO X' _=>⟨⟨jH+1,o2,c2,Qs,Qo,(s4.step X').sub Qs,(hC3.step X').sub Qs,(hT4.step X').sub Qs,(hG4.step X').sub Qs⟩,QJ (k:=jH) rfl rfl Qo⟩⟩
  ·have RX:=Ou RX;have:jH=n:=Qo;subst this;intro S5 Wb kM;have s3:=s2.step Wb;have hC3:=hC.step Wb;have hT3:=hT2.step Wb;have hG3:=hG2.step Wb;refine(Kz n1).mono λe w3 ⟨mg,he,hM,Ru⟩=>?_
   have s4:=s3.RJ Ru;have hC4:=hC3.RJ Ru;have hT4:=hT3.RJ Ru;have hG4:=hG3.RJ Ru;have G:=zm0 hG4.own
   have hmb:∀x∈Qw mg,x∉[b,b6]:=λx hm hx=>by
    have h1:=(hM.lt x hm).1;have h2:=kM x hx;omega
   have P:=G.put (i:=0) (I4 _) Qs (p:=(On jH (-1) ⟨[].toArray⟩,mg)) (hM.mono s3.ext.size) λj j0 j1 _ x hm=>by
    rw[HL j0 (by simpa using j1)] at hm;simp[Qw,TT,QE] at hm
   have hxs:=hG4.own.tN (Int.toNat 0*14) (OG (On jH (-1) ⟨[].toArray⟩,mg));have s5:Sc w [b,b6] (RN w3 kP (Int.toNat 0*14) (OG (On jH (-1) ⟨[].toArray⟩,mg))):=⟨hG4.own.CR2 _ _ s4.ext (I9 _),s4.new⟩;have hC5:=hC4.own.ext hxs (hC4.own.WX hG4.own ztw.symm);have hT5:=hT4.own.ext hxs (hT4.own.WX hG4.own zv4.symm);refine⟨_,_,_,_,_,_,_,_,_,_,_,_,_,_,_,_,_,_,_,_,he,Qf Ru kM,rfl,hG4.own.ix (I4 _) Qs,hG4.own.wr X4.len hG4.nb (i:=0) (j:=0) (I4 _) Qs Qd,λwr hx=>⟨⟨mN,mM,mG,mF,kP,mO,λk=>if k=0 then mg else TT.2⟩,?_,⟨?_,?_,?_,rfl⟩,(s5.step hx).ext⟩⟩
   ·simp[Qa,JB]
   ·exact hC5.ext hx hC4.nb
   ·exact hT5.ext hx hT4.nb
   ·have hps:zm7 (JB jH) ⟨mN,mM,mG,mF,kP,mO,λk=>if k=0 then mg else TT.2⟩=(List.replicate 8 TT).set (Int.toNat 0) (On jH (-1) ⟨[].toArray⟩,mg):=rfl;rw[hps];refine⟨P.row.ext hx hG4.nb,λi i0 i1=>(P.each i i0 i1).ext hx λx hm=>?_,P.dj⟩;have hi8:i<8:=by simpa using i1
    have:=QD (List.replicate 8 TT) (On jH (-1) ⟨[].toArray⟩,mg) (i:=0) (j:=i) (I4 _) Qs i0;rw[this] at hm
    split at hm
    ·exact hmb x hm
    ·rw[HL i0 hi8] at hm;simp[Qw,TT,QE] at hm
end
def Tg(W:Q7)(j:Nat):Bool:=decide (1<=j) && !(gi W.IE (j:Int)).IW
def Vz(W:Q7):Int:=GC (Tg W) 8
def zvn(W:Q7)(p:Int)(name:ByteArray):Prop:=∃h:Int,1<=h/\h<8/\(gi W.IE h).IW/\(gi W.IE h).IG=p/\(gi W.IE h).name=name
open Classical in
noncomputable def K6(W:Q7)(p:Int)(name:ByteArray):Int:=if JO name=false then 1 else if Q6 W.IE p=false then 2 else if zvn W p name then 7 else if dep 3 W.IE p=3 then 9 else if Vz W<0 then 3 else if QO W=false then 10 else 0
def zpn(W:Q7)(p:Int)(name:ByteArray):Q7:=TV W (Vz W) p name
def zgk(W:Q7):(Vz W = -1/\∀h:Int,1<=h->h<8->(gi W.IE h).IW)\/(1<=Vz W/\Vz W<8/\(gi W.IE (Vz W)).IW=false):=by
 rcases PR (Tg W) 8 with ⟨h1,h2⟩|⟨h1,h2,h3,_⟩
 ·refine .inl ⟨h1,λh a b=>?_⟩;have:=h2 h.toNat Qo;unfold Tg at this;rw[show ((h.toNat:Nat):Int)=h by omega,Ij (by omega:1<=h.toNat)] at this
  simpa using this
 ·have e:(((Vz W).toNat:Nat):Int)=Vz W:=by unfold Vz;omega
  have h3:Tg W (Vz W).toNat:=h3;unfold Tg at h3;rw[e,A',Il,ID] at h3;refine .inr ⟨Qo,by unfold Vz;omega,h3.2⟩
def AT{W:Q7}{p:Int}{name:ByteArray}(hb:K6 W p name=0):CU W (Vz W) p name/\QO W:=by
 unfold K6 at hb
 split at hb
 ·cases hb
 rename_i h1
 split at hb
 ·cases hb
 rename_i h2
 split at hb
 ·cases hb
 rename_i h3
 split at hb
 ·cases hb
 rename_i h4
 split at hb
 ·cases hb
 rename_i h5
 split at hb
 ·cases hb
 rename_i h6;rcases zgk W with ⟨a,_⟩|⟨a,b,c⟩
 ·omega
 ·exact⟨⟨a,b,c,by simpa using h2,by simpa using h1,λh a1 a2 u e=>h3 ⟨h,a1,a2,u,e.1,e.2⟩,h4⟩,by simpa using h6⟩
section
variable {W:Q7}{m:MW}{w:Wo}
def PW{p:Int}{name:ByteArray}(h:X0 [] w W m)(hl:Xk W) :
  Cz Qy #[.agg (Qa W m).toArray,I p,.string name] w λe w'=>∃v,e=.returned v/\TA (Vd W (K6 W p name) (zpn W p name) (Vz W)) w v w':=by
 refine E7 _ _ _ _ _ _ _ _ _ _ p name (R:=λv w'=>TA (Vd W (K6 W p name) (zpn W p name) (Vz W)) w v w') ?_;intro y hy y1 eR wr Rt Wg;refine I5 (Z8 (h.ext Rt) hl) ?_;rintro e wv (⟨hW,he,Wc⟩|⟨hW,m',he,hM,Wc⟩)
 ·exact⟨_,_,_,_,_,_,_,_,_,_,_,he,Qf Wc Wg,true,λg=>by simp at g,λ_ Ra Ru=>TA.bad hW ((Rt.trans Wc).fresh Ru λz hm=>.inl (Yz hy eR z hm)),λg=>by simp at g⟩
 have hK:=Wk.begin hy eR Rt Wg hM Wc;have hr:=hK.rd;have wp:=Qm.1 hW;have cN:=wp.a.gl;have yQ:((if QO W=true then 0 else 10:Int)==1)=false:=by split <;> rfl
 refine⟨_,_,_,_,_,_,_,_,_,_,_,he,Qf Wc Wg,_,λ_=>G3,λg1 Ra Ru=>?_,λg1=>⟨_,X3 hr.g,λg2 Rg Ru=>?_,λg2=>?_⟩⟩
 ·rw[yQ] at g1;have hb:K6 W p name=1:=by unfold K6;rw[H' (by simpa using g1)]
  exact TA.no hW (by rw[hb];decide) (hK.step Ru) hb
 ·rw[yQ] at g1;have n1:¬JO name=false:=by simpa using g1
  have hb:K6 W p name=2:=by unfold K6;rw[E' n1,H' (by simpa using g2)]
  exact TA.no hW (by rw[hb];decide) (hK.step Ru) hb
 rw[yQ] at g1;have n1:¬JO name=false:=by simpa using g1
 have hu:Q6 W.IE p:=by simpa using g2
 have n2:¬Q6 W.IE p=false:=by rw[hu];decide
 refine⟨λvs w1=>∃k:Nat,vs=[I (k:Int),I 0,.slice none 0 0,.slice none 0 0,.slice none 0 0]/\1<=k/\k<=8/\(∀q:Int,1<=q->q<(k:Int)->(gi W.IE q).IW->¬((gi W.IE q).IG=p/\(gi W.IE q).name=name))/\Q0 [y,y1] wv w1,
  Zk 8 0,λw1 tJ _=>⟨1,rfl,Qo,Qo,λq a b=>by omega,tJ⟩,?_⟩
 rintro h1 l Sd Sm Sr Sj So Sq Se Sf Sg RH kO ⟨k,bS,hk1,hk8,kF,hxw⟩;simp only[I6,I7,Iy,true_and,and_true] at bS;obtain⟨rfl,rfl,⟨rfl,rfl,rfl⟩,⟨rfl,rfl,rfl⟩,rfl,rfl,rfl⟩:=bS;have hK1:=hK.step hxw;have tR:=hK1.rd;refine⟨λIX=>?_,λRX=>?_⟩
 ·have IX:=Ot IX;have dD:(0:Int)<=(k:Int):=Qo;refine⟨tR.g.ix dD IX,_,tR.g.IW dD IX,λ_=>tR.g.ix dD IX,_,λ_=>tR.g.IG dD IX,λ_=>tR.g.ix dD IX,_,λ_=>tR.g.name dD IX,λg3 S5 Wb=>?_,λg3=>⟨⟨Qo,Qo⟩,λSw eM _=>⟨⟨k+1,Qs,Qo,Qo,λq q1 q2 qu=>?_,hxw.trans eM⟩,QJ (k:=k) rfl rfl Qo⟩⟩⟩
  ·rw[A',A',U2,Iu] at g3;have hb:K6 W p name=7:=by unfold K6;rw[E' n1,E' n2,H' ⟨k,Qo,Qo,g3.1.1,g3.1.2,g3.2⟩]
   exact TA.no hW (by rw[hb];decide) (hK1.step Wb) hb
  ·by_cases e:q<(k:Int)
   ·exact kF q q1 e qu
   ·have:q=(k:Int):=Qo;subst this;rintro⟨c1,c2⟩;rw[qu,Iu.2 c1,U2.2 c2] at g3;cases g3
 have RX:=Ou RX;have:k=8:=Qo;subst this;have n3:¬zvn W p name:=λ⟨q,a,b,c,d,e⟩=>kF q a Qo c ⟨d,e⟩
 refine⟨_,OY tR.g (by rw[cN];have:=Zp;omega),λg4 SC mE=>?_,λg4=>⟨⟨Qo,Qo⟩,?_⟩⟩
 ·rw[zd9 wp.a.tree hu,Iu] at g4;have hb:K6 W p name=9:=by unfold K6;rw[E' n1,E' n2,E' n3,H' g4]
  exact TA.no hW (by rw[hb];decide) (hK1.step mE) hb
 rw[zd9 wp.a.tree hu,beq_eq_false_iff_ne] at g4
 refine⟨λvs w1=>∃a t:Int,vs=[I a,I t]/\0<=t/\t<8/\(a = -1/\(∀j:Nat,t<(j:Int)->j<8->Tg W j=false)\/t<a/\a<8/\Tg W a.toNat/\∀j:Nat,t<(j:Int)->(j:Int)<a->Tg W j=false)/\Q0 [y,y1] RH w1,
  λvs _=>(Y5 1 vs+1).toNat,λw1 tJ _=>⟨-1,_,rfl,Qo,Qo,.inl ⟨rfl,λj h1 h2=>by omega⟩,tJ⟩,?_⟩
 rintro av tv Sx gX ⟨a,t,bS,ht0,ht1,AL1,B99⟩;simp only[I6,I7,true_and,and_true] at bS;obtain⟨rfl,rfl⟩:=bS;have hY:=hK1.step B99;have sU:=hY.rd;refine⟨λIX=>?_,λdA=>?_⟩
 ·have IX:=Ot IX;have e:((tv.toNat:Nat):Int)=tv:=Qo;have lA:Tg W tv.toNat = !(gi W.IE tv).IW:=by unfold Tg;rw[e,Ij (by omega:1<=tv.toNat)];rfl
  refine⟨sU.g.ix Qo Qo,_,sU.g.IW Qo Qo,λg3=>⟨⟨Qo,Qo⟩,λS5 Wb _=>⟨⟨tv,tv-1,rfl,Qo,Qo,.inr ⟨Qo,ht1,by rw[lA];exact g3,λj h1 h2=>by omega⟩,B99.trans Wb⟩,?_⟩⟩,λg3=>⟨⟨Qo,Qo⟩,λSw eM _=>⟨⟨av,tv-1,rfl,Qo,Qo,?_,B99.trans eM⟩,?_⟩⟩⟩
  ·simp only[Y5,Ih,List.getElem?_cons_succ];omega
  ·have g3:Tg W tv.toNat=false:=by rw[lA];exact g3
   have one:∀j:Nat,tv-1<(j:Int)->¬tv<(j:Int)->Tg W j=false:=λj h1 h2=>by
    have:j=tv.toNat:=Qo;rw[this];exact g3
   rcases AL1 with ⟨h1,h2⟩|⟨h1,h2,h3,h4⟩
   ·exact .inl ⟨h1,λj j1 j2=>if h:tv<(j:Int) then h2 j h j2 else one j j1 h⟩
   ·exact .inr ⟨Qo,h2,h3,λj j1 j2=>if h:tv<(j:Int) then h4 j h j2 else one j j1 h⟩
  ·simp only[Y5,Ih,List.getElem?_cons_succ];omega
 have dA:=Ou dA;have ht:tv=0:=Qo;subst ht;have hz:Tg W 0=false:=rfl
 have rS:av=Vz W:=by
  rcases AL1 with ⟨h1,h2⟩|⟨h1,h2,h3,h4⟩
  ·rw[h1];exact(zkn λj hj=>if e:j=0 then by rw[e];exact hz else h2 j Qo hj).symm
  ·exact(zkm Qo h2 h3 λj hj=>if e:j=0 then by rw[e];exact hz else h4 j Qo hj).symm
 subst rS;refine⟨λg5 SC mE=>?_,λg5=>⟨λg6 U' rD=>?_,λg6 T' Bj9 CM6=>?_⟩⟩
 ·have g5:=Ot g5;have hb:K6 W p name=3:=by unfold K6;rw[E' n1,E' n2,E' n3,E' g4,H' g5]
  exact TA.no hW (by rw[hb];decide) (hY.step mE) hb
 ·have g5:=Ou g5;have bH:¬QO W:=λhr=>by rw[H' hr] at g6;simp at g6
  have hb:K6 W p name=10:=by unfold K6;rw[E' n1,E' n2,E' n3,E' g4,E' g5,H' (by simpa using bH)]
  rw[E' bH];exact TA.no hW (by rw[hb];decide) (hY.step rD) hb
 have g5:=Ou g5;have bH:QO W:=Is λhr=>by rw[E' hr] at g6;simp at g6
 have hb:K6 W p name=0:=by unfold K6;rw[E' n1,E' n2,E' n3,E' g4,E' g5,E' (by rw[bH];decide)]
 obtain⟨hf,_⟩:=AT hb;have a1:=hf.a1;have a8:=hf.a8;have nG:=hY.step Bj9;refine(Kz (n:=W.IF.length) wp.a.c2).mono λe1 bN ⟨mg,mJ,hMg,X'⟩=>?_
 have dT:=nG.RJ X';have hold:∀x∈QS 8 m',x<T'.heap.size:=λx hx=>(nG.own.lt x hx).2
 have rU:∀x∈Qw mg,T'.heap.size<=x:=λx hx=>(hMg.lt x hx).1
 have SZ:Wk 8 [y,y1] w (RN bN m'.gO (Int.toNat (Vz W)*14) (YC (On W.IF.length p name) mg)) (zpn W p name) (Oo m' (Vz W).toNat mg):=
  ⟨dT.s.call F3 λx hx=>(dT.own.lt x hx).1,⟨dT.own.Bm9 Qo a8 (g:=On W.IF.length p name) (p:=mg) (j:=0) (vs:=YC (On W.IF.length p name) mg) (hMg.mono nG.base) (λx hx=>.inl λeJ=>by have:=hold x eJ;have:=rU x hx;omega) (by simp[YC,Za]) (by simp[YC,Za]),λx hx hm=>by
   rcases Tm x hx with h1|h1
   ·exact dT.nb x h1 hm
   ·have:=rU x h1;have:=CM6 x hm;omega⟩⟩
 refine⟨_,_,_,_,_,_,_,_,_,_,_,_,_,_,_,_,_,_,_,_,mJ,Qf X' CM6,rfl,sU.g.ix Qo Qo,zb1 dT.own dT.nb Qo a8 (j:=0) (k:=14) Qd,λWx BH4=>?_⟩;have A30:=TA.ok (a:=Vz W) hW hb (SZ.step BH4);have ew:Qa (zpn W p name) (Oo m' (Vz W).toNat mg)=Qa W m':=by simp[Qa,zpn,TV,Rw,Oo]
 rw[ew] at A30;exact A30
end
inductive Xv (W:Q7):Q7->Prop
 |same:Xv W W
 |run (c n:Int) (hb:Dg W c n=0):Xv W (zm8 W c n)
 |yld (c:Int) (hb:Nb W c=0):Xv W (RG W c)
 |fork (g n x:Int) (hb:TI W g n x=0):Xv W (zgj W g n x)
 |block (t:Int) (hb:Ve W t=0):Xv W (zd3 W t)
 |wake (t:Int) (hb:Pq W t=0):Xv W (Fv W t)
 |exit (t:Int) (hb:TG W t=0):Xv W (Fj W t)
 |nice (t n:Int) (hb:Og W t n=0):Xv W (KJ W t n)
 |pin (t x:Int) (hb:GV W t x=0):Xv W (zqa W t x)
 |mov (t g:Int) (hb:AV W t g=0):Xv W (za9 W t g)
 |mak (a p:Int) (name:ByteArray) (hm:CU W a p name):Xv W (TV W a p name)
 |drp (g:Int) (hd:zb3 W g):Xv W (XA W g)
 |wgh (g x:Int) (hb:zh7 W g x=0):Xv W (zq4 W g x)
 |gpn (g x:Int) (hb:zgm W g x=0):Xv W (zou W g x)
 |lim (g q p:Int) (hb:zgy W g q p=0):Xv W (zsq W g q p)
 |time (n:Int) (hb:MV W n=0):Xv W (zdg W n)
 |bal (c:Int) (hb:Hw W c=0):Xv W (zdz W c)
 |off (c:Int) (hb:UF W c true (KK W)=0):Xv W (zpz W c)
 |on (c:Int) (hb:UF W c false 0=0):Xv W (zv6 W c)
structure Pf (P:Nat->Q7->Prop):Prop where
 mono:∀{n m:Nat} {W:Q7},n<=m->P n W->P m W
 new:∀{n k:Nat},1<=k->k<=4->P n (JB k)
 fork:∀{n:Nat} {W:Q7} {g q x:Int},J4 W->P n W->TI W g q x=0->P n (zgj W g q x)
 mak:∀{n:Nat} {W:Q7} {a p:Int} {name:ByteArray},J4 W->P n W->CU W a p name->P n (TV W a p name)
 W9:∀{n:Nat} {W V:Q7},n<=10000->J4 W->P n W->Xv W V->P (n+10) V
def Dz(_:Nat)(_:Q7):Prop:=True
def Mo:Pf Dz:=⟨λ_ _=>trivial,λ_ _=>trivial,λ_ _ _=>trivial,λ_ _ _=>trivial,λ_ _ _ _=>trivial⟩
def Q0.kept{bs B:List Nat}{w w':Wo}(h:Q0 bs w w')(hB:∀x∈B,x<w.heap.size/\x∉bs):Q9 B w w':=λx hx=>h.block x (hB x hx).1 (hB x hx).2
def zpe{b x:Nat}{w w':Wo}(h:Q0 [b] w w')(h1:x<w.heap.size)(h2:x≠b):Q9 [x] w w':=h.kept λy hy=>by
 rw[IB.1 hy];exact⟨h1,by simpa using h2⟩
def zvi(v:Int):Prop := -2<=v/\v<=21
def zgw{b:Nat}{c:OA}{L N:Nat}{w:Wo}(h:JR b c L N w)(hN:N<=900000000000) :
  Cz ZB #[.pointer (some ⟨b,0,none⟩)] w λe w'=>∃v,e=.returned (I v)/\zvi v/\JR b c L (N+2) w'/\Q0 [b] w w':=by
 refine(LD (some ⟨b,0,none⟩) (R:=λv w'=>∃x,v=I x/\zvi x/\JR b c L (N+2) w'/\Q0 [b] w w') ?_).mono λe w' ⟨v,he,x,hv,h1,h2,h3⟩=>⟨x,by rw[he,hv],h1,h2,h3⟩
 refine λwr hx _=>(GG (h.gG hx) Qo).mono λe w1 ⟨v,he,hv,tR,SD⟩=>⟨v,he,Uj,λ_=>?_,λ_ b1 fI RL Ru oA=>?_⟩
 ·refine λRa hy _=>(GG (tR.gG hy) Qo).mono λe w2 ⟨u,he,hu,sU,Rt⟩=>⟨u,he,Uj,?_⟩
  have hu1:=hu.1;have hu2:=hu.2.2 Qd;exact⟨Ju Qo Qo,λRg hz=>⟨_,rfl,⟨Qo,Qo⟩,sU.gG hz,(hx.of_nil.trans SD).trans (hy.of_nil.trans (Rt.trans hz.of_nil))⟩⟩
 ·refine(GG (tR.gG Ru) Qo).mono λe w2 ⟨u,he,hu,sU,Rt⟩=>⟨u,he,zpe Rt (oA b1 Qs) (by have:=tR.lt;omega),?_⟩
  have hu1:=hu.1;have hu2:=hu.2.2 Qd
  have fin:∀(x:Int),zvi x->∀RO,Q0 [b1] w2 RO->∃x',I x=I x'/\zvi x'/\JR b c L (N+2) RO/\Q0 [b] w RO:=λx hxv RO hz=>
   ⟨x,rfl,hxv,tR.Cd3 sU hz (by simpa using fI),(hx.of_nil.trans SD).trans ((Ru.of_nil.trans Rt)) |>.fresh hz (λy hy=>by
    rw[IB.1 hy];have h1:=hx.size;have h2:=SD.size;exact .inl Qo)⟩
  have:u=0\/u=1\/u=2\/u=3\/u=4\/u=5\/u=6\/u=7\/u=8\/u=9:=Qo;refine⟨⟨hu1,hu2⟩,?_⟩;rcases this with rfl|rfl|rfl|rfl|rfl|rfl|rfl|rfl|rfl|rfl <;> exact⟨_,⟨Qd,rfl⟩,fin _ ⟨Qd,Qd⟩⟩
def Fc(c:OA)(L:Nat)(w:Wo):Prop:=∀i<L,∃(a:Addr) (x:Int),c=some a/\0<=x/\x<=255/\w.cell? (a.add i)=some (.int .u8 x)
def Fc.ext{c:OA}{L:Nat}{w w':Wo}(h:Fc c L w)(hx:Q0 [] w w'):Fc c L w':=λi hi=>by
 obtain⟨a,x,ha,h1,h2,h3⟩:=h i hi;obtain⟨a',e,_,h''⟩:=(show V0 [] w c i (.int .u8 x) from ⟨a,ha,Qs,h3⟩).ext hx;rw[ha] at e;cases e;exact⟨a,x,ha,h1,h2,h''⟩
structure RS (rb:Nat) (c:OA) (L N:Nat) (bs:List Nat) (w:Wo):Prop where
 rd:JR rb c L N w
 nb:rb∉bs
 oc:∀a,c=some a->a.block∉bs\/L=0
section
variable {rb:Nat}{c:OA}{L N:Nat}{bs cs:List Nat}{w w':Wo}{b:Nat}
def RS.step(h:RS rb c L N bs w)(hx:Q0 bs w w'):RS rb c L N bs w':=⟨h.rd.ext hx h.nb h.oc,h.nb,h.oc⟩
def RS.RJ(h:RS rb c L N bs w)(hx:Q0 [] w w'):RS rb c L N bs w':=⟨h.rd.gG hx,h.nb,h.oc⟩
def RS.call(h:RS rb c L N bs w)(hx:Q0 cs w w')(h1:rb∉cs)(h2:∀a,c=some a->a.block∉cs\/L=0):RS rb c L N bs w':=⟨h.rd.ext hx h1 h2,h.nb,h.oc⟩
def RS.add(h:RS rb c L N bs w)(hb:w.heap.size<=b):RS rb c L N (bs++[b]) w:=⟨h.rd,λhm=>by
 rcases Ip.1 hm with hm|hm
 ·exact h.nb hm
 ·have:rb=b:=by simpa using hm
  have:=h.rd.lt;omega,λa ha=>by
 rcases h.oc a ha with h1|h1
 ·rcases h.rd.ltc a ha with h2|h2
  ·refine .inl λhm=>?_
   rcases Ip.1 hm with hm|hm
   ·exact h1 hm
   ·have:a.block=b:=by simpa using hm
    omega
  ·exact .inr h2
 ·exact .inr h1⟩
def RS.sub(h:RS rb c L N bs w)(hs:∀x∈cs,x∈bs):RS rb c L N cs w:=⟨h.rd,λhm=>h.nb (hs _ hm),λa ha=>by
 rcases h.oc a ha with h1|h1
 ·exact .inl λhm=>h1 (hs _ hm)
 ·exact .inr h1⟩
def RS.upd{M:Nat}(h:RS rb c L N bs w)(k:JR rb c L M w'):RS rb c L M bs w':=⟨k,h.nb,h.oc⟩
def RS.mono{M:Nat}(h:RS rb c L N bs w)(hm:N<=M):RS rb c L M bs w:=⟨h.rd.mono hm,h.nb,h.oc⟩
def Sc.B18{w0:Wo}(h:Sc w0 (rb::bs) w)(hx:Q0 bs w w'):Sc w0 (rb::bs) w':=h.step (hx.mono λ_ hm=>I3 _ hm)
def Sc.B19{w0:Wo}(h:Sc w0 (rb::bs) w)(hx:Q0 [rb] w w'):Sc w0 (rb::bs) w':=h.step (hx.mono λx hm=>by
 have:x=rb:=by simpa using hm
 subst this;simp)
def OZ(h:RS rb c L N bs w)(hx:Q0 [rb] w w')(hs:∀x∈bs,x<w.heap.size):Q9 bs w w':=zpf hx hs λx hm nZ=>by
 have:x=rb:=by simpa using hm
 subst this;exact h.nb nZ
end
section
variable {α:Type}{enc:α->List Va}{z:Nat}{ty:TypeId}{base rb:Nat}{bs:List Nat}{w w':Wo}{o:OA}{cap:Nat}{l:List α}{b:Nat}
end
def zi1{c:OA}{L C:Nat}{w:Wo}(h:Fc c L w)(hC:L<=C) :
  Cz Us #[.slice c L C] w λe w'=>∃b c' L',e=.returned (.pointer (some ⟨b,0,none⟩))/\w.heap.size<=b/\JR b c' L' 0 w'/\Q0 [] w w'/\∀a',c'=some a'->L'=0\/(0<L/\∃a,c=some a/\a'.block=a.block):=by
 refine(Ab c L C (R:=λv w'=>∃b c' L',v=.pointer (some ⟨b,0,none⟩)/\w.heap.size<=b/\JR b c' L' 0 w'/\Q0 [] w w'/\∀a',c'=some a'->L'=0\/(0<L/\∃a,c=some a/\a'.block=a.block)) ?_).mono λe w' ⟨v,he,b,c',L',hv,h1,h2,h3⟩=>⟨b,c',L',by rw[he,hv],h1,h2,h3⟩
 refine⟨λIX=>⟨⟨Qo,Qo,by have:=Ot IX;omega⟩,λb wb hx hb hh _ wr hy=>⟨b,if C=Int.toNat 0 then c else c.map (·.add (Int.toNat 0*1)),Int.toNat 2000-Int.toNat 0,rfl,hb,?_,hx.trans hy,λa' ha'=>?_⟩⟩,λIX b wb hx hb hh _ wr hy=>⟨b,c,L,rfl,hb,?_,hx.trans hy,λa' ha'=>?_⟩⟩
 ·refine JR.gG ⟨⟨_,0,hh,Qo,Qo⟩,λi hi=>?_⟩ hy;have IX:=Ot IX;obtain⟨a,x,ha,h1,h2,h3⟩:=h.ext hx i (by have:i<2000-0:=hi;omega);obtain⟨a0,x0,ha0,_,_,h30⟩:=h i (by have:i<2000-0:=hi;omega);have Si:=World.block_lt_of_cell? w _ h30;rw[Zv] at Si;rw[ha] at ha0;cases ha0;rw[E' (show ¬C=Int.toNat 0 from λe=>by have:C=0:=e;omega),ha];refine⟨a.add 0,x,rfl,by rw[Zv];omega,h1,h2,?_⟩;rw[JE,Nat.zero_add];exact h3
 ·have IX:=Ot IX;refine .inr ⟨Qo,?_⟩;rw[E' (show ¬C=Int.toNat 0 from λe=>by have:C=0:=e;omega)] at ha'
  cases c with
  |none=>cases ha'
  |some a=>
   simp only[Option.map_some,I2] at ha';exact⟨a,rfl,by rw[<-ha',Zv]⟩
 ·refine JR.gG ⟨⟨_,0,hh,Qo,Qo⟩,λi hi=>?_⟩ hy;obtain⟨a,x,ha,h1,h2,h3⟩:=h.ext hx i hi;obtain⟨a0,x0,ha0,_,_,h30⟩:=h i hi;have Si:=World.block_lt_of_cell? w _ h30;rw[Zv] at Si;rw[ha] at ha0;cases ha0;exact⟨a,x,ha,Qo,h1,h2,h3⟩
 ·rcases Nat.eq_zero_or_pos L with h0|h0
  ·exact .inl h0
  ·exact .inr ⟨h0,a',ha',rfl⟩
structure Dr (rb:Nat) (c:OA) (L N n:Nat) (bs:List Nat) (w0 w:Wo):Prop where
 r:RS rb c L (N+n) bs w
 ext:Q0 [rb] w0 w
 new:∀x∈bs,w0.heap.size<=x
section
variable {rb b b2:Nat}{c:OA}{L N n k:Nat}{bs cs:List Nat}{w0 w w':Wo}
def Dr.start(h:JR rb c L N w):Dr rb c L N 0 [] w w:=⟨⟨h,Qs,λ_ _=>.inl Qs⟩,Q0.refl _ _,Qs⟩
def Dr.step(h:Dr rb c L N n bs w0 w)(hx:Q0 bs w w'):Dr rb c L N n bs w0 w':=⟨h.r.step hx,h.ext.fresh hx λx hm=>.inl (h.new x hm),h.new⟩
def Dr.add(h:Dr rb c L N n bs w0 w)(hb:w.heap.size<=b):Dr rb c L N n (bs++[b]) w0 w:=⟨h.r.add hb,h.ext,λx hm=>by
 rcases Ip.1 hm with hm|hm
 ·exact h.new x hm
 ·have:x=b:=by simpa using hm
  have:=h.ext.size;omega⟩
def Dr.put(h:Dr rb c L N n bs w0 w)(hx:Q0 bs w w')(hb:w.heap.size<=b):Dr rb c L N n (bs++[b]) w0 w':=(h.add hb).step (hx.mono λ_ hm=>Ic _ hm)
def Dr.sJ(h:Dr rb c L N n bs w0 w)(hx:Q0 bs w w')(hb:w.heap.size<=b)(cA:w.heap.size<=b2):Dr rb c L N n (bs++[b]++[b2]) w0 w':=((h.add hb).add cA).step (hx.mono λ_ hm=>Ic _ (Ic _ hm))
def Dr.more{m:Nat}(h:Dr rb c L N n bs w0 w)(hm:n<=m):Dr rb c L N m bs w0 w:=⟨h.r.mono Qo,h.ext,h.new⟩
def Dr.sub(h:Dr rb c L N n bs w0 w)(hs:∀x∈cs,x∈bs):Dr rb c L N n cs w0 w:=⟨h.r.sub hs,h.ext,λx hm=>h.new x (hs x hm)⟩
def Dr.fin{m:Nat}(h:Dr rb c L N n bs w0 w)(hm:n<=m):JR rb c L (N+m) w/\Q0 [rb] w0 w:=⟨(h.more hm).r.rd,h.ext⟩
def Dr.call{f:FuncId}{args:Array Va}{Q:Int->Prop}(h:Dr rb c L N n bs w0 w)(hs:∀x∈bs,x<w.heap.size)(hc:Cz f args w λe w'=>∃v,e=.returned (I v)/\Q v/\JR rb c L (N+n+k) w'/\Q0 [rb] w w') :
  Cz f args w λe w'=>∃v,e=.returned (I v)/\Q9 bs w w'/\Q v/\Dr rb c L N (n+k) bs w0 w':=
 hc.mono λe w' ⟨v,he,hq,hr,hx⟩=>⟨v,he,OZ h.r hx hs,hq,⟨h.r.upd (by rw[<-Nat.add_assoc];exact hr),h.ext.trans hx,h.new⟩⟩
def Dr.pick(h:Dr rb c L N n bs w0 w)(hN:N+n<=1000000000000)(hs:∀x∈bs,x<w.heap.size){q:Int} :
  Cz Q1 #[.pointer (some ⟨rb,0,none⟩),I q] w λe w'=>∃v,e=.returned (I v)/\Q9 bs w w'/\H8 q v/\Dr rb c L N (n+1) bs w0 w':=h.call hs (GG h.r.rd hN)
def Dr.R2(h:Dr rb c L N n bs w0 w)(hN:N+n<=900000000000)(hs:∀x∈bs,x<w.heap.size) :
  Cz ZB #[.pointer (some ⟨rb,0,none⟩)] w λe w'=>∃v,e=.returned (I v)/\Q9 bs w w'/\zvi v/\Dr rb c L N (n+2) bs w0 w':=h.call hs (zgw h.r.rd hN)
end
def zw5:Va->Bool
 |.int .i64 _=>true
 |_=>false
def zw7:Va->Bool
 |.string _=>true
 |_=>false
def zuf{v:Int}{k:Nat}{ls:List Va}{P:Int->Prop}(ha:ls.all zw5)(hl:ls.length=k)(h0:0<=v)(h1:v<(k:Int))(h:∀x,P x):∃x:Int,(0<=v/\ls[Int.toNat v+0]? = some (I x))/\P x:=by
 have IX:Int.toNat v+0<ls.length:=Qo;have:=List.all_eq_true.1 ha _ (List.getElem_mem IX);have e:=Io IX;generalize ls[Int.toNat v+0]=y at this e;unfold zw5 at this
 split at this
 ·exact⟨_,⟨h0,e⟩,h _⟩
 ·cases this
def zw3{v:Int}{k:Nat}{ls:List Va}{P:ByteArray->Prop}(ha:ls.all zw7)(hl:ls.length=k)(h0:0<=v)(h1:v<(k:Int))(h:∀x,P x):∃x:ByteArray,(0<=v/\ls[Int.toNat v+0]? = some (.string x))/\P x:=by
 have IX:Int.toNat v+0<ls.length:=Qo;have:=List.all_eq_true.1 ha _ (List.getElem_mem IX);have e:=Io IX;generalize ls[Int.toNat v+0]=y at this e;unfold zw7 at this
 split at this
 ·exact⟨_,⟨h0,e⟩,h _⟩
 ·cases this
def ztv(x:Int):Qq .i64 (10-Y1 (ze0 x 1) 20):=by
 have:1<=Y1 (ze0 x 1) 20/\Y1 (ze0 x 1) 20<=20:=by
  have h:1<=ze0 x 1:=by unfold ze0;split <;> omega
  unfold Y1
  split <;> omega
 exact⟨Qo,Qo⟩
section
variable {rb:Nat}{c:OA}{L N n:Nat}{bs:List Nat}{w0 w:Wo}
def znr(_:Int):Prop:=True
def zuw(h:JR rb c L N w)(hN:N<=900000000000) :
  Cz Yk #[.pointer (some ⟨rb,0,none⟩)] w λe w'=>∃v,e=.returned (I v)/\znr v/\JR rb c L (N+2) w'/\Q0 [rb] w w':=by
 refine(HG (some ⟨rb,0,none⟩) (R:=λv w'=>∃x,v=I x/\JR rb c L (N+2) w'/\Q0 [rb] w w') ?_).mono λe w' ⟨v,he,x,hv,h1⟩=>⟨x,by rw[he,hv],trivial,h1⟩
 have h0:=Dr.start h;intro wr hx hs;refine(Dr.pick (h0.step hx) Qo hs).mono ?_;rintro e w2 ⟨v,he,hk,_,h1⟩;refine⟨_,he,hk,λ_ b hb Ra SD gZ=>?_,λ_ b hb Ra SD gZ=>?_⟩
 all_goals
  refine(Dr.pick (h1.put SD hb) Qo gZ).mono ?_;rintro e w3 ⟨u,jM,yX,⟨u0,_,u2⟩,h2⟩;have u2:=u2 Qd;refine⟨_,jM,yX,⟨Qo,Qo⟩,zuf Qd rfl Qo Qo λx Rg Rt=>⟨x,rfl,(h2.step Rt).fin Qo⟩⟩
def zsj(h:JR rb c L N w)(hN:N<=900000000000) :
  Cz ZN #[.pointer (some ⟨rb,0,none⟩)] w λe w'=>∃v,e=.returned (I v)/\znr v/\JR rb c L (N+2) w'/\Q0 [rb] w w':=by
 refine(Gw (some ⟨rb,0,none⟩) (R:=λv w'=>∃x,v=I x/\JR rb c L (N+2) w'/\Q0 [rb] w w') ?_).mono λe w' ⟨v,he,x,hv,h1⟩=>⟨x,by rw[he,hv],trivial,h1⟩
 have h0:=Dr.start h;intro wr hx hs;refine(Dr.pick (h0.step hx) Qo hs).mono ?_;rintro e w2 ⟨v,he,hk,_,h1⟩;refine⟨_,he,hk,λ_ b hb Ra SD gZ=>?_,λ_ b hb Ra SD gZ=>?_⟩
 all_goals
  refine(Dr.pick (h1.put SD hb) Qo gZ).mono ?_;rintro e w3 ⟨u,jM,yX,⟨u0,_,u2⟩,h2⟩;have u2:=u2 Qd;refine⟨_,jM,yX,⟨Qo,Qo⟩,zuf Qd rfl Qo Qo λx Rg Rt=>⟨x,rfl,(h2.step Rt).fin Qo⟩⟩
def zv1(h:JR rb c L N w)(hN:N<=900000000000) :
  Cz Vu #[.pointer (some ⟨rb,0,none⟩)] w λe w'=>∃v,e=.returned (I v)/\znr v/\JR rb c L (N+2) w'/\Q0 [rb] w w':=by
 refine(Ea (some ⟨rb,0,none⟩) (R:=λv w'=>∃x,v=I x/\JR rb c L (N+2) w'/\Q0 [rb] w w') ?_).mono λe w' ⟨v,he,x,hv,h1⟩=>⟨x,by rw[he,hv],trivial,h1⟩
 have h0:=Dr.start h;intro wr hx hs;refine(Dr.pick (h0.step hx) Qo hs).mono ?_;rintro e w2 ⟨v,he,hk,⟨v0,_,v2⟩,h1⟩;have v2:=v2 Qd;refine⟨_,he,hk,λRa SD gZ=>?_⟩;refine(Dr.pick (h1.step SD) Qo gZ).mono ?_;rintro e w3 ⟨u,jM,yX,⟨u0,_,u2⟩,h2⟩;have u2:=u2 Qd
 have hd:0<=Int.tdiv u 19/\Int.tdiv u 19<=1:=by
  rw[Int.tdiv_eq_ediv_of_nonneg u0];omega
 exact⟨_,jM,yX,⟨Qd,⟨Qo,Qo⟩⟩,⟨Qo,Qo⟩,λRg Rt=>⟨_,rfl,(h2.step Rt).fin Qo⟩⟩
def Dr.mask(h:Dr rb c L N n bs w0 w)(hN:N+n<=900000000000)(hs:∀x∈bs,x<w.heap.size) :
  Cz Yk #[.pointer (some ⟨rb,0,none⟩)] w λe w'=>∃v,e=.returned (I v)/\Q9 bs w w'/\znr v/\Dr rb c L N (n+2) bs w0 w':=h.call hs (zuw h.r.rd hN)
def Dr.qY(h:Dr rb c L N n bs w0 w)(hN:N+n<=900000000000)(hs:∀x∈bs,x<w.heap.size) :
  Cz ZN #[.pointer (some ⟨rb,0,none⟩)] w λe w'=>∃v,e=.returned (I v)/\Q9 bs w w'/\znr v/\Dr rb c L N (n+2) bs w0 w':=h.call hs (zsj h.r.rd hN)
end
def J4.w{W:Q7}(iv:J4 W):QH W:=Qm.2 iv.wp
def J4.len{W:Q7}(iv:J4 W):Xk W:=zsm iv.wp.a
def zic(W V:Q7):Prop:=J4 V/\Xv W V
def zic.refl{W:Q7}(iv:J4 W):zic W W:=⟨iv,.same⟩
def zr3{W W':Q7}{jG:Int}(iv:J4 W)(hb:jG=0->zic W W'):zic W (Xz W jG W').1:=by
 unfold Xz;rw[E' (by rw[iv.w];decide)];split
 ·exact zic.refl iv
 ·rename_i e;exact hb (by simpa using e)
def zo1{W W':Q7}{jG a:Int}(iv:J4 W)(hb:jG=0->zic W W'):zic W (Vd W jG W' a).1:=by
 unfold Vd;rw[E' (by rw[iv.w];decide)];split
 ·exact zic.refl iv
 ·rename_i e;exact hb (by simpa using e)
section
variable {f:FuncId}{args:Array Va}{W W':Q7}{jG a:Int}{m:MW}{w:Wo}
def U9(iv:J4 W)(hc:Cz f args w λe w'=>∃v,e=.returned v/\QM (Xz W jG W') w v w')(hb:jG=0->zic W W') :
  Cz f args w λe w'=>∃(V:Q7) (m':MW) (d:Int),e=.returned (.tuple #[.agg (Qa V m').toArray,I d])/\zic W V/\Yn 8 w.heap.size w' V m'/\Q0 [] w w':=
 hc.mono λe w' ⟨v,he,n,m',hv,hM,hx⟩=>by
  have hi:=zr3 iv hb;have hn:n=8:=hM.len.symm.trans hi.1.wp.a.gl;subst hn;exact⟨_,m',_,by rw[he,hv],hi,hM,hx⟩
def zj9(iv:J4 W)(hc:Cz f args w λe w'=>∃v,e=.returned v/\TA (Vd W jG W' a) w v w')(hb:jG=0->zic W W') :
  Cz f args w λe w'=>∃(V:Q7) (m':MW) (q d:Int),e=.returned (.tuple #[.agg (Qa V m').toArray,I q,I d])/\zic W V/\Yn 8 w.heap.size w' V m'/\Q0 [] w w':=
 hc.mono λe w' ⟨v,he,n,m',hv,hM,hx⟩=>by
  have hi:=zo1 (a:=a) iv hb;have hn:n=8:=hM.len.symm.trans hi.1.wp.a.gl;subst hn;exact⟨_,m',_,_,by rw[he,hv],hi,hM,hx⟩
def zn6{P:Q7->Prop}(iv:J4 W)(h0:P W)(hc:Cz f args w λe w'=>∃v,e=.returned v/\TA (Vd W jG W' a) w v w')(hb:jG=0->J4 W'/\P W') :
  Cz f args w λe w'=>∃(V:Q7) (m':MW) (q d:Int),e=.returned (.tuple #[.agg (Qa V m').toArray,I q,I d])/\(J4 V/\P V)/\Yn 8 w.heap.size w' V m'/\Q0 [] w w':=
 hc.mono λe w' ⟨v,he,n,m',hv,hM,hx⟩=>by
  have hi:J4 (Vd W jG W' a).1/\P (Vd W jG W' a).1:=by
   unfold Vd;rw[E' (by rw[iv.w];decide)];split
   ·exact⟨iv,h0⟩
   ·rename_i e;exact hb (by simpa using e)
  have hn:n=8:=hM.len.symm.trans hi.1.wp.a.gl;subst hn;exact⟨_,m',_,_,by rw[he,hv],hi,hM,hx⟩
def zwr(W:Q7)(w:Wo)(v:Va)(w':Wo):Prop:=∃(V:Q7) (m':MW) (d:Int),v=.tuple #[.agg (Qa V m').toArray,I d]/\zic W V/\Yn 8 w.heap.size w' V m'/\Q0 [] w w'
def XW{bs:List Nat}{w0 w2 w3:Wo}{d:Int}(s:Sc w0 bs w)(hs:∀x∈bs,x<w.heap.size)(hi:zic W W'){m':MW}(hM:Yn 8 w.heap.size w2 W' m')(hy:Q0 [] w w2)(hx:Q0 bs w2 w3):zwr W w0 (.tuple #[.agg (Qa W' m').toArray,I d]) w3:=
 ⟨W',m',d,rfl,hi,(((OW.of hM hs).step hx).own).mono s.ext.size,((s.RJ hy).step hx).ext⟩
def zur{c:Int}(iv:J4 W)(h:Nb W c=0):J4 (RG W c):=by
 obtain⟨c0,c1⟩:=Xg (zvg h).1;exact zmh iv c0 c1
def zmk{k a n q:Int}{s:ByteArray}(h:X0 [] w W m)(iv:J4 W) :
  Cz Ur #[.agg (Qa W m).toArray,.agg #[I k,I a,I n,I q,.string s]] w λe w'=>∃v,e=.returned v/\zwr W w v w':=by
 refine A9 _ _ _ _ _ _ _ _ _ _ k a n q s (R:=λv w'=>zwr W w v w') ?_;intro b hb b1 fI b2 cA;have hl:=iv.len;have hW:=iv.w;have s0:Sc w ([b]++[b1]++[b2]) w:=(((Sc.start w).add hb).add fI).add cA;have hS:∀{wr:Wo},Q0 [] w wr->Sc w [b,b1,b2] wr:=λhx=>s0.RJ hx
 refine⟨λ_ wr hx hs=>?_,λ_=>⟨λ_ wr hx hs=>?_,λ_=>⟨λ_ wr hx hs=>?_,λ_=>⟨λ_ wr hx hs=>?_,λ_=>⟨λ_ wr hx hs=>?_,λ_=>⟨λ_ wr hx hs=>?_,λ_=>⟨λ_ wr hx hs=>?_,λ_=>⟨λ_ wr hx hs=>?_,λ_=>⟨λ_ wr hx hs=>?_,λ_=>⟨λ_ wr hx hs=>?_,λ_=>⟨λ_ wr hx hs=>?_,λ_=>⟨λ_ wr hx hs=>?_,λ_=>⟨λ_ wr hx hs=>?_,λ_=>⟨λ_ wr hx hs=>?_,λ_=>⟨λ_ wr hx hs=>?_,λ_=>⟨λ_ wr hx hs=>?_,λ_=>⟨λ_ wr hx hs=>?_,λ_=>⟨λ_ wr hx hs=>?_,λ_=>⟨_,YH h hl.c hl.t hl.g hl.f,λg=>?_,λ_ wr hx hs=>?_⟩⟩⟩⟩⟩⟩⟩⟩⟩⟩⟩⟩⟩⟩⟩⟩⟩⟩⟩
 case refine_19=>rw[hW] at g;cases g
 case refine_20=>
  refine(Ol (h.ext hx) iv.wp.a).mono ?_;rintro e wv ⟨m',he,hM,hy⟩;exact⟨_,_,_,_,_,_,_,_,_,_,he,Qf hy hs,λRg Rt=>XW (hS hx) hs (zic.refl iv) hM hy Rt⟩
 case refine_3=>
  refine(zj9 iv (MQ (h.ext hx) hl) (λhb=>⟨zgs hW hb,.fork _ _ _ hb⟩)).mono ?_;rintro e wv ⟨V,m',q1,d,he,hi,hM,hy⟩;exact⟨_,_,_,_,_,_,_,_,_,_,_,_,he,Qf hy hs,λRg Rt=>XW (hS hx) hs hi hM hy Rt⟩
 case refine_10=>
  refine(zj9 iv (PW (h.ext hx) hl) λhb=>⟨zo3 iv (AT hb).1,.mak _ _ _ (AT hb).1⟩).mono ?_;rintro e wv ⟨V,m',q1,d,he,hi,hM,hy⟩;exact⟨_,_,_,_,_,_,_,_,_,_,_,_,he,Qf hy hs,λRg Rt=>XW (hS hx) hs hi hM hy Rt⟩
 case refine_1=>exact(U9 iv (BH (h.ext hx) hl) (λhb=>⟨zsc iv hb,.run _ _ hb⟩)).mono λe wv ⟨V,m',d,he,hi,hM,hy⟩=>⟨_,_,_,_,_,_,_,_,_,_,_,he,Qf hy hs,λRg Rt=>XW (hS hx) hs hi hM hy Rt⟩
 case refine_2=>exact(U9 iv (HU (h.ext hx) hl) (λhb=>⟨zur iv hb,.yld _ hb⟩)).mono λe wv ⟨V,m',d,he,hi,hM,hy⟩=>⟨_,_,_,_,_,_,_,_,_,_,_,he,Qf hy hs,λRg Rt=>XW (hS hx) hs hi hM hy Rt⟩
 case refine_4=>exact(U9 iv (Es (h.ext hx) hl) (λhb=>⟨zmg hW hb,.block _ hb⟩)).mono λe wv ⟨V,m',d,he,hi,hM,hy⟩=>⟨_,_,_,_,_,_,_,_,_,_,_,he,Qf hy hs,λRg Rt=>XW (hS hx) hs hi hM hy Rt⟩
 case refine_5=>exact(U9 iv (BE (h.ext hx) hl) (λhb=>⟨zo6 hW hb,.wake _ hb⟩)).mono λe wv ⟨V,m',d,he,hi,hM,hy⟩=>⟨_,_,_,_,_,_,_,_,_,_,_,he,Qf hy hs,λRg Rt=>XW (hS hx) hs hi hM hy Rt⟩
 case refine_6=>exact(U9 iv (BB (h.ext hx) hl) (λhb=>⟨zo2 hW hb,.exit _ hb⟩)).mono λe wv ⟨V,m',d,he,hi,hM,hy⟩=>⟨_,_,_,_,_,_,_,_,_,_,_,he,Qf hy hs,λRg Rt=>XW (hS hx) hs hi hM hy Rt⟩
 case refine_7=>exact(U9 iv (BD (h.ext hx) hl) (λhb=>⟨zo4 hW hb,.nice _ _ hb⟩)).mono λe wv ⟨V,m',d,he,hi,hM,hy⟩=>⟨_,_,_,_,_,_,_,_,_,_,_,he,Qf hy hs,λRg Rt=>XW (hS hx) hs hi hM hy Rt⟩
 case refine_8=>exact(U9 iv (AG (h.ext hx) hl) (λhb=>⟨zsb hW hb,.pin _ _ hb⟩)).mono λe wv ⟨V,m',d,he,hi,hM,hy⟩=>⟨_,_,_,_,_,_,_,_,_,_,_,he,Qf hy hs,λRg Rt=>XW (hS hx) hs hi hM hy Rt⟩
 case refine_9=>exact(U9 iv (BC (h.ext hx) hl) (λhb=>⟨zr8 iv hb,.mov _ _ hb⟩)).mono λe wv ⟨V,m',d,he,hi,hM,hy⟩=>⟨_,_,_,_,_,_,_,_,_,_,_,he,Qf hy hs,λRg Rt=>XW (hS hx) hs hi hM hy Rt⟩
 case refine_11=>exact(U9 iv (Ep (h.ext hx) hl) λhb=>⟨zr5 iv (zoi hb).1,.drp _ (zoi hb).1⟩).mono λe wv ⟨V,m',d,he,hi,hM,hy⟩=>⟨_,_,_,_,_,_,_,_,_,_,_,he,Qf hy hs,λRg Rt=>XW (hS hx) hs hi hM hy Rt⟩
 case refine_12=>exact(U9 iv (HT (h.ext hx) hl) (λhb=>⟨zsd hW hb,.wgh _ _ hb⟩)).mono λe wv ⟨V,m',d,he,hi,hM,hy⟩=>⟨_,_,_,_,_,_,_,_,_,_,_,he,Qf hy hs,λRg Rt=>XW (hS hx) hs hi hM hy Rt⟩
 case refine_13=>exact(U9 iv (BA (h.ext hx) hl) (λhb=>⟨zr6 hW hb,.gpn _ _ hb⟩)).mono λe wv ⟨V,m',d,he,hi,hM,hy⟩=>⟨_,_,_,_,_,_,_,_,_,_,_,he,Qf hy hs,λRg Rt=>XW (hS hx) hs hi hM hy Rt⟩
 case refine_14=>exact(U9 iv (HS (h.ext hx) hl) (λhb=>⟨zr7 hW hb,.lim _ _ _ hb⟩)).mono λe wv ⟨V,m',d,he,hi,hM,hy⟩=>⟨_,_,_,_,_,_,_,_,_,_,_,he,Qf hy hs,λRg Rt=>XW (hS hx) hs hi hM hy Rt⟩
 case refine_15=>exact(U9 iv (BF (h.ext hx) hl) (λhb=>⟨zo5 hW hb,.time _ hb⟩)).mono λe wv ⟨V,m',d,he,hi,hM,hy⟩=>⟨_,_,_,_,_,_,_,_,_,_,_,he,Qf hy hs,λRg Rt=>XW (hS hx) hs hi hM hy Rt⟩
 case refine_16=>exact(U9 iv (HQ (h.ext hx) hl) (λhb=>⟨zr4 hW hb,.bal _ hb⟩)).mono λe wv ⟨V,m',d,he,hi,hM,hy⟩=>⟨_,_,_,_,_,_,_,_,_,_,_,he,Qf hy hs,λRg Rt=>XW (hS hx) hs hi hM hy Rt⟩
 case refine_17=>exact(U9 iv (za1 (h.ext hx) hl) (λhb=>⟨zsa hW hb,.off _ hb⟩)).mono λe wv ⟨V,m',d,he,hi,hM,hy⟩=>⟨_,_,_,_,_,_,_,_,_,_,_,he,Qf hy hs,λRg Rt=>XW (hS hx) hs hi hM hy Rt⟩
 case refine_18=>exact(U9 iv (zev (h.ext hx) hl) (λhb=>⟨zuq hW hb,.on _ hb⟩)).mono λe wv ⟨V,m',d,he,hi,hM,hy⟩=>⟨_,_,_,_,_,_,_,_,_,_,_,he,Qf hy hs,λRg Rt=>XW (hS hx) hs hi hM hy Rt⟩
end
def zuu{rb:Nat}{c:OA}{L N:Nat}{w:Wo}{W:Q7}{m:MW}(h:JR rb c L N w)(hN:N<=800000000000) :
  Cz J0 #[.pointer (some ⟨rb,0,none⟩),.agg (Qa W m).toArray] w λe w'=>∃(k a n q:Int) (s:ByteArray),e=.returned (.agg #[I k,I a,I n,I q,.string s])/\JR rb c L (N+20) w'/\Q0 [rb] w w':=by
 refine(HF (some ⟨rb,0,none⟩) W.now m.cO W.IF.length m.cC m.tO W.IK.length m.tC m.gO W.IE.length m.gC (R:=λv w'=>∃(k a n q:Int) (s:ByteArray),v=.agg #[I k,I a,I n,I q,.string s]/\JR rb c L (N+20) w'/\Q0 [rb] w w') ?_).mono λe w' ⟨v,he,k,a,n,q,s,hv,h1⟩=>⟨k,a,n,q,s,by rw[he,hv],h1⟩
 intro b hb b1 fI;refine⟨_,VB,λwr hx hs=>?_⟩;refine(Dr.pick ((Dr.start h).sJ hx hb fI) Qo hs).mono ?_;rintro e w1 ⟨v1,he,hk,_,h1⟩;refine⟨_,he,hk,λwr hx hs=>?_⟩;refine(Dr.pick (h1.step hx) Qo hs).mono ?_;rintro e w2 ⟨v2,he,hk,_,h2⟩;refine⟨_,he,hk,λvs bs w2=>bs=[]/\(∃x:Int,vs=[I x])/\Dr rb c L N 4 [b,b1] w w2,λwr hx hs=>?_,?_⟩
 ·refine(Dr.pick (h2.step hx) Qo hs).mono ?_;rintro e w3 ⟨v3,he,hk,_,h3⟩;refine⟨_,he,hk,λ_ wr hx hs=>?_,λ_ wr hx hs=>⟨rfl,⟨_,rfl⟩,(h3.step hx).more Qd⟩⟩;refine(Dr.pick (h3.step hx) Qo hs).mono ?_;rintro e w4 ⟨v4,he,hk,_,h4⟩;exact⟨_,he,hk,λwr hx _=>⟨rfl,⟨_,rfl⟩,(h4.step hx).more Qd⟩⟩
 clear h1 h2;rintro t bN gX ⟨-,-,h4⟩ wr hx hs;refine(Dr.pick (h4.step hx) Qo hs).mono ?_;rintro e w5 ⟨v5,he,hk,⟨p50,_,p52⟩,h5⟩;have p52:=p52 Qd;refine⟨_,he,hk,λwr hx hs=>?_⟩;refine(Dr.pick (h5.step hx) Qo hs).mono ?_;rintro e w6 ⟨v6,he,hk,_,h6⟩;clear h4 h5;refine⟨_,he,hk,λ_=>?_,λ_ wr hx hs=>?_⟩
 rotate_left
 ·refine(Dr.pick (h6.step hx) Qo hs).mono ?_;rintro e w7 ⟨v7,he,hk,_,h7⟩;clear h6;refine⟨_,he,hk,?_⟩;clear he hk hx hs gX
  repeat' first
   |exact rfl
   |exact ztv _
   |(refine⟨_,VB,?_⟩)
   |(refine⟨_,J2,?_⟩)
   |(refine⟨λ_ bs w2=>bs=[]/\Dr rb c L N 7 [b,b1] w w2,?_,?_⟩)
   |(refine And.intro ?_ ?_)
   |(refine zuf Qd rfl Qo Qo λx=>?_)
   |(refine zw3 Qd rfl Qo Qo λx=>?_)
   |(intro (x:Bool) (wv:Wo) hs hm;obtain⟨_,hD⟩:=hm)
   |(intro (b:Nat) hb)
   |(intro (wr:Wo) hx hs;refine(Dr.pick (Dr.step (by assumption) hx) ?_ hs).mono ?_;rotate_left;rintro e w2 ⟨v,he,hk,⟨hp0,_,n'⟩,hC⟩;have n':=n' Qd;refine⟨_,he,hk,?_⟩)
   |(intro (wr:Wo) hx hs;refine(Dr.pick (Dr.put (by assumption) hx (by assumption)) ?_ hs).mono ?_;rotate_left;rintro e w2 ⟨v,he,hk,⟨hp0,_,n'⟩,hC⟩;have n':=n' Qd;refine⟨_,he,hk,?_⟩)
   |(intro (wr:Wo) hx hs;refine(Dr.pick (Dr.sJ (by assumption) hx (by assumption) (by assumption)) ?_ hs).mono ?_;rotate_left;rintro e w2 ⟨v,he,hk,⟨hp0,_,n'⟩,hC⟩;have n':=n' Qd;refine⟨_,he,hk,?_⟩)
   |(intro (wr:Wo) hx hs;refine(Dr.R2 (Dr.step (by assumption) hx) ?_ hs).mono ?_;rotate_left;rintro e w2 ⟨v,he,hk,⟨hp0,n'⟩,hC⟩;refine⟨_,he,hk,?_⟩)
   |(intro (wr:Wo) hx hs;refine(Dr.mask (Dr.step (by assumption) hx) ?_ hs).mono ?_;rotate_left;rintro e w2 ⟨v,he,hk,_,hC⟩;refine⟨_,he,hk,?_⟩)
   |(intro (wr:Wo) hx hs;refine(Dr.qY (Dr.step (by assumption) hx) ?_ hs).mono ?_;rotate_left;rintro e w2 ⟨v,he,hk,_,hC⟩;refine⟨_,he,hk,?_⟩)
   |(intro (wr:Wo) hx hs;exact⟨rfl,Dr.step (by assumption) hx⟩)
   |(intro (wr:Wo) hx;exact⟨_,_,_,_,_,rfl,(Dr.step (by assumption) hx).fin Qd⟩)
   |(intro (hh:_=true))
   |(intro (hh:_=false))
   |omega
   |decide
 ·repeat' first
   |exact rfl
   |(refine And.intro ?_ ?_)
   |(refine zuf Qd rfl Qo Qo λx=>?_)
   |(intro (b:Nat) hb)
   |(intro (wr:Wo) hx hs;refine(Dr.pick (Dr.step (by assumption) hx) ?_ hs).mono ?_;rotate_left;rintro e w2 ⟨v,he,hk,⟨hp0,_,n'⟩,hC⟩;have n':=n' Qd;refine⟨_,he,hk,?_⟩)
   |(intro (wr:Wo) hx hs;refine(Dr.pick (Dr.put (by assumption) hx (by assumption)) ?_ hs).mono ?_;rotate_left;rintro e w2 ⟨v,he,hk,⟨hp0,_,n'⟩,hC⟩;have n':=n' Qd;refine⟨_,he,hk,?_⟩)
   |(intro (wr:Wo) hx;exact⟨_,_,_,_,_,rfl,(Dr.step (by assumption) hx).fin Qd⟩)
   |omega
def zw6(lo hi:Int):Va->Bool
 |.int .i64 x=>decide (lo<=x)&&decide (x<=hi)
 |_=>false
def zxc{lo hi v:Int}{k:Nat}{ls:List Va}{P:Int->Prop}(ha:ls.all (zw6 lo hi))(hl:ls.length=k)(h0:0<=v)(h1:v<(k:Int))(h:∀x,lo<=x->x<=hi->P x):∃x:Int,(0<=v/\ls[Int.toNat v+0]? = some (I x))/\P x:=by
 have IX:Int.toNat v+0<ls.length:=Qo;have:=List.all_eq_true.1 ha _ (List.getElem_mem IX);have e:=Io IX;generalize ls[Int.toNat v+0]=y at this e;unfold zw6 at this
 split at this
 ·rw[A',Il,Il] at this;exact⟨_,⟨h0,e⟩,h _ this.1 this.2⟩
 ·cases this
structure XC (P:Nat->Q7->Prop) (rb:Nat) (c:OA) (L N n:Nat) (bs:List Nat) (w0 w:Wo) (W:Q7) (m:MW):Prop where
 iv:J4 W
 lw:P n W
 d:Dr rb c L N n bs w0 w
 o:OW 8 w0.heap.size (rb::bs) w W m
section
variable {P:Nat->Q7->Prop}{rb b b2:Nat}{c:OA}{L N n k:Nat}{bs cs:List Nat}{w0 w w':Wo}{W W':Q7}{m m':MW}
def XC.step(h:XC P rb c L N n bs w0 w W m)(hx:Q0 bs w w'):XC P rb c L N n bs w0 w' W m:=⟨h.iv,h.lw,h.d.step hx,h.o.step (hx.mono λ_ hm=>I3 _ hm)⟩
def XC.put(h:XC P rb c L N n bs w0 w W m)(hx:Q0 bs w w')(hb:w.heap.size<=b):XC P rb c L N n (bs++[b]) w0 w' W m:=⟨h.iv,h.lw,h.d.put hx hb,h.o.put (hx.mono λ_ hm=>I3 _ hm) hb⟩
def XC.sJ(h:XC P rb c L N n bs w0 w W m)(hx:Q0 bs w w')(hb:w.heap.size<=b)(cA:w.heap.size<=b2):XC P rb c L N n (bs++[b]++[b2]) w0 w' W m:=⟨h.iv,h.lw,h.d.sJ hx hb cA,h.o.sJ (hx.mono λ_ hm=>I3 _ hm) hb cA⟩
def XC.sub(h:XC P rb c L N n bs w0 w W m)(hs:∀x∈cs,x∈bs):XC P rb c L N n cs w0 w W m:=⟨h.iv,h.lw,h.d.sub hs,h.o.sub λx hx=>by
 rcases Ik.1 hx with h1|h1
 ·rw[h1];exact Ib
 ·exact I3 _ (hs x h1)⟩
def XC.more{q:Nat}(hP:Pf P)(h:XC P rb c L N n bs w0 w W m)(hm:n<=q):XC P rb c L N q bs w0 w W m:=⟨h.iv,hP.mono hm h.lw,h.d.more hm,h.o⟩
def XC.rd(h:XC P rb c L N n bs w0 w W m):X0 [] w W m:=h.o.rd0
def XC.drawn(hP:Pf P)(h:XC P rb c L N n bs w0 w W m)(hr:JR rb c L (N+n+k) w')(hx:Q0 [rb] w w'):XC P rb c L N (n+k) bs w0 w' W m:=
 ⟨h.iv,hP.mono Qo h.lw,⟨h.d.r.upd (by rw[<-Nat.add_assoc];exact hr),h.d.ext.trans hx,h.d.new⟩,h.o.step (hx.mono λx hm=>by
  have:x=rb:=by simpa using hm
  subst this;exact Ib)⟩
def XC.call{f:FuncId}{args:Array Va}{Q:Int->Prop}(hP:Pf P)(h:XC P rb c L N n bs w0 w W m)(hs:∀x∈bs,x<w.heap.size)(hc:Cz f args w λe w'=>∃v,e=.returned (I v)/\Q v/\JR rb c L (N+n+k) w'/\Q0 [rb] w w') :
  Cz f args w λe w'=>∃v,e=.returned (I v)/\Q9 bs w w'/\Q v/\XC P rb c L N (n+k) bs w0 w' W m:=
 hc.mono λe w' ⟨v,he,hq,hr,hx⟩=>⟨v,he,OZ h.d.r hx hs,hq,h.drawn hP hr hx⟩
def XC.pick(hP:Pf P)(h:XC P rb c L N n bs w0 w W m)(hN:N+n<=1000000000000)(hs:∀x∈bs,x<w.heap.size){q:Int} :
  Cz Q1 #[.pointer (some ⟨rb,0,none⟩),I q] w λe w'=>∃v,e=.returned (I v)/\Q9 bs w w'/\H8 q v/\XC P rb c L N (n+1) bs w0 w' W m:=h.call hP hs (GG h.d.r.rd hN)
def XC.R2(hP:Pf P)(h:XC P rb c L N n bs w0 w W m)(hN:N+n<=900000000000)(hs:∀x∈bs,x<w.heap.size) :
  Cz ZB #[.pointer (some ⟨rb,0,none⟩)] w λe w'=>∃v,e=.returned (I v)/\Q9 bs w w'/\zvi v/\XC P rb c L N (n+2) bs w0 w' W m:=h.call hP hs (zgw h.d.r.rd hN)
def XC.item(hP:Pf P)(h:XC P rb c L N n bs w0 w W m)(hN:N+n<=800000000000)(hs:∀x∈bs,x<w.heap.size){V:Q7}{p:MW} :
  Cz J0 #[.pointer (some ⟨rb,0,none⟩),.agg (Qa V p).toArray] w λe w'=>∃(k a q r:Int) (s:ByteArray),e=.returned (.agg #[I k,I a,I q,I r,.string s])/\Q9 bs w w'/\XC P rb c L N (n+20) bs w0 w' W m:=
 (zuu h.d.r.rd hN).mono λe w' ⟨k,a,q,r,s,he,hr,hx⟩=>⟨k,a,q,r,s,he,OZ h.d.r hx hs,h.drawn hP hr hx⟩
def XC.bsl(h:XC P rb c L N n bs w0 w W m)(hs:∀x∈bs,x<w.heap.size):∀x∈rb::bs,x<w.heap.size:=λx hm=>by
 rcases Ik.1 hm with h1|h1
 ·rw[h1];exact h.d.r.rd.lt
 ·exact hs x h1
def XC.W9{P':Nat->Q7->Prop}{q:Nat}(h:XC P rb c L N n bs w0 w W m)(hq:n<=q)(hs:∀x∈bs,x<w.heap.size)(hi:J4 W')(hl:P' q W')(hM:Yn 8 w.heap.size w' W' m')(hx:Q0 [] w w'):XC P' rb c L N q bs w0 w' W' m':=
 ⟨hi,hl,Dr.more ⟨h.d.r.RJ hx,h.d.ext.trans hx.of_nil,h.d.new⟩ hq,(OW.of hM (h.bsl hs)).mono h.d.ext.size⟩
def XC.mak{p:Int}{name:ByteArray}(hP:Pf P)(h:XC P rb c L N n bs w0 w W m)(hs:∀x∈bs,x<w.heap.size) :
  Cz Qy #[.agg (Qa W m).toArray,I p,.string name] w λe w'=>∃(W':Q7) (m':MW) (a d:Int),e=.returned (.tuple #[.agg (Qa W' m').toArray,I a,I d])/\Q9 bs w w'/\XC P rb c L N n bs w0 w' W' m':=
 (zn6 (P:=P n) h.iv h.lw (PW h.rd h.iv.len) λhb=>⟨zo3 h.iv (AT hb).1,hP.mak h.iv h.lw (AT hb).1⟩).mono λe w' ⟨V,m',a,d,he,hi,hM,hx⟩=>⟨V,m',a,d,he,Qf hx hs,h.W9 (I9 _) hs hi.1 hi.2 hM hx⟩
def XC.fork{g q x:Int}(hP:Pf P)(h:XC P rb c L N n bs w0 w W m)(hs:∀x∈bs,x<w.heap.size) :
  Cz X5 #[.agg (Qa W m).toArray,I g,I q,I x] w λe w'=>∃(W':Q7) (m':MW) (a d:Int),e=.returned (.tuple #[.agg (Qa W' m').toArray,I a,I d])/\Q9 bs w w'/\XC P rb c L N n bs w0 w' W' m':=
 (zn6 (P:=P n) h.iv h.lw (MQ h.rd h.iv.len) λhb=>⟨zgs h.iv.w hb,hP.fork h.iv h.lw hb⟩).mono λe w' ⟨V,m',a,d,he,hi,hM,hx⟩=>⟨V,m',a,d,he,Qf hx hs,h.W9 (I9 _) hs hi.1 hi.2 hM hx⟩
def XC.do{k a q r:Int}{s:ByteArray}(hP:Pf P)(hn:n<=10000)(h:XC P rb c L N n bs w0 w W m)(hs:∀x∈bs,x<w.heap.size) :
  Cz Ur #[.agg (Qa W m).toArray,.agg #[I k,I a,I q,I r,.string s]] w λe w'=>∃(W':Q7) (m':MW) (d:Int),e=.returned (.tuple #[.agg (Qa W' m').toArray,I d])/\Q9 bs w w'/\XC P rb c L N (n+10) bs w0 w' W' m':=
 (zmk h.rd h.iv).mono λe w' ⟨v,he,V,m',d,hv,hi,hM,hx⟩=>⟨V,m',d,by rw[he,hv],Qf hx hs,h.W9 (Nat.le_add_right _ _) hs hi.1 (hP.W9 hn h.iv h.lw hi.2) hM hx⟩
def XC.fin{q:Nat}(hP:Pf P)(h:XC P rb c L N n bs w0 w W m)(hq:n<=q):(J4 W/\P q W)/\Yn 8 w0.heap.size w W m/\JR rb c L (N+q) w/\Q0 [rb] w0 w/\∀x∈QS 8 m,x≠rb:=⟨⟨h.iv,hP.mono hq h.lw⟩,h.o.own,(h.d.fin hq).1,h.d.ext,λx hx e=>h.o.nb x hx (by rw[e];exact Ib)⟩
end
end Go.Proofs.YtjinkcmkgnofjaaGreat
