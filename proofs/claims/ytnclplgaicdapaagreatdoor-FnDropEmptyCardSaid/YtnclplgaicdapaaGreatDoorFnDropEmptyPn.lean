/- Part 14 of what the law FnDropEmpty needs. -/
import Derived.Test.YtnclplgaicdapaaGreatDoorFnDropEmptyPm
set_option linter.unusedVariables false
set_option linter.unusedSimpArgs false
set_option maxRecDepth 100000
set_option maxHeartbeats 8000000
namespace Go.Proofs.YtnclplgaicdapaaGreatDoor
open Go.RowKit
theorem zgo{b b':Jj}{c:Int}{e:Nat}(he:(e:Int)≠c)(h0:gi b'.locals (e:Int)=0)(h1:gi b.locals (e:Int)>0)(h:∀d:Nat,d≠e->gi b'.locals (d:Int)=gi b.locals (d:Int)):∀n:Nat,zal b' c n+(if e<n then 1 else 0)=zal b c n
 | 0=>rfl
 | n+1=>by
  have ih:=zgo he h0 h1 h n;simp only[zal]
  by_cases hn:n=e
  ·subst hn;rw[C' (Nat.lt_irrefl n)] at ih;rw[E' (Nat.lt_succ_self n),C' (by rintro⟨_,h⟩; omega),E' ⟨he,h1⟩];omega
  ·rw[h n hn];generalize (if (n:Int)≠c/\gi b.locals (n:Int)>0 then 1 else 0)=y
   by_cases IQ:e<n
   ·rw[E' IQ] at ih;rw[E' Qo];omega
   ·rw[C' IQ] at ih;rw[C' Qo];omega
theorem zqg{b:Jj}(h:VK b){c:Int}{e:Nat}(e1:(e:Int)<(b.locals.length:Int))(hp:gi b.locals (e:Int)>0):XM (Yn b (e:Int)) c<=XM b c:=by
 have hl:=h.l2
 have SP:∀d:Nat,gi (Yn b (e:Int)).locals (d:Int)=if e=d then 0 else gi b.locals (d:Int):=fun d=>by
  show gi (b.locals.set (e:Int).toNat 0) (d:Int)=_;rw[QC _ _ Qo e1 Qo]
  by_cases h:e=d
  ·subst h; simp
  ·rw[C' h,C' Qo]
 unfold XM
 by_cases hc:(e:Int)=c
 ·have h1:=Le (b:=b) (b':=Yn b (e:Int)) (c:=c) (fun d hd=>by rw[SP d,C' (fun h=>hd (by rw[<-h]; exact hc))]) 4
  have hw:gi b.RI c=false:=by
   cases hd:gi b.RI c with
   | false=>rfl
   | true=>
    have:=((h.each c Qo Qo).2.2 hd).1;rw[<-hc] at this; omega
  rw[h1];unfold zj4;rw[hw]
  split <;> simp
 ·have h1:=zgo (b:=b) (b':=Yn b (e:Int)) (c:=c) hc (by rw[SP e,E' rfl]) hp (fun d hd=>by rw[SP d,C' (fun h=>hd h.symm)]) 4;rw[E' Qo] at h1;have:zj4 (Yn b (e:Int)) c<=1:=by unfold zj4; split <;> omega
  omega
theorem zqh{b:Jj}{c:Int}(c0:0<=c)(c1:c<(b.locals.length:Int))(hdl:b.RI.length=b.locals.length)(hw:gi b.RI c=false):XM (YG b c).1 c<=XM b c/\((YG b c).2=2->XM (YG b c).1 c<XM b c)/\((YG b c).2≠2->gi (YG b c).1.RI c=false):=by
 unfold YG;split
 ·exact⟨I8 _,fun h=>(by cases h),fun _=>hw⟩
 ·have h1:=Le (b:=b) (b':=⟨b.I',b.Sp-Y1 20 b.Sp,b.Ww,b.locals.set c.toNat (Y1 20 b.Sp),b.RI.set c.toNat (Y1 20 b.Sp==0)⟩) (c:=c) (fun d hd=>by
   show gi (b.locals.set c.toNat (Y1 20 b.Sp)) (d:Int)=_;rw[QC _ _ c0 c1 Qo,C' fun h=>hd h.symm]) 4
  have hd:gi (b.RI.set c.toNat (Y1 20 b.Sp==0)) c=(Y1 20 b.Sp==0):=by rw[QC _ _ c0 Qo c0,E' rfl]
  unfold XM;rw[h1];unfold zj4;rw[hw];simp only[hd]
  by_cases hm:Y1 20 b.Sp=0
  ·rw[E' (show (Y1 20 b.Sp==0)=true by rw[hm]; rfl),C' Qd];exact⟨Qo,fun _=>by omega,fun h=>Is (E' hm) h⟩
  ·have hb:(Y1 20 b.Sp==0)=false:=by simpa using hm
   rw[hb];exact⟨I8 _,fun h=>(by rw[C' hm] at h; cases h),fun _=>rfl⟩
theorem zng{b:Jj}{c n:Int}(c0:0<=c)(c1:c<(b.locals.length:Int)):XM (Tr b c n).1 c=XM b c:=by
 unfold Tr;split
 ·rfl
 ·unfold XM zj4
  rw[Le (b:=b) (c:=c) (fun d hd=>by
   show gi (b.locals.set c.toNat (gi b.locals c-n)) (d:Int)=_;rw[QC _ _ c0 c1 Qo,C' fun h=>hd h.symm]) 4]
theorem zcm{F K:Int}{W:Q7}(h:SF F K W){k:Int}(hu:Q6 W.ID k=true)(hq:(gi W.ID k).IT.I'≠0)(c:Int):∀d:Nat,d<=W.IE.length->(∀j:Int,0<=j->XM (gi (YD W k d).ID j).IT c<=XM (gi W.ID j).IT c)
 | 0,_=>fun _ _=>I8 _
 | d+1,hd=>by
  have ih:=zcm h hu hq c d Qo;obtain⟨a,b,q⟩:=HK h hu hq d Qo;simp only[YD];split
  ·rename_i hc;have hu':Q6 (YD W k d).ID k=true:=by rw[b.g.dT]; exact hu
   obtain⟨u0,u1,hg⟩:=a.w.a.u hu';have hb:=hg.IT q;have hl:=a.w.a.gl;intro j hj;show XM (gi (Rp _ k _).ID j).IT c<=_;rw[Ym u0 Qo hj];split
   ·rename_i e;subst e;exact IB (zqg hb.1 (by rw[hb.2.1,b.c]; omega) hc.1) (ih k hj)
   ·exact ih j hj
  ·exact ih
theorem zcn{F K:Int}{W:Q7}(h:SF F K W)(c:Int):∀k:Nat,k<=8->∀j:Int,0<=j->XM (gi (YX W k).ID j).IT c<=XM (gi W.ID j).IT c
 | 0,_=>fun _ _=>I8 _
 | k+1,hk=>by
  have ih:=zcn h c k Qo;obtain⟨a,b⟩:=TL h k Qo;have hl:=a.w.a.gl;simp only[YX];split
  ·rename_i hc;exact fun j hj=>IB (zcm a (Q5.2 ⟨Qo,Qo,hc.1⟩) hc.2 c _ (I8 _) j hj) (ih j hj)
  ·exact ih
theorem zmd{K:Int}{W:Q7}(sw:SW K W){c:Int}(c0:0<=c)(c1:c<(W.IE.length:Int))(i:Int)(hi:0<=i):(gi (VG W c).ID i).IT=(gi W.ID i).IT:=(zhv sw c0 c1).1.b i hi
theorem zb0{K:Int}{W:Q7}(sw:SW K W)(hK:0<=K)(i:Int)(hi:0<=i):∀c:Nat,c<=W.IE.length->(gi (JO W c).ID i).IT=(gi W.ID i).IT
 | 0,_=>rfl
 | c+1,hc=>by
  obtain⟨s1,f1⟩:=KV sw hK c Qo;rw[show JO W (c+1)=VG (JO W c) (c:Int) from rfl,zmd s1 Qo (by rw[f1.c]; omega) i hi,zb0 sw hK i hi c Qo]
theorem zjf{K:Int}{W:Q7}(sw:SW K W)(hK:0<=K)(c:Int):Kc (Qh W) c<=Kc W c:=by
 obtain⟨s1,o1⟩:=Oy (F:=K) (K:=K+Qn) (sw.sf.mono (I3 _) (by simp only[Qn]; omega)) (I3 _) W.IE.length (I8 _);obtain⟨s2,b2⟩:=TL s1 8 (I8 _);refine Lj (fun k hk=>?_) 8 (I8 _);have h1:(gi (Qh W).ID (k:Int)).IT=(gi (YX (YN W W.IE.length) 8).ID (k:Int)).IT:=zb0 s2.w (by simp only[Qn]; omega) (k:Int) Qo W.IE.length (by show W.IE.length<=(YX (YN W W.IE.length) 8).IE.length; rw[b2.c,o1.c]; exact I8 _);rw[h1];have h2:=zcn s1 c 8 (I8 _) (k:Int) Qo;rw[o1.b (k:Int) Qo] at h2;exact h2
def YF(W:Q7)(t:Int):List Int:=Z2 W.ID (Q8 W t).group++[0]
def Nn(W:Q7)(c g:Int):Q7×Bool:=if (gi W.ID g).IT.I'=0 then (W,true) else (WQ W g (YG (gi W.ID g).IT c).1,decide ((YG (gi W.ID g).IT c).2≠2))
def zc8(c:Int):List Int->Q7->Q7×Bool
 | [],W=>(W,true)
 | g::l,W=>if (Nn W c g).2=true then zc8 c l (Nn W c g).1 else ((Nn W c g).1,false)
def zg3(W:Q7)(c g n:Int):Int:=if (gi W.ID g).IT.I'>0 then Y1 n (gi (gi W.ID g).IT.locals c) else n
def AN(W:Q7)(c:Int):List Int->Int->Int
 | [],n=>n
 | g::l,n=>AN W c l (zg3 W c g n)
def N9(W:Q7)(c n g:Int):K0:={ Qc W g c with v:=if g≠0 then (Qc W g c).v+Z9 n (Qc W g c).w else (Qc W g c).v,sum:=(Qc W g c).sum+n }
def zb2(W:Q7)(c n g:Int):Jj:=if (gi W.ID g).IT.I'>0 then (YI (gi W.ID g).IT ⟨2,c,n⟩).1 else (gi W.ID g).IT
def Kk(W:Q7)(c n g:Int):Q7:=RM W g c (N9 W c n g)
def Fd(W:Q7)(c n g:Int):Zr:={ gi (Kk W c n g).ID g with sum:=(gi W.ID g).sum+n }
def NX(W:Q7)(c n g:Int):Q7:=WQ (Rp (Kk W c n g) g (Fd W c n g)) g (zb2 W c n g)
def zdy(c n:Int):List Int->Q7->Q7
 | [],W=>W
 | g::l,W=>zdy c n l (NX W c n g)
def Kl(W:Q7)(t n:Int):Pi:={ Q8 W t with v:=(Q8 W t).v+Z9 n (Qf (Q8 W t).nice),sum:=(Q8 W t).sum+n,used:=(Q8 W t).used+n }
def zkl(W:Q7)(c n:Int):Pf:={ gi W.IE c with busy:=(gi W.IE c).busy+n,WS:=(gi W.IE c).WS+n }
def OF(W:Q7)(c t n:Int):Q7:=RW (zdy c n (YF W t) (IU W t (Kl W t n))) c (zkl W c n)
def Yg(W:Q7)(c t:Int):Pf:=if t≠(gi W.IE c).cur\/(gi W.IE c).WS>=50 then { gi W.IE c with cur:=t,WS:=0 } else gi W.IE c
def YP(W:Q7)(c t:Int):Q7:=RW W c (Yg W c t)
def Ky(W:Q7)(c n:Int):Pf:={ gi W.IE c with idle:=(gi W.IE c).idle+n }
def YL(W:Q7)(c:Int):Q7×Bool:=zc8 c (YF W (Qr W c)) (YP W c (Qr W c))
def Ud(W:Q7)(c left:Int):Int:=AN (YL W c).1 c (YF W (Qr W c)) left
def De(W:Q7)(c left:Int):Q7×Int:=
 if (YL W c).2=true then (Qh (OF (YL W c).1 c (Qr W c) (Ud W c left)),left-Ud W c left) else (Qh (RC (YL W c).1 c),left)
def Ck(c:Int):Nat->Q7->Int->Q7
 | 0,W,_=>W
 | f+1,W,left=>if left<=0 then Qh W else if Qr W c<0 then Qh (RC (RW W c (Ky W c left)) c) else Ck c f (De W c left).1 (De W c left).2
structure zn6 (K c:Int) (W W':Q7):Prop where
 sw:SW K W'
 o:Vb W W'
 q:∀i:Int,0<=i->(gi W'.ID i).IT.I'=(gi W.ID i).IT.I'
 l:∀i:Int,0<=i->gi (gi W.ID i).IT.locals c>0->gi (gi W'.ID i).IT.locals c>0
 p:∀i:Int,0<=i->XM (gi W'.ID i).IT c<=XM (gi W.ID i).IT c
 su:VM W W'
theorem zn6.refl{K c:Int}{W:Q7}(h:SW K W):zn6 K c W W:=⟨h,Vb.refl _,fun _ _=>rfl,fun _ _ h=>h,fun _ _=>I8 _,VM.refl _⟩
theorem zn6.trans{K c:Int}{A B C:Q7}(h:zn6 K c A B)(k:zn6 K c B C):zn6 K c A C:=⟨k.sw,h.o.trans k.o,fun i hi=>(k.q i hi).trans (h.q i hi),fun i hi g=>k.l i hi (h.l i hi g),fun i hi=>IB (k.p i hi) (h.p i hi),h.su.trans k.su⟩
theorem znt{b:Jj}(h:VK b){c:Int}(c0:0<=c)(c1:c<(b.locals.length:Int)):(gi b.locals c>0->(YG b c).1=b)/\((YG b c).2≠2->gi (YG b c).1.locals c>0):=by
 unfold YG;split
 ·rename_i hp;exact⟨fun _=>rfl,fun _=>hp⟩
 ·rename_i hn;refine⟨fun h=>Is h hn,fun h2=>?_⟩;show gi (b.locals.set c.toNat (Y1 20 b.Sp)) c>0;rw[QC _ _ c0 c1 c0,E' rfl];have hm:=zex h.p1
  by_cases e:Y1 20 b.Sp=0
  ·exact Is (E' e) h2
  ·omega
theorem zq6{K c:Int}{W:Q7}(sw:SW K W)(c0:0<=c)(c1:c<(W.IE.length:Int)){g:Int}(hu:Q6 W.ID g=true)(hd:(gi W.ID g).IT.I'≠0->gi (gi W.ID g).IT.RI c=false) :
  zn6 K c W (Nn W c g).1/\((Nn W c g).2=true->((gi W.ID g).IT.I'≠0->gi (gi (Nn W c g).1.ID g).IT.locals c>0)/\∀i:Int,0<=i->((gi W.ID i).IT.I'≠0->gi (gi W.ID i).IT.RI c=false)->(gi W.ID i).IT.I'≠0->gi (gi (Nn W c g).1.ID i).IT.RI c=false)
   /\ ((Nn W c g).2=false->XM (gi (Nn W c g).1.ID g).IT c<XM (gi W.ID g).IT c):=by
 obtain⟨u0,u1,hg⟩:=sw.a.u hu;have bW:=sw.a.gl;unfold Nn;split
 ·rename_i hq;exact⟨zn6.refl sw,fun _=>⟨fun h=>Is hq h,fun i _ h h2=>h h2⟩,fun h=>by cases h⟩
 ·rename_i hq;obtain⟨hb,hbl,_⟩:=hg.IT hq;have qW:c<((gi W.ID g).IT.locals.length:Int):=Qo;obtain⟨cD,hl2,hq2⟩:=zhx hb c0 qW;obtain⟨p1,p2,p3⟩:=zqh c0 qW hb.dl (hd hq);obtain⟨l1,l2⟩:=znt hb c0 qW;have ha:=sw.a.WQ (g:=g) hu hq cD (by rw[hl2]; exact hbl) hq2;have e:∀i:Int,0<=i->gi (WQ W g (YG (gi W.ID g).IT c).1).ID i=if g=i then { gi W.ID g with IT:=(YG (gi W.ID g).IT c).1 } else gi W.ID i:=fun i hi=>Ym u0 Qo hi
  have ob:=zck (W:=W) (b:=(YG (gi W.ID g).IT c).1) u0 Qo;refine⟨⟨(sw.sf.BE2 ob ha).w,ob,fun i hi=>?_,fun i hi h=>?_,fun i hi=>?_,zq1 _ _ _⟩,fun h=>?_,fun h=>?_⟩
  ·show (gi (WQ W g _).ID i).IT.I'=_;rw[e i hi]; split
   ·rename_i e; subst e; exact hq2
   ·rfl
  ·show gi (gi (WQ W g _).ID i).IT.locals c>0;rw[e i hi]; split
   ·rename_i e; subst e;show gi (YG (gi W.ID g).IT c).1.locals c>0;rw[l1 h]; exact h
   ·exact h
  ·show XM (gi (WQ W g _).ID i).IT c<=_;rw[e i hi]; split
   ·rename_i e; subst e; exact p1
   ·exact I8 _
  ·have h:(YG (gi W.ID g).IT c).2≠2:=Ot h;refine⟨fun _=>?_,fun i hi h1 h2=>?_⟩
   ·show gi (gi (WQ W g _).ID g).IT.locals c>0;rw[e g u0,E' rfl];exact l2 h
   ·show gi (gi (WQ W g _).ID i).IT.RI c=false;rw[e i hi]; split
    ·rename_i e; subst e; exact p3 h
    ·exact h1 h2
  ·have h:(YG (gi W.ID g).IT c).2=2:=Ir fun hn=>Ou h hn
   show XM (gi (WQ W g _).ID g).IT c<_;rw[e g u0,E' rfl];exact p2 h
theorem zq7{K c:Int}(c0:0<=c):∀(l:List Int) {W:Q7},SW K W->c<(W.IE.length:Int)->(∀g∈l,Q6 W.ID g=true)->(∀g∈l,(gi W.ID g).IT.I'≠0->gi (gi W.ID g).IT.RI c=false)->
  zn6 K c W (zc8 c l W).1/\((zc8 c l W).2=true->∀g∈l,(gi W.ID g).IT.I'≠0->gi (gi (zc8 c l W).1.ID g).IT.locals c>0)/\((zc8 c l W).2=false->∃g∈l,XM (gi (zc8 c l W).1.ID g).IT c<XM (gi W.ID g).IT c)
 | [],W,sw,_,_,_=>⟨zn6.refl sw,fun _ g hg=>(by cases hg),fun h=>by cases h⟩
 | g::l,W,sw,c1,hu,hd=>by
  obtain⟨a,b,d⟩:=zq6 sw c0 c1 (hu g Ia) (hd g Ia);simp only[zc8]
  by_cases h2:(Nn W c g).2=true
  ·rw[E' h2];obtain⟨b1,b2⟩:=b h2;have h0:∀x∈l,0<=x:=fun x hx=>(Q5.1 (hu x (I2 _ hx))).1
   obtain⟨a',b',d'⟩:=zq7 c0 l (W:=(Nn W c g).1) a.sw (by rw[a.o.c]; exact c1) (fun x hx=>by rw[a.o.g.dT]; exact hu x (I2 _ hx)) fun x hx hq=>by
    rw[a.q x (h0 x hx)] at hq;exact b2 x (h0 x hx) (hd x (I2 _ hx)) hq
   refine⟨a.trans a',fun h x hx hq=>?_,fun h=>?_⟩
   ·rcases Ij.1 hx with e | e
    ·subst e;exact a'.l x (Q5.1 (hu x Ia)).1 (b1 hq)
    ·exact b' h x e (by rw[a.q x (h0 x e)]; exact hq)
   ·obtain⟨x,hx,IQ⟩:=d' h;exact⟨x,I2 _ hx,Nat.lt_of_lt_of_le IQ (a.p x (h0 x hx))⟩
  ·rw[C' h2];exact⟨a,fun h=>(by cases h),fun _=>⟨g,Ia,d (by simpa using h2)⟩⟩
theorem zcg{W:Q7}{c:Int}:∀(l:List Int) (n:Int),1<=n->(∀g∈l,(gi W.ID g).IT.I'>0->gi (gi W.ID g).IT.locals c>0)->1<=AN W c l n/\AN W c l n<=n
 | [],n,h,_=>⟨h,I3 _⟩
 | g::l,n,h,hl=>by
  simp only[AN]
  have hm:1<=zg3 W c g n/\zg3 W c g n<=n:=by
   unfold zg3;split
   ·rename_i hq;have:=hl g Ia hq;unfold Y1
    split <;> omega
   ·exact⟨h,I3 _⟩
  have:=zcg l (zg3 W c g n) hm.1 fun x hx=>hl x (I2 _ hx)
  omega
theorem Ls(n w:Int)(h0:0<=n)(h1:n<=100):0<=Z9 n w/\Z9 n w<=Qn:=by
 by_cases h:1<=w/\w<=20
 ·rw[TT h0 Qo h.1 h.2];have hs:=Cw h.1 h.2;refine⟨Int.mul_nonneg h0 Qo,?_⟩
  calc n*zc3 w<=100*zc3 w:=Int.mul_le_mul_of_nonneg_right h1 Qo
   _<=100*232792560:=Int.mul_le_mul_of_nonneg_left hs.2 Qd
   _<=Qn:=Qd
 ·rw[Lu Qo]; exact⟨I3 _,Qd⟩
theorem zmb{b:Jj}(h:VK b){c n:Int}(c0:0<=c)(c1:c<(b.locals.length:Int)):VK (YI b ⟨2,c,n⟩).1/\(YI b ⟨2,c,n⟩).1.locals.length=b.locals.length/\(YI b ⟨2,c,n⟩).1.I'=b.I'/\XM (YI b ⟨2,c,n⟩).1 c=XM b c:=by
 have e:YI b ⟨2,c,n⟩=Tr b c n:=by
  unfold YI;rw[C' (show ¬(2:Int)=4 by decide),C' (by rw[Qt.2 (by show 0<=c/\c<=_; omega)]; decide),C' (show ¬(2:Int)=1 by decide),E' rfl]
 rw[e];obtain⟨a,b',d⟩:=zc0 h (n:=n) c0 c1;exact⟨a,b',d,zng c0 c1⟩
structure zrf (K S c n:Int) (W W':Q7):Prop where
 sw:SW K W'
 rb:RB S W'
 now:W'.now=W.now
 t:W'.tasks=W.tasks
 cp:W'.IE=W.IE
 g:QX W.ID W'.ID
 p:∀i:Int,0<=i->XM (gi W'.ID i).IT c=XM (gi W.ID i).IT c
theorem zil{K S c n:Int}{W:Q7}(sw:SW K W)(rb:RB S W)(hS:S+n<=100000000000000000)(c0:0<=c)(c1:c<(W.IE.length:Int)){g:Int}(hu:Q6 W.ID g=true)(n0:0<=n)(n1:n<=100):zrf (K+Qn) (S+n) c n W (NX W c n g):=by
 obtain⟨u0,u1,hg⟩:=sw.a.u hu;have bW:=sw.a.gl;have hsl:=sw.a.sl hu;have hsr:=sw.s g c hu c0 c1;have hv:=Ls n (Qc W g c).w n0 n1;have hlg:0<=Qn:=Qd;have ea:∀{i:Int},0<=i->gi (Kk W c n g).ID i=if g=i then { gi W.ID g with IF:=(gi W.ID g).IF.set c.toNat (N9 W c n g) } else gi W.ID i:=fun hi=>Ym u0 Qo hi
 have eg:∀i:Int,0<=i->gi (NX W c n g).ID i=if g=i then { gi W.ID g with IF:=(gi W.ID g).IF.set c.toNat (N9 W c n g),sum:=(gi W.ID g).sum+n,IT:=zb2 W c n g } else gi W.ID i:=fun i hi=>by
  have zO:g<((Rp (Kk W c n g) g (Fd W c n g)).ID.length:Int):=by
   have:(Rp (Kk W c n g) g (Fd W c n g)).ID.length=W.ID.length:=by simp[Rp,Kk,RM]
   rw[this]; omega
  have hl2:g<((Kk W c n g).ID.length:Int):=by
   have:(Kk W c n g).ID.length=W.ID.length:=by simp[Rp,Kk,RM]
   rw[this]; omega
  unfold NX WQ;rw[Ym u0 zO hi,Ym u0 hl2 hi,Ym u0 hl2 u0,E' rfl,ea hi];split
  ·unfold Fd;rw[ea u0,E' rfl]
  ·rfl
 have es:∀i d:Int,0<=i->0<=d->Qc (NX W c n g) i d=if g=i/\c=d then N9 W c n g else Qc W i d:=fun i d hi hd=>by
  rw[<-Jf (W:=W) (s:=N9 W c n g) u0 Qo c0 Qo hi hd];unfold Qc;show gi (gi (NX W c n g).ID i).IF d=gi (gi (Kk W c n g).ID i).IF d;rw[eg i hi,ea hi]
  split <;> rfl
 have hT:QX W.ID (NX W c n g).ID:=by
  have t1:=Xu (W:=W) (g:=g) (c:=c) (s:=N9 W c n g) u0 Qo;have t2:=Jg (W:=Kk W c n g) (g:=g) (x:=Fd W c n g) u0 (by show g<((Kk W c n g).ID.length:Int); rw[show (Kk W c n g).ID.length=W.ID.length from t1.len]; omega) rfl rfl rfl;have t3:=Jg (W:=Rp (Kk W c n g) g (Fd W c n g)) (g:=g) (x:={ gi (Rp (Kk W c n g) g (Fd W c n g)).ID g with IT:=zb2 W c n g }) u0 (by rw[t2.len,show (Kk W c n g).ID.length=W.ID.length from t1.len]; omega) rfl rfl rfl;exact(t1.trans t2).trans t3
 have hB:(zb2 W c n g).I'=(gi W.ID g).IT.I'/\XM (zb2 W c n g) c=XM (gi W.ID g).IT c/\((gi W.ID g).IT.I'=0->zb2 W c n g=(gi W.ID g).IT)/\((gi W.ID g).IT.I'≠0->VK (zb2 W c n g)/\(zb2 W c n g).locals.length=W.IE.length):=by
  unfold zb2;split
  ·rename_i hq;obtain⟨hb,hbl,_⟩:=hg.IT Qo;obtain⟨a,b,d,e⟩:=zmb hb (n:=n) c0 Qo;exact⟨d,e,fun h=>by omega,fun _=>⟨a,by rw[b]; exact hbl⟩⟩
  ·rename_i hq;refine⟨rfl,rfl,fun _=>rfl,fun h=>?_⟩;obtain⟨hb,hbl,_⟩:=hg.IT h;exact⟨hb,hbl⟩
 have hrg:=rb.g g hu
 have hW:WA (NX W c n g):=by
  have hl:=sw.a;refine⟨hl.n1,hl.n2,hl.c1,hl.c2,hl.t,hT.tree hl.tree,hl.ups,fun k k0 k1=>?_⟩;unfold Pt;rw[eg k k0];split
  ·rename_i e;subst e;refine⟨fun h=>?_,fun _=>⟨hg.w1,hg.w2,hg.m,hg.m0,Y2.2 ⟨by show 0<=(gi W.ID g).sum+n; omega,by show (gi W.ID g).sum+n<=_; omega⟩,by show (List.set _ _ _).length=_; rw[H']; exact hg.len,fun h=>⟨(hg.root h).1,(hg.root h).2.1,by show (zb2 W c n g).I'=0; rw[hB.1]; exact(hg.root h).2.2⟩,fun h=>?_,fun h=>?_⟩⟩
   ·have h:(gi W.ID g).used=false:=h;rw[(Q5.1 hu).2.2] at h; cases h
   ·have h:(zb2 W c n g).I'=0:=h;rw[hB.1] at h;have:=hg.none h;exact⟨by show Tl (zb2 W c n g)=true; rw[hB.2.2.1 h]; exact this.1,this.2⟩
   ·have h:(zb2 W c n g).I'≠0:=h;rw[hB.1] at h;obtain⟨_,_,hp⟩:=hg.IT h;exact⟨(hB.2.2.2 h).1,(hB.2.2.2 h).2,hp⟩
  ·have:=hl.grp k k0 k1;exact⟨this.1,fun hu=>by have:=this.2 hu; exact⟨this.w1,this.w2,this.m,this.m0,this.s,this.len,this.root,this.none,this.IT⟩⟩
 refine⟨⟨hW,fun t a b m=>?_,fun t a b=>?_,fun k d u a b=>?_,sw.cu⟩,⟨rb.n,fun t a b=>?_,fun k d u a b=>?_,fun k u=>?_,fun d a b=>?_⟩,rfl,rfl,rfl,hT,fun i hi=>?_⟩
 ·rw[hT.dT]; exact sw.t t a b m
 ·have:=sw.tv t a b;exact⟨this.1,by show (Q8 W t).v<=_; omega⟩
 ·rw[hT.dT] at u;have hk:=(Q5.1 u).1;have h:=sw.s k d u a b;rw[es k d hk a];split
  ·refine⟨hsr.1,by show (Qc W g c).floor<=_; omega,?_,?_,hsr.2.2.2.2.1,hsr.2.2.2.2.2⟩
   ·show 0<=if g≠0 then (Qc W g c).v+Z9 n (Qc W g c).w else (Qc W g c).v
    split <;> omega
   ·show (if g≠0 then (Qc W g c).v+Z9 n (Qc W g c).w else (Qc W g c).v)<=_
    split <;> omega
  ·exact⟨h.1,Qo,h.2.2.1,Qo,h.2.2.2.2.1,h.2.2.2.2.2⟩
 ·have:=rb.t t a b;exact⟨this.1,by show (Q8 W t).sum<=_; omega,this.2.2.1,by show (Q8 W t).used<=_; omega⟩
 ·rw[hT.dT] at u;have hk:=(Q5.1 u).1;have h:=rb.s k d u a b;rw[es k d hk a];split
  ·have h2:=rb.s g c hu c0 c1;exact⟨by show 0<=(Qc W g c).sum+n; omega,by show (Qc W g c).sum+n<=_; omega⟩
  ·exact⟨h.1,Qo⟩
 ·rw[hT.dT] at u;have h:=rb.g k u;rw[eg k (Q5.1 u).1];split
  ·exact⟨by show 0<=(gi W.ID g).sum+n; omega,by show (gi W.ID g).sum+n<=_; omega⟩
  ·exact⟨h.1,Qo⟩
 ·have:=rb.c d a b;exact⟨this.1,by show (gi W.IE d).busy<=_; omega,this.2.2.1,this.2.2.2.1,this.2.2.2.2⟩
 ·rw[eg i hi];split
  ·rename_i e; subst e; exact hB.2.1
  ·rfl
theorem RB.mono{S S':Int}{W:Q7}(h:RB S W)(k:S<=S'):RB S' W:=
 ⟨h.n,fun t a b=>by have:=h.t t a b; omega,fun k c u a b=>by have:=h.s k c u a b; omega,fun k u=>by have:=h.g k u; omega,fun c a b=>by have:=h.c c a b; omega⟩
theorem RB.RW{S:Int}{W:Q7}(h:RB S W){c:Int}(c0:0<=c)(c1:c<(W.IE.length:Int)){x:Pf}(hx:0<=x.busy/\x.busy<=S/\0<=x.idle/\x.idle<=50000000000000000/\0<=x.WS/\x.WS<=149):RB S (RW W c x):=by
 have hl:(W.IE.set c.toNat x).length=W.IE.length:=H';refine⟨h.n,h.t,fun k d u a b=>?_,h.g,fun d a b=>?_⟩
 ·have b:d<(((W.IE.set c.toNat x).length:Nat):Int):=b;rw[hl] at b;exact h.s k d u a b
 ·have b:d<(((W.IE.set c.toNat x).length:Nat):Int):=b;rw[hl] at b;show _<=(gi (W.IE.set c.toNat x) d).busy/\(gi (W.IE.set c.toNat x) d).busy<=_/\_<=(gi (W.IE.set c.toNat x) d).idle/\(gi (W.IE.set c.toNat x) d).idle<=_/\_<=(gi (W.IE.set c.toNat x) d).WS/\(gi (W.IE.set c.toNat x) d).WS<=_;rw[QC _ _ c0 c1 a];split
  ·exact hx
  ·exact h.c d a b
theorem RB.IU{S:Int}{W:Q7}(h:RB S W)(hl:W.tasks.length=12){t:Int}(t0:0<=t)(t1:t<12){x:Pi}(hx:0<=x.sum/\x.sum<=S/\0<=x.used/\x.used<=S):RB S (IU W t x):=by
 refine⟨h.n,fun u a b=>?_,h.s,h.g,h.c⟩;show _<=(gi (W.tasks.set t.toNat x) u).sum/\(gi (W.tasks.set t.toNat x) u).sum<=_/\_<=(gi (W.tasks.set t.toNat x) u).used/\(gi (W.tasks.set t.toNat x) u).used<=_;rw[QC _ _ t0 Qo a];split
 ·exact hx
 ·exact h.t u a b
theorem zrf.trans{K S K' S' c n:Int}{A B C:Q7}(h:zrf K S c n A B)(k:zrf K' S' c n B C):zrf K' S' c n A C:=
 ⟨k.sw,k.rb,k.now.trans h.now,k.t.trans h.t,k.cp.trans h.cp,h.g.trans k.g,fun i hi=>(k.p i hi).trans (h.p i hi)⟩
theorem zoq{c n:Int}(c0:0<=c)(n0:0<=n)(n1:n<=100):∀(l:List Int) {K S:Int} {W:Q7},SW K W->RB S W->S+100*(l.length:Int)<=100000000000000000->c<(W.IE.length:Int)->(∀g∈l,Q6 W.ID g=true)->
  zrf (K+Qn*(l.length:Int)) (S+100*(l.length:Int)) c n W (zdy c n l W)
 | [],K,S,W,sw,rb,_,_,_=>⟨sw.mono Qs,rb.mono Qs,rfl,rfl,rfl,QX.refl _,fun _ _=>rfl⟩
 | g::l,K,S,W,sw,rb,hS,c1,hu=>by
  rw[List.length_cons] at hS ⊢;have h1:=zil sw rb Qo c0 c1 (hu g Ia) n0 n1;have h2:=zoq c0 n0 n1 l (W:=NX W c n g) h1.sw (h1.rb.mono (show S+n<=S+100 by omega)) Qo (by rw[h1.cp]; exact c1) fun x hx=>by rw[h1.g.dT]; exact hu x (I2 _ hx)
  have h3:=h1.trans h2;exact⟨h3.sw.mono (by simp only[Qn]; omega),h3.rb.mono Qo,h3.now,h3.t,h3.cp,h3.g,h3.p⟩
theorem ztd{W W':Q7}{c:Int}(h:∀i:Int,0<=i->XM (gi W'.ID i).IT c=XM (gi W.ID i).IT c):Kc W' c=Kc W c:=
 Nat.le_antisymm (Lj (fun k _=>Nat.le_of_eq (h k Qo)) 8 (I8 _)) (Lj (fun k _=>Nat.le_of_eq (h k Qo).symm) 8 (I8 _))
theorem Nj{W:Q7}(ha:WA W){t:Int}(hu:Q6 W.ID (Q8 W t).group=true):(∀g∈YF W t,Q6 W.ID g=true)/\(YF W t).length<=4:=by
 refine⟨fun g hg=>?_,?_⟩
 ·rcases Io.1 hg with h | h
  ·exact(Yu ha.tree _ hu g h).1
  ·rw[IA.1 h]; exact ha.root
 ·have:=Ce W.ID 3 (Q8 W t).group;unfold YF;rw[Ip];show (U2 3 W.ID (Q8 W t).group).length+1<=4;omega
theorem zfc{W W':Q7}(ht:W'.tasks=W.tasks)(hT:QX W.ID W'.ID)(t:Int):YF W' t=YF W t:=by
 unfold YF;rw[XN ht,VE hT]
def Dg(f:Nat):Int:=Qj+(400-(f:Int))*346860914400
def EX(f:Nat):Int:=Qj+(400-(f:Int))*500
structure CJ (f:Nat) (c:Int) (W0 W:Q7) (left:Int):Prop where
 sw:SW (Dg f) W
 rb:RB (EX f) W
 dm:Dm W c
 c0:0<=c
 c1:c<(W.IE.length:Int)
 up:(gi W.IE c).up=true
 now:W.now=W0.now
 len:W.IE.length=W0.IE.length
 l0:0<=left
 l1:left<=100
 f1:left+Kc W c<(f:Int)
 f2:f<=400
theorem Dh{f:Nat}(h:f<=400):Qj<=Dg f/\Dg f<=50200000000000000:=by
 unfold Dg Qj; omega
theorem zff{f:Nat}(h:f<=400):Qj<=EX f/\EX f<=50000000000200000:=by
 unfold EX Qj; omega
theorem zjq{W:Q7}(wp:XA W)(r:PM W){c n:Int}(c0:0<=c)(c1:c<(W.IE.length:Int))(up:(gi W.IE c).up=true)(n0:0<=n)(n1:n<=100):CJ 400 c W W n:=by
 have hp:=zte W c;exact⟨(P8 wp r).mono (by unfold Dg; omega),(zww wp r).mono (by unfold EX; omega),zwf wp c0 c1,c0,c1,up,rfl,rfl,n0,n1,Qo,I8 _⟩
theorem Dp{K S:Int}{c t:Int}{W:Q7}(sw:SW K W)(rb:RB S W)(c0:0<=c)(c1:c<(W.IE.length:Int))(up:(gi W.IE c).up=true)(t0:0<=t)(t1:t<12) :
  SW K (YP W c t)/\RB S (YP W c t)/\(gi (YP W c t).IE c).up=true/\(gi (YP W c t).IE c).WS<50/\(gi (YP W c t).IE c).cur=t/\(YP W c t).IE.length=W.IE.length:=by
 have e:gi (YP W c t).IE c=Yg W c t:=(QC _ _ c0 c1 c0).trans (E' rfl);have hl:(YP W c t).IE.length=W.IE.length:=H';have hup:(Yg W c t).up=true:=by unfold Yg; split <;> exact up
 have hr:=rb.c c c0 c1;have hcu:=sw.cu c c0 c1;refine⟨sw.RW c0 c1 (F9 (c:=c) (by rw[H']; exact sw.a.c2) c0 (by rw[H']; exact c1) (by rw[show gi (W.IE.set c.toNat (Yg W c t)) c=_ from e]; exact hup)) ?_ ?_,rb.RW c0 c1 ?_,by rw[e]; exact hup,?_,?_,hl⟩
 ·unfold Yg; split
  ·show -1<=t; omega
  ·exact hcu.1
 ·unfold Yg; split
  ·exact t1
  ·exact hcu.2
 ·unfold Yg; split
  ·exact⟨hr.1,hr.2.1,hr.2.2.1,hr.2.2.2.1,by show (0:Int)<=0; decide,by show (0:Int)<=149; decide⟩
  ·exact hr
 ·rw[e];unfold Yg; split
  ·show (0:Int)<50; decide
  ·omega
 ·rw[e];unfold Yg; split
  ·rfl
  ·rename_i h;exact Ir fun hn=>h (.inl fun e=>hn e.symm)
structure zxd (f:Nat) (c:Int) (W0 W:Q7) (left:Int):Prop where
 line:zj9 W (Qr W c) c
 us:Q6 W.ID (Q8 W (Qr W c)).group=true
 pin:∀g∈YF W (Qr W c),Q6 W.ID g=true
 len:(YF W (Qr W c)).length<=4
 s1:SW (Dg (f+1)) (YP W c (Qr W c))
 r1:RB (EX (f+1)) (YP W c (Qr W c))
 WS:(gi (YP W c (Qr W c)).IE c).WS<50
 tk:zn6 (Dg (f+1)) c (YP W c (Qr W c)) (YL W c).1
 dr:∀g∈YF W (Qr W c),(gi (YP W c (Qr W c)).ID g).IT.I'≠0->gi (gi (YP W c (Qr W c)).ID g).IT.RI c=false
 m:(YL W c).2=true->1<=Ud W c left/\Ud W c left<=left
 ch:(YL W c).2=true->SW (Dg (f+1)+5*Qn) (OF (YL W c).1 c (Qr W c) (Ud W c left))/\RB (EX (f+1)+500) (OF (YL W c).1 c (Qr W c) (Ud W c left))
 nx:CJ f c W0 (De W c left).1 (De W c left).2
 gt:QX W.ID (De W c left).1.ID
theorem zdz{K S c t n:Int}{W:Q7}(sw:SW K W)(rb:RB S W)(hS:S+500<=100000000000000000)(c0:0<=c)(c1:c<(W.IE.length:Int))(up:(gi W.IE c).up=true)(WS:(gi W.IE c).WS<50)(t0:0<=t)(t1:t<12)(hu:Q6 W.ID (Q8 W t).group=true)(n0:0<=n)(n1:n<=100) :
  SW (K+5*Qn) (OF W c t n)/\RB (S+500) (OF W c t n)/\Kc (OF W c t n) c=Kc W c/\(OF W c t n).now=W.now/\(OF W c t n).IE.length=W.IE.length/\(gi (OF W c t n).IE c).up=true/\SW (K+Qn) (IU W t (Kl W t n))/\RB (S+100) (IU W t (Kl W t n))/\zrf (K+5*Qn) (S+500) c n (IU W t (Kl W t n)) (zdy c n (YF W t) (IU W t (Kl W t n))):=by
 have hv:=Ls n (Qf (Q8 W t).nice) n0 n1;have hlg:0<=Qn:=Qd;have htv:=sw.tv t t0 t1;have htr:=rb.t t t0 t1;have hcr:=rb.c c c0 c1;obtain⟨hp1,mS⟩:=Nj sw.a hu;have s1:SW (K+Qn) (IU W t (Kl W t n)):=(sw.mono (K':=K+Qn) Qo).IU t0 t1 (x:=Kl W t n) (fun h=>sw.t t t0 t1 h) (by show 0<=(Q8 W t).v+Z9 n (Qf (Q8 W t).nice); omega) (by show (Q8 W t).v+Z9 n (Qf (Q8 W t).nice)<=_; omega);have r1:RB (S+100) (IU W t (Kl W t n)):=(rb.mono (S':=S+100) Qo).IU sw.a.t t0 t1 (x:=Kl W t n) ⟨by show 0<=(Q8 W t).sum+n; omega,by show (Q8 W t).sum+n<=_; omega,by show 0<=(Q8 W t).used+n; omega,by show (Q8 W t).used+n<=_; omega⟩;have h0:=zoq c0 n0 n1 (YF W t) s1 r1 Qo c1 hp1;have h2:zrf (K+5*Qn) (S+500) c n (IU W t (Kl W t n)) (zdy c n (YF W t) (IU W t (Kl W t n))):=⟨h0.sw.mono (by simp only[Qn]; omega),h0.rb.mono Qo,h0.now,h0.t,h0.cp,h0.g,h0.p⟩;have kP:(zdy c n (YF W t) (IU W t (Kl W t n))).IE=W.IE:=h2.cp
 have e:gi (OF W c t n).IE c=zkl W c n:=by
  show gi ((zdy c n (YF W t) (IU W t (Kl W t n))).IE.set c.toNat (zkl W c n)) c=_;rw[kP];exact(QC _ _ c0 c1 c0).trans (E' rfl)
 have hlen:(OF W c t n).IE.length=W.IE.length:=by
  show ((zdy c n (YF W t) (IU W t (Kl W t n))).IE.set c.toNat (zkl W c n)).length=_;rw[H',kP]
 have hcu:=sw.cu c c0 c1;refine⟨h2.sw.RW c0 (by rw[kP]; exact c1) (x:=zkl W c n) (F9 (c:=c) ?_ c0 ?_ ?_) hcu.1 hcu.2,h2.rb.RW c0 (by rw[kP]; exact c1) (x:=zkl W c n) ⟨by show 0<=(gi W.IE c).busy+n; omega,by show (gi W.IE c).busy+n<=_; omega,hcr.2.2.1,hcr.2.2.2.1,by show 0<=(gi W.IE c).WS+n; omega,by show (gi W.IE c).WS+n<=149; omega⟩,ztd (W':=OF W c t n) h2.p,h2.now,hlen,by rw[e]; exact up,s1,r1,h2⟩
 ·rw[H',kP]; exact sw.a.c2
 ·rw[H',kP]; exact c1
 ·rw[show gi ((zdy c n (YF W t) (IU W t (Kl W t n))).IE.set c.toNat (zkl W c n)) c=_ from e]; exact up
theorem Cq{K S c:Int}{W:Q7}(sw:SW K W)(rb:RB S W)(hK:0<=K)(c0:0<=c)(c1:c<(W.IE.length:Int))(up:(gi W.IE c).up=true) :
  SW (K+UV) (Qh W)/\RB S (Qh W)/\Dm (Qh W) c/\(gi (Qh W).IE c).up=true/\(Qh W).now=W.now/\(Qh W).IE.length=W.IE.length/\Kc (Qh W) c<=Kc W c:=by
 obtain⟨s,f⟩:=Tq sw hK;have su:=zjz W;exact⟨s,rb.sum su f.g f.c,znn sw hK c0 c1,by rw[su.u]; exact up,f.n,f.c,zjf sw hK c⟩
theorem zjp{f:Nat}{c left:Int}{W0 W:Q7}(h:CJ (f+1) c W0 W left)(hl:0<left)(hp:¬Qr W c<0):zxd f c W0 W left:=by
 have hf:=h.f2;have hh0:(0:Int)<=Qj:=Qd;have hK:=Dh (f:=f+1) hf;have hS:=zff (f:=f+1) hf;have c0:=h.c0;have c1:=h.c1;have eK:Dg f=Dg (f+1)+346860914400:=by unfold Dg; omega
 have eS:EX f=EX (f+1)+500:=by unfold EX; omega
 have mR:=znh h.sw.a (h.sw.cu c c0 c1).2 h.dm.cu hp;have hM:Ud W c left=AN (YL W c).1 c (YF W (Qr W c)) left:=rfl;have hT:YL W c=zc8 c (YF W (Qr W c)) (YP W c (Qr W c)):=rfl;have hR:De W c left=if (YL W c).2=true then (Qh (OF (YL W c).1 c (Qr W c) (Ud W c left)),left-Ud W c left) else (Qh (RC (YL W c).1 c),left):=rfl;have t0:=mR.t0;have t1:=mR.t1;obtain⟨us,_,_⟩:=h.sw.t _ t0 t1 (by rw[mR.st]; decide);obtain⟨pin,CI8⟩:=Nj h.sw.a us;obtain⟨s1,r1,u1,CZ6,cu1,l1⟩:=Dp h.sw h.rb c0 c1 h.up t0 t1
 have hdr:∀g∈YF W (Qr W c),(gi (YP W c (Qr W c)).ID g).IT.I'≠0->gi (gi (YP W c (Qr W c)).ID g).IT.RI c=false:=fun g hg hq=>by
  have hq:(gi W.ID g).IT.I'≠0:=hq;show gi (gi W.ID g).IT.RI c=false;have hug:=pin g hg;obtain⟨u0,u8,kQ⟩:=h.sw.a.u hug;rcases Io.1 hg with hg | hg
  ·have hon:=mR.on g hg;have hz:=(Yu h.sw.a.tree _ us g hg).2;have:=h.dm.on g hug hz;unfold V6 at this;rw[hon] at this
   have hd:V4 W g c=false:=by
    cases hd:V4 W g c with
    | false=>rfl
    | true=>rw[hd] at this; simp at this
   unfold V4 at hd;have:=(kQ.IT hq).1.q1;rw[Ii Qo,Bool.true_and] at hd;exact hd
  ·rw[IA.1 hg] at hq kQ;exact Is (kQ.root rfl).2.2 hq
 obtain⟨tk,tl,tf⟩:=zq7 c0 (YF W (Qr W c)) s1 (by rw[l1]; exact c1) pin hdr;rw[<-hT] at tk tl tf;have eT:(YL W c).1.tasks=W.tasks:=tk.o.t;have eC:(YL W c).1.IE=(YP W c (Qr W c)).IE:=tk.o.c;have eG:QX W.ID (YL W c).1.ID:=tk.o.g;have lT:(YL W c).1.IE.length=W.IE.length:=by rw[eC,l1]
 have rT:RB (EX (f+1)) (YL W c).1:=r1.sum tk.su tk.o.g (by rw[eC]);have uT:Q6 (YL W c).1.ID (Q8 (YL W c).1 (Qr W c)).group=true:=by rw[eG.dT,XN eT]; exact us
 have pT:YF (YL W c).1 (Qr W c)=YF W (Qr W c):=zfc eT eG _;have upT:(gi (YL W c).1.IE c).up=true:=by rw[eC]; exact u1
 have BQ9:(gi (YL W c).1.IE c).WS<50:=by rw[eC]; exact CZ6
 have phT:Kc (YL W c).1 c<=Kc W c:=Lj (fun k _=>tk.p (k:Int) Qo) 8 (I8 _)
 have hm:(YL W c).2=true->1<=Ud W c left/\Ud W c left<=left:=fun ht=>by
  refine zcg _ left Qo fun g hg hq=>?_
  have g0:=(Q5.1 (pin g hg)).1;rw[tk.q g g0] at hq;exact tl ht g hg Qo
 have zO:=h.l1;have hch:(YL W c).2=true->_:=fun ht=>zdz (t:=Qr W c) (n:=Ud W c left) tk.sw rT Qo c0 (by rw[lT]; exact c1) upT BQ9 t0 t1 uT (by have:=hm ht; omega) (by have:=hm ht; omega)
 refine⟨mR,us,pin,CI8,s1,r1,CZ6,tk,hdr,hm,fun ht=>⟨(hch ht).1,(hch ht).2.1⟩,?_,?_⟩
 rotate_left
 ·rw[hR]
  by_cases ht:(YL W c).2=true
  ·rw[E' ht];have a:=(hch ht).1;have g1:QX (YL W c).1.ID (OF (YL W c).1 c (Qr W c) (Ud W c left)).ID:=(hch ht).2.2.2.2.2.2.2.2.g;exact(eG.trans g1).trans (Tq a (by simp only[Qn]; omega)).2.g
  ·rw[C' ht];have g1:QX (YL W c).1.ID (RC (YL W c).1 c).ID:=QX.refl _;exact(eG.trans g1).trans (Tq (tk.sw.RC c0 (by rw[lT]; exact c1)) Qo).2.g
 rw[hR];have hf1:=h.f1
 by_cases ht:(YL W c).2=true
 ·rw[E' ht];obtain⟨a,b,d,e1,e2,e3,_⟩:=hch ht;obtain⟨b1,b2,b3,b4,b5,b6,b7⟩:=Cq a b (by simp only[Qn]; omega) c0 (by rw[e2,lT]; exact c1) e3;have hm:=hm ht
  exact⟨b1.mono (by simp only[Qn,UV]; omega),b2.mono Qo,b3,c0,by rw[b6,e2,lT]; exact c1,b4,by rw[b5,e1,tk.o.n]; exact h.now,by rw[b6,e2,lT]; exact h.len,by show 0<=left-Ud W c left; omega,by show left-Ud W c left<=100; omega,by
   rw[d] at b7;show left-Ud W c left+((Kc (Qh (OF (YL W c).1 c (Qr W c) (Ud W c left))) c:Nat):Int)<_;omega,Qo⟩
 ·rw[C' ht];have ht:(YL W c).2=false:=by simpa using ht
  obtain⟨g,hg,IQ⟩:=tf ht;have g0:=Q5.1 (pin g hg);have bW:=h.sw.a.gl
  have hp1:Kc (YL W c).1 c<Kc W c:=by
   refine zlg (fun k _=>tk.p (k:Int) Qo) (j:=g.toNat) ?_ 8 Qo (I8 _);rw[show ((g.toNat:Nat):Int)=g by omega];exact IQ
  have ce:c<((YL W c).1.IE.length:Int):=by rw[lT]; exact c1
  have sE:=tk.sw.RC c0 ce;have eE:gi (RC (YL W c).1 c).IE c=Xx (gi (YL W c).1.IE c):=(QC _ _ c0 ce c0).trans (E' rfl);have lE:(RC (YL W c).1 c).IE.length=(YL W c).1.IE.length:=H';obtain⟨b1,b2,b3,b4,b5,b6,b7⟩:=Cq sE (rT.sum (zlx _ c) (QX.refl _) lE) Qo c0 (by rw[lE]; exact ce) (by rw[eE]; exact upT)
  exact⟨b1.mono (by simp only[Qn,UV]; omega),b2.mono Qo,b3,c0,by rw[b6,lE]; exact ce,b4,by rw[b5]; show (YL W c).1.now=_; rw[tk.o.n]; exact h.now,by rw[b6,lE,lT]; exact h.len,h.l0,h.l1,by
   have b7:Kc (Qh (RC (YL W c).1 c)) c<=Kc (YL W c).1 c:=b7;show left+((Kc (Qh (RC (YL W c).1 c)) c:Nat):Int)<_;omega,Qo⟩
theorem zup{b:Jj}{c:Int}(c0:0<=c)(c1:c<(b.locals.length:Int)):YI b ⟨1,c,0⟩=YG b c:=by
 unfold YI;rw[C' (show ¬(1:Int)=4 by decide),C' (by rw[Qt.2 (by show 0<=c/\c<=_; omega)]; decide),E' rfl]
theorem zeh{α:Type}[Inhabited α]{l:List α}{k:Nat}(h:k<l.length):l.drop k=gi l (k:Int)::l.drop (k+1):=by
 rw[List.drop_eq_getElem_cons h]
 congr 1
 unfold gi;rw[Ih,List.getD_eq_getElem?_getD,Im h]; rfl
theorem zei{α:Type}[Inhabited α]{l:List α}{k:Nat}(h:k<l.length):gi l (k:Int)∈l:=by
 have:=List.getElem_mem h;unfold gi;rw[Ih,List.getD_eq_getElem?_getD,Im h]; exact this
theorem zhz{c g:Int}{l:List Int}{W:Q7}:zc8 c (g::l) W=if (Nn W c g).2=true then zc8 c l (Nn W c g).1 else ((Nn W c g).1,false):=rfl
section
variable {base:Nat}{W:Q7}{m:MW}{w:Wo}
theorem P4{pb n:Nat}{l:List Int}{pO:OA}{pC:Nat}{w2:Wo}{bs:List Nat}{V:Q7}{m2:MW}(hp:XU YR 1 Qb pb w pO pC l)(hpn:∀x∈Qy pO,x∉QD n m)(hM:Mv n base bs w m w2 V m2):XU YR 1 Qb pb w2 pO pC l/\zka bs w2 pO l:=by
 have h:=hp.ext hM.ext hpn
 exact⟨h,h.rd ZO.len fun x hx hm=>by
  have:=(hp.lt x hx).2;have:=hM.new x hm;omega⟩
theorem Mv.put{n:Nat}{bs:List Nat}{w0 w w':Wo}{m0:MW}{b:Nat}(h:Mv n base bs w0 m0 w W m)(hx:Q0 bs w w')(hb:w.heap.size<=b):Mv n base (bs++[b]) w0 m0 w' W m:=(h.add hb).step (hx.mono fun x hm=>Ib _ hm)
theorem za2{K c:Int}{l:List Int}{pO:OA}{pC pb:Nat}(h:Y8 8 base w W m)(sw:SW K W)(sG:base<=w.heap.size)(hp:XU YR 1 Qb pb w pO pC l)(hpn:∀x∈Qy pO,x∉QD 8 m)(hl4:l.length<=4)(c0:0<=c)(c1:c<(W.IE.length:Int))(hu:∀g∈l,Q6 W.ID g=true)(hd:∀g∈l,(gi W.ID g).IT.I'≠0->gi (gi W.ID g).IT.RI c=false) :
  Cz OR #[.agg (Qa W m).toArray,.slice pO l.length pC,I c] w fun e w'=>∃m',e=.returned (.tuple #[.agg (Qa W m).toArray,.bool (zc8 c l W).2])/\Mv 8 base [] w m w' (zc8 c l W).1 m':=by
 refine(zak _ _ _ _ _ _ _ _ _ _ pO l.length pC c (R:=fun v w'=>∃m',v=.tuple #[.agg (Qa W m).toArray,.bool (zc8 c l W).2]/\Mv 8 base [] w m w' (zc8 c l W).1 m') ?_).mono fun e w' ⟨v,he,m',hv,h3⟩=>⟨m',by rw[he,hv],h3⟩
 intro x hx x1 So;have bW:=sw.a.gl;have oA:=Yv hx So
 refine⟨fun vs w2=>∃(k:Nat) (r:List Va) (V:Q7) (m2:MW),vs=I (k:Int)::r/\k<=l.length/\Mv 8 base [x,x1] w m w2 V m2/\zc8 c l W=zc8 c (l.drop k) V/\SW K V/\Vb W V/\∀g∈l.drop k,(gi V.ID g).IT.I'≠0->gi (gi V.ID g).IT.RI c=false,
  Zo l.length 0,fun wr Rm _=>⟨0,_,W,m,rfl,Ie _,(Mv.two h hx So).R4 Rm,rfl,sw,Vb.refl _,hd⟩,?_⟩
 rintro i1 ll RZ Sa Sh S9 Sf Sg S4 S5 S7 w2 SY ⟨k,r,V,m2,he,hk,cX,hE,swV,oV,hdV⟩;simp only[I5,I6,true_and] at he;obtain⟨rfl,_⟩:=he;have hmg:m2.gO=m.gO:=by rw[cX.hd]
 have hr:=cX.rd;have CF1:V.ID.length=8:=swV.a.gl;obtain⟨_,hpr⟩:=P4 hp hpn cX;refine⟨fun IQ=>?_,fun RH=>?_⟩
 ·have CT2:=Ot IQ;have IQ:k<l.length:=Qo;have hdr:=zeh IQ;have kQ:=hu _ (zei IQ);rw[hdr] at hE hdV;have hug:Q6 V.ID (gi l (k:Int))=true:=by rw[oV.g.dT]; exact kQ
  have nX:=hpr (k:Int) Qo Qo;have AD9:=hpr.ix Vg (i:=(k:Int)) Qo Qo;have hdk:=hdV _ Ia;generalize rO:gi l (k:Int)=g at hE hdV hug nX hdk kQ hdr;obtain⟨u0,u1,hgg⟩:=swV.a.u hug;have RU:g<(V.ID.length:Int):=Qo;have Wz:Ix m.gO W.ID.length g:=by have:=hr.g.ix (i:=g) u0 RU; rwa[CF1,<-bW,hmg] at this
  have AI9:=hr.g.cells g u0 RU;rw[hmg] at AI9;refine⟨AD9,g,nX,Wz,_,_,_,_,_,_,_,_,_,_,_,_,_,_,_,_,_,_,_,_,AI9,fun b4 hb4=>⟨AI9,nX,rfl,fun g1=>?_,fun g1=>?_⟩⟩
  ·have g1:(gi V.ID g).IT.I'=0:=by simpa using g1
   have hT:Nn V c g=(V,true):=by unfold Nn; rw[E' g1]
   rw[zhz,hT,E' rfl] at hE;exact⟨⟨Qo,Qo⟩,fun wr Rm _=>⟨⟨k+1,_,V,m2,by simp; rfl,Qo,cX.step Rm,hE,swV,oV,fun y hy=>hdV y (I2 _ hy)⟩,QS (k:=k) rfl rfl IQ⟩⟩
  ·have g1:(gi V.ID g).IT.I'≠0:=by simpa using g1
   obtain⟨hb,hbl,_⟩:=hgg.IT g1;have BM5:c<(V.IE.length:Int):=by rw[oV.c]; exact c1
   have qW:c<((gi V.ID g).IT.locals.length:Int):=Qo;intro Rt Rm fU;have mF:=cX.put Rm hb4;have hr4:=mF.rd0;refine I4 (Jb (op:=⟨1,c,0⟩) hb (hr4.g.locals g u0 RU) (hr4.g.RI g u0 RU)) ?_;rintro e Rx ⟨p,he,hO,hy⟩;rw[zup c0 qW] at he hO;have hM5:=mF.R4 hy;have hbs:base<=Rt.heap.size:=by have:=mF.ext.size; omega
   have hOb:∀y∈Zz p,Rt.heap.size<=y:=fun y hy=>(hO.lt y hy).1
   have BN3:=hM5.own.B29 (i:=g) u0 Qo (hO.mono hbs) (fun y hy hm=>by have:=hOb y hy; have:=(mF.own.lt y hm).2; omega);have uJ:=CE hM5.own hM5.nb (i:=g) u0 Qo (j:=8) (k:=5) Qd;have mH:=mF.ext.size
   have hM6:=hM5.swap BN3 Dq rfl fun y hy=>by
    rcases V0 y hy with h1 | h1
    ·exact .inl h1
    ·rcases Tp y h1 with h2 | h2
     ·have:=hOb y h2;exact .inr ⟨Qo,fun hm=>by have:=fU y hm; omega⟩
     ·exact .inl (JL Qo h2)
   rw[hmg] at uJ;have hgO:m2.gO=m.gO:=hmg;rw[hgO] at hM6;obtain⟨_,Ct4⟩:=P4 hp hpn hM5;have CU3:=Ct4 (k:Int) Qo Qo;rw[rO] at CU3;have hTk:Nn V c g=(WQ V g (YG (gi V.ID g).IT c).1,decide ((YG (gi V.ID g).IT c).2≠2)):=by unfold Nn; rw[C' g1]
   obtain⟨tk,t2,_⟩:=zq6 swV c0 BM5 hug hdk;rw[zhz] at hE;refine⟨_,_,_,_,_,_,_,_,_,_,he,Qe hy fU,fun b5 hb5=>⟨AD9,g,CU3,Wz,uJ,fun g2 Sn cU=>?_,fun g2=>⟨⟨Qo,Qo⟩,fun Sn cU zW=>⟨⟨k+1,_,WQ V g (YG (gi V.ID g).IT c).1,_,by simp; rfl,Qo,(hM6.step cU).Bf0 Qs,?_,?_,?_,fun y hy hq=>?_⟩,QS (k:=k) rfl rfl IQ⟩⟩⟩⟩
   ·have g2:(YG (gi V.ID g).IT c).2=2:=by simpa using g2
    have:(Nn V c g).2=false:=by rw[hTk]; simp[g2]
    rw[hE,this,C' Qd,hTk];exact⟨_,rfl,(hM6.step cU).close⟩
   all_goals
    have g2:(YG (gi V.ID g).IT c).2≠2:=by simpa using g2
    have ht2:(Nn V c g).2=true:=by rw[hTk]; simp[g2]
    have hT1:(Nn V c g).1=WQ V g (YG (gi V.ID g).IT c).1:=by rw[hTk]
   ·rw[hE,E' ht2,hT1]
   ·rw[<-hT1]; exact tk.sw
   ·rw[<-hT1]; exact oV.trans tk.o
   ·have y0:=(Q5.1 (hu y (List.mem_of_mem_drop hy))).1;rw[<-hT1] at hq ⊢;rw[tk.q y y0] at hq;exact(t2 ht2).2 y y0 (hdV y (I2 _ hy)) hq
 ·have RH:=Ou RH;have uG:k=l.length:=Qo;subst uG;rw[List.drop_length] at hE;rw[hE];exact fun w3 Rm=>⟨m2,rfl,(cX.step Rm).close⟩
theorem zaz{c n:Int}{l:List Int}{pO:OA}{pC:Nat}{bs:List Nat}(h:Xb bs w W m)(ha:WA W)(hp:zka bs w pO l)(hl4:l.length<=4)(c0:0<=c)(c1:c<(W.IE.length:Int))(hu:∀g∈l,Q6 W.ID g=true) :
  PX bs OP #[.agg (Qa W m).toArray,.slice pO l.length pC,I c,I n] w (I (AN W c l n)):=
 zbo _ _ _ _ _ _ _ _ _ _ pO l.length pC c n fun wr hx=>by
  have h:=(h.ext hx).less (cs:=[]) Qs;have hp:=(hp.ext hx).less (cs:=[]) Qs;intro _ _;refine TN l.length 0 rfl (fun y k=>k<=l.length/\AN W c l n=AN W c (l.drop k) y) ⟨Ie _,rfl⟩ fun y k ⟨hk,hy⟩=>⟨fun IQ=>?_,fun RH=>?_⟩
  ·have CT2:=Ot IQ;have IQ:k<l.length:=Qo;have hdr:=zeh IQ;have kQ:=hu _ (zei IQ);rw[hdr] at hy;have nX:=hp (k:Int) Qo Qo;generalize gi l (k:Int)=g at hy nX kQ;obtain⟨u0,u1,hgg⟩:=ha.u kQ;have bW:=ha.gl;have hyy:AN W c (g::l.drop (k+1)) y=AN W c (l.drop (k+1)) (zg3 W c g y):=rfl;rw[hyy] at hy;refine⟨hp.ix Vg (i:=(k:Int)) Qo Qo,g,nX,h.g.ix u0 Qo,_,_,_,_,_,_,_,_,_,h.g.IT u0 Qo,fun b1 eY=>⟨h.g.IT u0 Qo,nX,rfl,fun g1=>?_,fun g1=>?_⟩⟩
   ·have g1:=Ot g1;obtain⟨hb,hbl,_⟩:=hgg.IT Qo;have hLo:=h.g.locals g u0 Qo;refine⟨hLo.ix Vg c0 Qo,_,hLo c c0 Qo,_,XY,⟨Qo,Qo⟩,QF Qo ⟨Qo,?_⟩⟩;rw[hy]; unfold zg3; rw[E' g1]
   ·have g1:=Ou g1;refine⟨⟨Qo,Qo⟩,QF Qo ⟨Qo,?_⟩⟩;rw[hy]; unfold zg3; rw[C' g1]
  ·have RH:=Ou RH;have:k=l.length:=Qo;subst this;rw[List.drop_length] at hy;show I y=_;rw[hy]; rfl
end
theorem zf5{c n g:Int}{l:List Int}{W:Q7}:zdy c n (g::l) W=zdy c n l (NX W c n g):=rfl
theorem L8(W:Q7)(c n g:Int):(Kk W c n g).ID.length=W.ID.length:=by simp[Kk,RM,Rp]
theorem zik{W:Q7}{c n g:Int}(u0:0<=g)(u1:g<(W.ID.length:Int)):gi (Kk W c n g).ID g={ gi W.ID g with IF:=(gi W.ID g).IF.set c.toNat (N9 W c n g) }:=by
 unfold Kk RM;rw[Ym u0 u1 u0,E' rfl]
theorem zim{W:Q7}{c n g:Int}(u0:0<=g)(u1:g<(W.ID.length:Int)):gi (Rp (Kk W c n g) g (Fd W c n g)).ID g=Fd W c n g:=by
 rw[Ym u0 (by rw[L8]; exact u1) u0,E' rfl]
theorem NY{W:Q7}{c n g:Int}(u0:0<=g)(u1:g<(W.ID.length:Int)):(Fd W c n g).IT=(gi W.ID g).IT:=by
 unfold Fd;rw[zik u0 u1]
theorem zf4{W:Q7}{c n g:Int}(u0:0<=g)(u1:g<(W.ID.length:Int))(h:¬(gi W.ID g).IT.I'>0):NX W c n g=Rp (Kk W c n g) g (Fd W c n g):=by
 unfold NX zb2;rw[C' h,<-NY (c:=c) (n:=n) u0 u1];have:=zim (c:=c) (n:=n) u0 u1
 conv=>lhs; arg 3; rw[<-this]
 exact zjr u0 (by simp only[Rp,H']; rw[L8]; exact u1)
section
variable {base:Nat}{W:Q7}{m:MW}{w:Wo}
theorem BK{K S t c n:Int}{pO:OA}{pC pb:Nat}(h:Y8 8 base w W m)(sG:base<=w.heap.size)(hp:XU YR 1 Qb pb w pO pC (YF W t))(hpn:∀x∈Qy pO,x∉QD 8 m)(sw:SW K W)(rb:RB S W)(hK:0<=K/\K<=60000000000000000)(hS:0<=S/\S<=60000000000000000)(c0:0<=c)(c1:c<(W.IE.length:Int))(up:(gi W.IE c).up=true)(WS:(gi W.IE c).WS<50)(t0:0<=t)(t1:t<12)(hu:Q6 W.ID (Q8 W t).group=true)(n0:0<=n)(n1:n<=100) :
  Cz Tg #[.agg (Qa W m).toArray,I t,.slice pO (YF W t).length pC,I c,I n] w fun e w'=>∃m',e=.returned (.agg (Qa (Qh (OF W c t n)) m').toArray)/\Mv 8 base [] w m w' (Qh (OF W c t n)) m':=by
 obtain⟨sE,rE,_,_,hlE,_,s1,r1,cp1⟩:=zdz sw rb Qo c0 c1 up WS t0 t1 hu n0 n1;obtain⟨pin,CI8⟩:=Nj sw.a hu;refine(Bo _ _ _ _ _ _ _ _ _ _ t pO (YF W t).length pC c n (R:=fun v w'=>∃m',v=.agg (Qa (Qh (OF W c t n)) m').toArray/\Mv 8 base [] w m w' (Qh (OF W c t n)) m') ?_).mono fun e w' ⟨v,he,m',hv,h3⟩=>⟨m',by rw[he,hv],h3⟩
 intro x hx x1 So;have bW:=sw.a.gl;have jV:=sw.a.t;have hlg:Qn=34686091440:=rfl;have bH:=h.rd (bs:=[]) Qs;have Wz:=bH.t.ix QL t0 Qo;have htv:=sw.tv t t0 t1;have htr:=rb.t t t0 t1;have hv:=Ls n (Qf (Q8 W t).nice) n0 n1;refine⟨Wz,_,_,_,_,_,_,_,_,_,bH.t t t0 Qo,fun x2 R6=>⟨_,ZH,_,X7,⟨?_,?_⟩,⟨?_,?_⟩,⟨?_,?_⟩,Wz,zfv h Qs t0 Qo (j:=0) Qd,?_⟩⟩
 ·show _<=(Q8 W t).v+Z9 n (Qf (Q8 W t).nice); omega
 ·show (Q8 W t).v+Z9 n (Qf (Q8 W t).nice)<=_; omega
 ·show _<=(Q8 W t).sum+n; omega
 ·show (Q8 W t).sum+n<=_; omega
 ·show _<=(Q8 W t).used+n; omega
 ·show (Q8 W t).used+n<=_; omega
 have eT:Y8 8 base (RD w m.tO (Int.toNat t*9) (YT (Kl W t n))) (IU W t (Kl W t n)) m:=h.AE6 t0 Qo (j:=0) (vs:=YT (Kl W t n)) (x:=Kl W t n) (by simp[YT]) (by simp[YT]);have hM1:Mv 8 base [x,x1,x2] w m (RD w m.tO (Int.toNat t*9) (YT (Kl W t n))) (IU W t (Kl W t n)) m:=((Mv.two h hx So).add R6).SX eT LO
 refine⟨fun vs w2=>∃(k:Nat) (V:Q7) (m2:MW),vs=[I (k:Int)]/\k<=(YF W t).length/\Mv 8 base [x,x1,x2] w m w2 V m2/\zdy c n (YF W t) (IU W t (Kl W t n))=zdy c n ((YF W t).drop k) V/\zrf (K+Qn+Qn*(k:Int)) (S+100+100*(k:Int)) c n (IU W t (Kl W t n)) V,
  Zo (YF W t).length 0,fun wr Rm _=>⟨0,_,m,rfl,Ie _,hM1.R4 Rm,rfl,⟨s1.mono Qs,r1.mono Qs,rfl,rfl,rfl,QX.refl _,fun _ _=>rfl⟩⟩,?_⟩
 rintro i1 w2 SY ⟨k,V,m2,he,hk,cX,hE,hC⟩;simp only[I5,I6,true_and,and_true] at he;subst he;have hkk:0<=Qn*(k:Int)/\Qn*(k:Int)<=138744365760:=by simp only[Qn]; omega
 have hk1:Qn*((k+1:Nat):Int)=Qn*(k:Int)+Qn:=by simp only[Qn]; omega
 have hmg:m2.gO=m.gO:=by rw[cX.hd]
 have hmc:m2.cO=m.cO:=by rw[cX.hd]
 have hr:=cX.rd;have CF1:V.ID.length=8:=hC.sw.a.gl;have BM5:V.IE.length=W.IE.length:=by rw[hC.cp]; rfl
 obtain⟨_,hpr⟩:=P4 hp hpn cX;refine⟨fun IQ=>?_,fun RH=>?_⟩
 ·have CT2:=Ot IQ;have IQ:k<(YF W t).length:=Qo;have hdr:=zeh IQ;have kQ:=pin _ (zei IQ);rw[hdr,zf5] at hE;have hug:Q6 V.ID (gi (YF W t) (k:Int))=true:=by rw[hC.g.dT]; exact kQ
  have nX:=hpr (k:Int) Qo Qo;have AD9:=hpr.ix Vg (i:=(k:Int)) Qo Qo;generalize rO:gi (YF W t) (k:Int)=g at hE hug nX kQ hdr;have hC2:=hC.trans (zil hC.sw hC.rb Qo c0 (by rw[BM5]; exact c1) hug n0 n1);have hC3:zrf (K+Qn+Qn*((k+1:Nat):Int)) (S+100+100*((k+1:Nat):Int)) c n (IU W t (Kl W t n)) (NX V c n g):=⟨hC2.sw.mono Qo,hC2.rb.mono Qo,hC2.now,hC2.t,hC2.cp,hC2.g,hC2.p⟩;obtain⟨u0,u1,hgg⟩:=hC.sw.a.u hug;have RU:g<(V.ID.length:Int):=Qo;have hsl:=hC.sw.a.sl hug;have hcs:c<((gi V.ID g).IF.length:Int):=Qo;have BN1:Ix m.gO W.ID.length g:=by have:=hr.g.ix (i:=g) u0 RU; rwa[CF1,<-bW,hmg] at this
  have AI9:=hr.g.cells g u0 RU;rw[hmg] at AI9;have hss:=hr.g.IF g u0 RU;have hsc:=hss c c0 hcs;have CF5:=hss.ix ZK c0 hcs;have hsv:=hC.sw.s g c hug c0 (by rw[BM5]; exact c1);have hsr:=hC.rb.s g c hug c0 (by rw[BM5]; exact c1);have hgr:=hC.rb.g g hug;have hv2:=Ls n (Qc V g c).w n0 n1;refine⟨AD9,g,nX,BN1,_,_,_,_,_,_,_,_,_,_,_,_,_,_,_,_,_,_,_,_,AI9,fun b3 hb3=>⟨AI9,nX,rfl,CF5,_,_,_,_,_,hsc,fun b4 hb4=>⟨AD9,g,nX,?_⟩⟩⟩
  have eA:∀s:K0,s=N9 V c n g->Y8 8 base (RD w2 (m2.ms g.toNat).sO (Int.toNat c*5) (PS s)) (Kk V c n g) m2:=fun s hs=>by
   subst hs;exact cX.own.BR1 u0 Qo c0 hcs (j:=0) (vs:=PS (N9 V c n g)) (x:=N9 V c n g) (by simp[PS]) (by simp[PS])
  have CW1:=zuf cX.own cX.nb (i:=g) u0 Qo c0 hcs (j:=0) (k:=5) Qd;have CH0:=hr.g.S3 (i:=g) u0 RU;rw[hmg] at CH0;refine⟨fun g1=>?_,fun g1=>?_⟩
  ·have g1:g≠0:=by simpa using g1
   have hs:(⟨(Qc V g c).floor,(Qc V g c).on,(Qc V g c).v+Z9 n (Qc V g c).w,(Qc V g c).w,(Qc V g c).sum+n⟩:K0)=N9 V c n g:=by unfold N9; rw[E' g1]
   have eA:=eA _ hs;refine⟨_,X7,⟨?_,?_⟩,⟨?_,?_⟩,AD9,g,nX,BN1,_,_,_,CH0,CF5,CW1,AD9,g,?_,⟨?_,?_⟩,BN1,?_,?_⟩
   ·show _<=(Qc V g c).v+Z9 n (Qc V g c).w; omega
   ·show (Qc V g c).v+Z9 n (Qc V g c).w<=_; omega
   ·show _<=(Qc V g c).sum+n; omega
   ·show (Qc V g c).sum+n<=_; omega
   ·have:=(P4 hp hpn (cX.SX eA (N3 Qo))).2 (k:Int) Qo Qo;rw[rO] at this;exact this
   ·show _<=(gi V.ID g).sum+n; omega
   ·show (gi V.ID g).sum+n<=_; omega
   ·have:=CE eA cX.nb (i:=g) u0 Qo (j:=7) (k:=1) Qd;rw[hmg] at this;exact this
   have vA:=((cX.add hb3).add hb4).SX eA (N3 Qo);have eU:=eA.BE3 (i:=g) u0 Qo (g:=Fd V c n g) rfl rfl rfl (j:=7) (vs:=[I ((gi V.ID g).sum+n)]) (by unfold Fd; rw[zik u0 RU]; rfl) Qs;have mF:=vA.SX eU Dq;rw[hmg] at mF;have mF:Mv 8 base [x,x1,x2,b3,b4] w m _ (Rp (Kk V c n g) g (Fd V c n g)) m2:=mF;have hgb:=NY (c:=c) (n:=n) u0 RU;have hgi:=zim (c:=c) (n:=n) u0 RU;have hl5:(Rp (Kk V c n g) g (Fd V c n g)).ID.length=V.ID.length:=by simp only[Rp,H']; exact L8 _ _ _ _
   have AO8:=zf4 (c:=c) (n:=n) u0 RU;have aL:NX V c n g=WQ (Rp (Kk V c n g) g (Fd V c n g)) g (zb2 V c n g):=rfl;generalize Rp (Kk V c n g) g (Fd V c n g)=V5 at mF hgi hl5 AO8 aL;refine⟨fun g2 R2 Rm gZ=>?_,fun g2=>⟨⟨Qo,Qo⟩,fun R2 Rm _=>⟨⟨k+1,NX V c n g,m2,Qs,Qo,?_,hE,hC3⟩,QS (k:=k) rfl rfl IQ⟩⟩⟩
   ·have g2:(gi V.ID g).IT.I'>0:=Ot g2;have hB:zb2 V c n g=(YI (gi V.ID g).IT ⟨2,c,n⟩).1:=by unfold zb2; rw[E' g2]
    rw[hB] at aL;obtain⟨hb,hbl,_⟩:=hgg.IT Qo;have hM6:Mv 8 base [x,x1,x2,b3,b4] w m R2 V5 m2:=mF.step (Rm.mono fun y hy=>by simp only[Ij,List.not_mem_nil,or_false] at hy ⊢; rcases hy with h | h | h <;> simp[h]);have hr6:=hM6.rd0;have hg5:g<(V5.ID.length:Int):=by rw[hl5]; exact RU
    have hLo:=hr6.g.locals g u0 hg5;have hDo:=hr6.g.RI g u0 hg5;rw[hgi,hgb] at hLo hDo;refine I4 (Jb (op:=⟨2,c,n⟩) hb hLo hDo) ?_;rintro e Rx ⟨p,he,hO,hy⟩;have hM7:=hM6.R4 hy;have hbs:base<=R2.heap.size:=by have:=hM6.ext.size; omega
    have hOb:∀y∈Zz p,R2.heap.size<=y:=fun y hy=>(hO.lt y hy).1
    have BN3:=hM7.own.B29 (i:=g) u0 Qo (hO.mono hbs) (fun y hy hm=>by have:=hOb y hy; have:=(hM6.own.lt y hm).2; omega);have uJ:=CE hM7.own hM7.nb (i:=g) u0 Qo (j:=8) (k:=5) Qd;have mH:=hM6.ext.size
    have hM8:=hM7.swap BN3 Dq rfl fun y hy=>by
     rcases V0 y hy with h1 | h1
     ·exact .inl h1
     ·rcases Tp y h1 with h2 | h2
      ·have:=hOb y h2;exact .inr ⟨Qo,fun hm=>by have:=gZ y hm; omega⟩
      ·exact .inl (JL Qo h2)
    rw[hmg] at uJ hM8;rw[<-aL] at hM8;have Br5:=(P4 hp hpn hM7).2 (k:Int) Qo Qo;rw[rO] at Br5;exact⟨_,_,_,_,_,_,_,_,_,_,he,Qe hy gZ,fun b5 hb5=>⟨AD9,g,Br5,BN1,uJ,⟨Qo,Qo⟩,fun Sn cU _=>⟨⟨k+1,NX V c n g,_,Qs,Qo,(hM8.step cU).Bf0 Qs,hE,hC3⟩,QS (k:=k) rfl rfl IQ⟩⟩⟩
   ·have g2:¬(gi V.ID g).IT.I'>0:=Ou g2;rw[AO8 g2];exact(mF.Bf0 (cs:=[x,x1,x2]) (fun y hy=>by simp only[Ij,List.not_mem_nil,or_false] at hy ⊢; rcases hy with h | h | h <;> simp[h])).step Rm
  ·have g1:¬g≠0:=by simpa using g1
   have hs:(⟨(Qc V g c).floor,(Qc V g c).on,(Qc V g c).v,(Qc V g c).w,(Qc V g c).sum+n⟩:K0)=N9 V c n g:=by unfold N9; rw[C' g1]
   have eA:=eA _ hs;refine⟨⟨?_,?_⟩,AD9,g,nX,BN1,_,_,_,CH0,CF5,CW1,AD9,g,?_,⟨?_,?_⟩,BN1,?_,?_⟩
   ·show _<=(Qc V g c).sum+n; omega
   ·show (Qc V g c).sum+n<=_; omega
   ·have:=(P4 hp hpn (cX.SX eA (N3 Qo))).2 (k:Int) Qo Qo;rw[rO] at this;exact this
   ·show _<=(gi V.ID g).sum+n; omega
   ·show (gi V.ID g).sum+n<=_; omega
   ·have:=CE eA cX.nb (i:=g) u0 Qo (j:=7) (k:=1) Qd;rw[hmg] at this;exact this
   have vA:=((cX.add hb3).add hb4).SX eA (N3 Qo);have eU:=eA.BE3 (i:=g) u0 Qo (g:=Fd V c n g) rfl rfl rfl (j:=7) (vs:=[I ((gi V.ID g).sum+n)]) (by unfold Fd; rw[zik u0 RU]; rfl) Qs;have mF:=vA.SX eU Dq;rw[hmg] at mF;have mF:Mv 8 base [x,x1,x2,b3,b4] w m _ (Rp (Kk V c n g) g (Fd V c n g)) m2:=mF;have hgb:=NY (c:=c) (n:=n) u0 RU;have hgi:=zim (c:=c) (n:=n) u0 RU;have hl5:(Rp (Kk V c n g) g (Fd V c n g)).ID.length=V.ID.length:=by simp only[Rp,H']; exact L8 _ _ _ _
   have AO8:=zf4 (c:=c) (n:=n) u0 RU;have aL:NX V c n g=WQ (Rp (Kk V c n g) g (Fd V c n g)) g (zb2 V c n g):=rfl;generalize Rp (Kk V c n g) g (Fd V c n g)=V5 at mF hgi hl5 AO8 aL;refine⟨fun g2 R2 Rm gZ=>?_,fun g2=>⟨⟨Qo,Qo⟩,fun R2 Rm _=>⟨⟨k+1,NX V c n g,m2,Qs,Qo,?_,hE,hC3⟩,QS (k:=k) rfl rfl IQ⟩⟩⟩
   ·have g2:(gi V.ID g).IT.I'>0:=Ot g2;have hB:zb2 V c n g=(YI (gi V.ID g).IT ⟨2,c,n⟩).1:=by unfold zb2; rw[E' g2]
    rw[hB] at aL;obtain⟨hb,hbl,_⟩:=hgg.IT Qo;have hM6:Mv 8 base [x,x1,x2,b3,b4] w m R2 V5 m2:=mF.step (Rm.mono fun y hy=>by simp only[Ij,List.not_mem_nil,or_false] at hy ⊢; rcases hy with h | h | h <;> simp[h]);have hr6:=hM6.rd0;have hg5:g<(V5.ID.length:Int):=by rw[hl5]; exact RU
    have hLo:=hr6.g.locals g u0 hg5;have hDo:=hr6.g.RI g u0 hg5;rw[hgi,hgb] at hLo hDo;refine I4 (Jb (op:=⟨2,c,n⟩) hb hLo hDo) ?_;rintro e Rx ⟨p,he,hO,hy⟩;have hM7:=hM6.R4 hy;have hbs:base<=R2.heap.size:=by have:=hM6.ext.size; omega
    have hOb:∀y∈Zz p,R2.heap.size<=y:=fun y hy=>(hO.lt y hy).1
    have BN3:=hM7.own.B29 (i:=g) u0 Qo (hO.mono hbs) (fun y hy hm=>by have:=hOb y hy; have:=(hM6.own.lt y hm).2; omega);have uJ:=CE hM7.own hM7.nb (i:=g) u0 Qo (j:=8) (k:=5) Qd;have mH:=hM6.ext.size
    have hM8:=hM7.swap BN3 Dq rfl fun y hy=>by
     rcases V0 y hy with h1 | h1
     ·exact .inl h1
     ·rcases Tp y h1 with h2 | h2
      ·have:=hOb y h2;exact .inr ⟨Qo,fun hm=>by have:=gZ y hm; omega⟩
      ·exact .inl (JL Qo h2)
    rw[hmg] at uJ hM8;rw[<-aL] at hM8;have Br5:=(P4 hp hpn hM7).2 (k:Int) Qo Qo;rw[rO] at Br5;exact⟨_,_,_,_,_,_,_,_,_,_,he,Qe hy gZ,fun b5 hb5=>⟨AD9,g,Br5,BN1,uJ,⟨Qo,Qo⟩,fun Sn cU _=>⟨⟨k+1,NX V c n g,_,Qs,Qo,(hM8.step cU).Bf0 Qs,hE,hC3⟩,QS (k:=k) rfl rfl IQ⟩⟩⟩
   ·have g2:¬(gi V.ID g).IT.I'>0:=Ou g2;rw[AO8 g2];exact(mF.Bf0 (cs:=[x,x1,x2]) (fun y hy=>by simp only[Ij,List.not_mem_nil,or_false] at hy ⊢; rcases hy with h | h | h <;> simp[h])).step Rm
 ·have RH:=Ou RH;have uG:k=(YF W t).length:=Qo;subst uG;rw[List.drop_length] at hE;have hE:zdy c n (YF W t) (IU W t (Kl W t n))=V:=hE;have hcV:V.IE=W.IE:=hC.cp;have cV:c<(V.IE.length:Int):=by rw[BM5]; exact c1
  have AO6:Ix m.cO W.IE.length c:=by have:=hr.c.ix Y0 c0 cV; rwa[BM5,hmc] at this
  have hcr:=rb.c c c0 c1;have e1:=cX.own.Ag2 c0 cV (j:=3) (vs:=[I ((gi W.IE c).busy+n)]) (x:={ gi W.IE c with busy:=(gi W.IE c).busy+n }) (by rw[hcV]; rfl) Qs;have zO:(V.IE.set c.toNat { gi W.IE c with busy:=(gi W.IE c).busy+n }).length=V.IE.length:=H';have hg1:gi (V.IE.set c.toNat { gi W.IE c with busy:=(gi W.IE c).busy+n }) c={ gi W.IE c with busy:=(gi W.IE c).busy+n }:=(QC _ _ c0 cV c0).trans (E' rfl);have e2:=e1.Ag2 c0 (by simpa using cV) (j:=2) (vs:=[I ((gi W.IE c).WS+n)]) (x:=zkl W c n) (by rw[hg1]; rfl) Qs;have hb:=hr.c.f c0 cV (j:=3) rfl;have vE:=zn1 cX.own cX.nb c0 cV (j:=3) (k:=1) Qd;have vA:=cX.SX e1 zbt;have hrn:=vA.rd.c.f c0 (by show c<((V.IE.set c.toNat { gi W.IE c with busy:=(gi W.IE c).busy+n }).length:Int); rw[zO]; exact cV) (j:=2) rfl;have hw2:=zn1 e1 cX.nb c0 (by show c<((V.IE.set c.toNat { gi W.IE c with busy:=(gi W.IE c).busy+n }).length:Int); rw[zO]; exact cV) (j:=2) (k:=1) Qd;rw[hmc] at hb vE hrn hw2;rw[hcV] at hb;rw[show gi ({ V with IE:=V.IE.set c.toNat { gi W.IE c with busy:=(gi W.IE c).busy+n } }:Q7).IE c=_ from hg1] at hrn;have mF:=vA.SX e2 zbt
  have hW4:({ V with IE:=(V.IE.set c.toNat { gi W.IE c with busy:=(gi W.IE c).busy+n }).set c.toNat (zkl W c n) }:Q7)=OF W c t n:=by
   unfold OF RW;rw[hE,List.set_set]
  rw[hmc] at mF;have mF:Mv 8 base [x,x1,x2] w m _ ({ V with IE:=(V.IE.set c.toNat { gi W.IE c with busy:=(gi W.IE c).busy+n }).set c.toNat (zkl W c n) }:Q7) m2:=mF;rw[hW4] at mF;refine⟨AO6,_,hb,⟨?_,?_⟩,AO6,vE,AO6,_,hrn,⟨?_,?_⟩,AO6,hw2,fun SO lY hs7=>?_⟩
  ·show _<=(gi W.IE c).busy+n; omega
  ·show (gi W.IE c).busy+n<=_; omega
  ·show _<=(gi W.IE c).WS+n; omega
  ·show (gi W.IE c).WS+n<=_; omega
  have hM7:=mF.step lY;have mH:=hM7.ext.size;have Rn:=Qu hM7.own sE Qo Qo Qo;rw[show Qa (OF W c t n) m2=Qa W m from hM7.AK9 (by rw[show (OF W c t n).now=V.now from by rw[<-hW4]]; exact hC.now) hlE (by rw[<-hW4,show ({ V with IE:=(V.IE.set c.toNat { gi W.IE c with busy:=(gi W.IE c).busy+n }).set c.toNat (zkl W c n) }:Q7).tasks=V.tasks from rfl,hC.t]; simp[IU]) (by rw[<-hW4]; exact hC.g.len)] at Rn;refine I4 Rn ?_;rintro e wv ⟨m3,he,hy⟩;exact⟨_,_,_,_,_,_,_,_,_,_,he,hM7.kept hy hs7,fun W8 rH=>⟨m3,rfl,((hM7.call hy hs7).step rH).close⟩⟩
end
theorem zi8{Q:Nat->Prop}(h:∃f,Q f):∃f,Q f/\∀g,Q g->f<=g:=by
 obtain⟨f,hf⟩:=h
 induction f using Nat.strongRecOn with
 | ind f ih=>
  by_cases h:∃g,g<f/\Q g
  ·obtain⟨g,hg,hq⟩:=h;exact ih g hg hq
  ·exact⟨f,hf,fun g hq=>Nat.le_of_not_lt fun IQ=>h ⟨g,IQ,hq⟩⟩
open Classical in
noncomputable def zi7(Q:Nat->Prop):Nat:=if h:∃f,Q f then (zi8 h).choose else 0
theorem zm5{Q:Nat->Prop}(h:∃f,Q f):Q (zi7 Q):=by
 unfold zi7;rw[dif_pos h];exact(zi8 h).choose_spec.1
theorem zs0{Q:Nat->Prop}{f:Nat}(h:Q f):zi7 Q<=f:=by
 unfold zi7;rw[dif_pos ⟨f,h⟩];exact(zi8 ⟨f,h⟩).choose_spec.2 f h
noncomputable def Df(W:Q7)(c n:Int):Int:=if Yx n 1 100=false\/Xf W c=false then 1 else if (gi W.IE c).up=false then 6 else if QH W=false then 10 else 0
def znk(W:Q7)(c n:Int):Q7:=Ck c 400 W n
theorem zhi{c:Int}{f:Nat}{W:Q7}{left:Int}(h:left<=0):Ck c (f+1) W left=Qh W:=by
 rw[Ck,E' h]
theorem zct{c:Int}{f:Nat}{W:Q7}{left:Int}(h:¬left<=0)(hp:Qr W c<0):Ck c (f+1) W left=Qh (RC (RW W c (Ky W c left)) c):=by
 rw[Ck,C' h,E' hp]
theorem zcu{c:Int}{f:Nat}{W:Q7}{left:Int}(h:¬left<=0)(hp:¬Qr W c<0):Ck c (f+1) W left=Ck c f (De W c left).1 (De W c left).2:=by
 rw[Ck,C' h,C' hp]
theorem zqp{W:Q7}{c n:Int}(hW:Qx W=true)(hb:Df W c n=0):Yx n 1 100=true/\Xf W c=true/\(gi W.IE c).up=true/\QH W=true/\CJ 400 c W W n:=by
 unfold Df at hb
 split at hb
 ·cases hb
 ·rename_i h1
  split at hb
  ·cases hb
  ·rename_i h2
   split at hb
   ·cases hb
   ·rename_i h3
    have h1a:Yx n 1 100=true:=by
     cases h:Yx n 1 100 with
     | true=>rfl
     | false=>exact Is (.inl h) h1
    have h1b:Xf W c=true:=by
     cases h:Xf W c with
     | true=>rfl
     | false=>exact Is (.inr h) h1
    have h2:(gi W.IE c).up=true:=by simpa using h2
    have h3:QH W=true:=by simpa using h3
    obtain⟨c0,c1⟩:=Tt h1b;have:=Qt.1 h1a;exact⟨h1a,h1b,h2,h3,zjq (Qi.1 hW) (Qi.1 h3) c0 c1 h2 Qo Qo⟩
theorem zqn{f:Nat}{c left:Int}{W0 W:Q7}(h:CJ f c W0 W left):∃g,f=g+1:=by
 have h1:=h.f1;have h2:=h.l0;exact⟨f-1,Qo⟩
theorem zpa{f:Nat}{c left:Int}{W0 W:Q7}(h:CJ f c W0 W left):SW (Dg f) (RC (RW W c (Ky W c left)) c)/\SW (Dg f) (RW W c (Ky W c left))/\0<=(gi W.IE c).idle+left/\(gi W.IE c).idle+left<=60000000000000000:=by
 have c0:=h.c0;have c1:=h.c1;have hcu:=h.sw.cu c c0 c1;have hl0:=h.l0;have zO:=h.l1;have hr:=h.rb.c c c0 c1;have s1:SW (Dg f) (RW W c (Ky W c left)):=h.sw.RW c0 c1 (F9 (c:=c) (by rw[H']; exact h.sw.a.c2) c0 (by rw[H']; exact c1) (by rw[show gi (W.IE.set c.toNat (Ky W c left)) c=Ky W c left from (QC _ _ c0 c1 c0).trans (E' rfl)]; exact h.up)) hcu.1 hcu.2;exact⟨s1.RC c0 (by show c<((W.IE.set c.toNat (Ky W c left)).length:Int); rw[H']; exact c1),s1,Qo,Qo⟩
section
variable {W:Q7}{m:MW}{w:Wo}
def zl5(y y1:Nat)(w0:Wo)(c n:Int)(W:Q7)(f:Nat)(vs:List Va)(w2:Wo):Prop:=
 ∃(V:Q7) (m2:MW) (left:Int),vs=I left::Qa V m2/\Wk 8 [y,y1] w0 w2 V m2/\CJ f c W V left/\Ck c f V left=znk W c n
theorem BE{c n:Int}(h:Xb [] w W m)(hl:Xh W) :
  Cz Ta #[.agg (Qa W m).toArray,I c,I n] w fun e w'=>∃v,e=.returned v/\QJ (Yp W (Df W c n) (znk W c n)) w v w':=by
 refine Bi _ _ _ _ _ _ _ _ _ _ c n (R:=fun v w'=>QJ (Yp W (Df W c n) (znk W c n)) w v w') ?_;intro y hy y1 cY;have hm0:=XJ;have sJ:=hl.c;refine⟨_,JH h hl.c hl.t hl.g hl.f,fun g wr hx=>QJ.bad (by simpa using g) hx,fun g wr R6 SY=>?_⟩;have hW:Qx W=true:=by simpa using g
 have wp:=Qi.1 hW;refine I4 (Ov (h.ext R6) wp.a) ?_;rintro e wv ⟨m',he,hM,SL⟩;have hK:=Wk.begin hy cY R6 SY hM SL;have hr:=hK.rd;refine⟨_,_,_,_,_,_,_,_,_,_,he,Qe SL SY,_,Qm,fun _=>⟨Qo,Qo⟩,Xf W c,fun _=>Qm,fun g R2 Rm=>?_,fun g=>?_⟩
 ·have hb:Df W c n=1:=by
   unfold Df; rw[E']
   simpa using g
  exact QJ.no hW (by rw[hb]; decide) (hK.step Rm) hb
 have g:Yx n 1 100=true/\Xf W c=true:=by simpa using g
 have hn1:¬(Yx n 1 100=false\/Xf W c=false):=by rw[g.1,g.2]; simp
 obtain⟨c0,c1⟩:=Tt g.2;have hro:=Tj hr hl;refine⟨hr.c.ix Y0 c0 c1,_,hr.c.f c0 c1 (j:=0) rfl,fun g2 R2 Rm=>?_,fun g2=>⟨_,hro,fun g3 R2 Rm=>?_,fun g3=>?_⟩⟩
 ·have hb:Df W c n=6:=by unfold Df; rw[C' hn1,E' (by simpa using g2)]
  exact QJ.no hW (by rw[hb]; decide) (hK.step Rm) hb
 ·have g2:(gi W.IE c).up=true:=by simpa using g2
  have bH:¬QH W=true:=fun hr=>by
   rw[show XQ (XA W/\PM W)=true from Qi.2 ⟨wp,Qi.1 hr⟩] at g3;cases g3
  have hb:Df W c n=10:=by unfold Df; rw[C' hn1,C' (by rw[g2]; decide),E' (by simpa using bH)]
  exact QJ.no hW (by rw[hb]; decide) (hK.step Rm) hb
 have g2:(gi W.IE c).up=true:=by simpa using g2
 have bH:QH W=true:=by
  have hd:XQ (XA W/\PM W)=true:=by simpa using g3
  exact Qi.2 (Qi.1 hd).2
 have hb:Df W c n=0:=by unfold Df; rw[C' hn1,C' (by rw[g2]; decide),C' (by rw[bH]; decide)]
 obtain⟨_,_,_,_,hI0⟩:=zqp hW hb;refine⟨fun vs _ w2=>∃(V:Q7) (m2:MW) (K:Int),vs=Qa V m2/\Wk 8 [y,y1] w w2 V m2/\SW K V/\0<=K/\K<=60000000000000000/\Qh V=znk W c n,?_,?_⟩
 ·refine⟨fun vs w2=>∃f,zl5 y y1 w c n W f vs w2,fun vs w2=>zi7 fun f=>zl5 y y1 w c n W f vs w2,fun wr Rm _=>⟨400,W,m',n,rfl,hK.step Rm,hI0,rfl⟩,?_⟩;intro left l0 RZ Sa Sh S9 Sf Sg S4 S5 S7 w2 gZ hinv;obtain⟨f0,hf0⟩:∃f0,f0=zi7 fun f=>zl5 y y1 w c n W f [I left,I l0,.slice RZ Sa Sh,.slice S9 Sf Sg,.slice S4 S5 S7] w2:=⟨_,rfl⟩
  have hS:=zm5 hinv;simp only[<-hf0] at hS ⊢;clear hf0 hinv;obtain⟨V,m2,C69,hv,gV,hI,hN⟩:=hS;simp only[Qa,I5,I6,Iw,true_and,and_true] at hv;obtain⟨rfl,rfl,⟨rfl,rfl,rfl⟩,⟨rfl,rfl,rfl⟩,rfl,rfl,rfl⟩:=hv;obtain⟨f,rfl⟩:=zqn hI;have BV2:∀{vs:List Va} {w9:Wo},zl5 y y1 w c n W f vs w9->(∃f,zl5 y y1 w c n W f vs w9)/\(zi7 fun f=>zl5 y y1 w c n W f vs w9)<f+1:=fun hh=>⟨⟨f,hh⟩,Nat.lt_succ_of_le (zs0 hh)⟩
  have tG:=gV.rd;have hf:=hI.f2;have hKu:=Dh hf;have hSu:=zff hf;have hh0:(0:Int)<=Qj:=Qd;have c1V:=hI.c1;have AO6:=tG.c.ix Y0 c0 c1V;refine⟨fun IQ=>?_,fun RH=>?_⟩
  ·have IQ:=Ot IQ;refine⟨_,za1 tG hI.sw.a c0 c1V,fun gp=>?_,fun gp=>?_⟩
   ·have gp:=Ot gp;rw[zct Qo gp] at hN;obtain⟨i1,i2,i3,i4⟩:=zpa hI;have e1:Y8 8 w.heap.size _ (RW V c (Ky V c left)) m2:=gV.own.Ag2 c0 c1V (j:=4) (vs:=[I ((gi V.IE c).idle+left)]) (x:=Ky V c left) rfl Qs;refine⟨AO6,_,tG.c.f c0 c1V (j:=4) rfl,⟨Qo,Qo⟩,AO6,zn1 gV.own gV.nb c0 c1V (j:=4) Qd,fun Ry SZ fU=>?_⟩;have dQ:=(gV.RD e1 zbt).step SZ;have Rn:=Zu dQ.own c0 (by show c<((V.IE.set c.toNat (Ky V c left)).length:Int); rw[H']; exact c1V);rw[Nb] at Rn;refine I4 Rn ?_;rintro e2 Rx ⟨aQ,kR⟩;exact⟨_,_,_,_,_,_,_,_,_,_,aQ,dQ.kept kR fU,fun RR SK _=>⟨_,m2,_,rfl,(dQ.SX kR fU).step SK,i1,Qo,Qo,hN⟩⟩
   ·have gp:=Ou gp;rw[zcu Qo gp] at hN;have hR:=zjp hI IQ gp;have t0:=hR.line.t0;have t1:=hR.line.t1;have jV:V.tasks.length=12:=hI.sw.a.t;refine⟨fun _ _ w3=>Wk 8 [y,y1] w w3 (YP V c (Qr V c)) m2,?_,?_⟩
    ·refine⟨AO6,_,tG.c.f c0 c1V (j:=1) rfl,fun _=>AO6,_,fun _=>tG.c.f c0 c1V (j:=2) rfl,fun g5=>?_,fun g5 Ry SZ _=>?_⟩
     ·have g5:Qr V c≠(gi V.IE c).cur\/(gi V.IE c).WS>=50:=by simpa using g5
      have hS:Yg V c (Qr V c)={ gi V.IE c with cur:=Qr V c,WS:=0 }:=by unfold Yg; rw[E' g5]
      have e1:=gV.own.Ag2 c0 c1V (j:=1) (vs:=[I (Qr V c)]) (x:={ gi V.IE c with cur:=Qr V c }) rfl Qs;have zO:(V.IE.set c.toNat { gi V.IE c with cur:=Qr V c }).length=V.IE.length:=H';have hg1:gi (V.IE.set c.toNat { gi V.IE c with cur:=Qr V c }) c={ gi V.IE c with cur:=Qr V c }:=(QC _ _ c0 c1V c0).trans (E' rfl);have e2:=e1.Ag2 c0 (by simpa using c1V) (j:=2) (vs:=[I 0]) (x:=Yg V c (Qr V c)) (by rw[hg1,hS]; rfl) Qs
      have hW2:({ V with IE:=(V.IE.set c.toNat { gi V.IE c with cur:=Qr V c }).set c.toNat (Yg V c (Qr V c)) }:Q7)=YP V c (Qr V c):=by
       unfold YP RW;rw[List.set_set]
      have nF:=gV.RD e1 zbt;have dQ:Wk 8 [y,y1] w _ ({ V with IE:=(V.IE.set c.toNat { gi V.IE c with cur:=Qr V c }).set c.toNat (Yg V c (Qr V c)) }:Q7) m2:=nF.RD e2 zbt;rw[hW2] at dQ;exact⟨AO6,zn1 gV.own gV.nb c0 c1V (j:=1) Qd,AO6,zn1 e1 gV.nb c0 (by show c<((V.IE.set c.toNat { gi V.IE c with cur:=Qr V c }).length:Int); rw[zO]; exact c1V) (j:=2) Qd,fun Ry SZ _=>dQ.step SZ⟩
     ·have g5:¬(Qr V c≠(gi V.IE c).cur\/(gi V.IE c).WS>=50):=by simpa using g5
      have hS:YP V c (Qr V c)=V:=by
       unfold YP Yg RW;rw[C' g5,znm c0 c1V]
      rw[hS];exact gV.step SZ
    ·intro Wy kK dB Sn cU zW;have rN:=dB.step cU;have hcG:=MX (t:=Qr V c) (rN.rd.less (cs:=[]) Qs) hR.s1.a.tree t0 (by show _<((V.tasks.length:Nat):Int); omega) hR.us;have ecp:Qa (YP V c (Qr V c)) m2=Qa V m2:=Nb _ _ _ _;rw[ecp] at hcG;refine I4 hcG ?_;rintro e3 gT ⟨pO,pC,fH,hO,hy6⟩;have hO:XU YR 1 Qb Sn.heap.size gT pO pC (YF V (Qr V c)):=hO;have fH:e3=.returned (.slice pO (YF V (Qr V c)).length pC):=fH;have hK7:=rN.R4 hy6;refine⟨_,_,_,fH,Qe hy6 zW,fun W8 rH hs8=>?_⟩;have hK8:=hK7.step rH
     have CG3:∀z∈Qy pO,z∉[y,y1]:=fun z hz hm=>by
      have:=(hO.lt z hz).1;have:=zW z hm;omega
     have hO8:=hO.ext rH CG3
     have CG4:∀z∈Qy pO,z∉QD 8 m2:=fun z hz hm=>by
      have:=(hO.lt z hz).1;have:=(rN.own.lt z hm).2;omega
     have hcT:=za2 hK8.own hR.s1 hK8.base hO8 CG4 hR.len c0 (by rw[(Dp hI.sw hI.rb c0 c1V hI.up t0 t1).2.2.2.2.2]; exact c1V) hR.pin hR.dr;rw[ecp] at hcT;refine I4 hcT ?_;rintro e4 qP ⟨m3,he4,hy9⟩;have hK9:Wk 8 [y,y1] w qP (YL V c).1 m3:=hK8.SX hy9 hs8;have hTk:zc8 c (YF V (Qr V c)) (YP V c (Qr V c))=YL V c:=rfl;rw[hTk] at he4 hy9;have hO9:=hO8.ext hy9.ext CG4
     have Ct3:∀z∈Qy pO,z∉QD 8 m3:=fun z hz hm=>by
      rcases hy9.sub z hm with h1 | h1
      ·exact CG4 z hz h1
      ·have:=(hO8.lt z hz).2;omega
     have eC:(YL V c).1.IE=(YP V c (Qr V c)).IE:=hR.tk.o.c;have lT:(YL V c).1.IE.length=V.IE.length:=by rw[eC]; exact(Dp hI.sw hI.rb c0 c1V hI.up t0 t1).2.2.2.2.2
     have cT:c<((YL V c).1.IE.length:Int):=by rw[lT]; exact c1V
     have e9:Qa (YL V c).1 m3=Qa V m2:=by
      rw[hy9.AK9 (W0:=YP V c (Qr V c)) hR.tk.o.n (by rw[eC]) (by rw[hR.tk.o.t]) hR.tk.o.g.len];exact ecp
     have rT:RB (EX (f+1)) (YL V c).1:=hR.r1.sum hR.tk.su hR.tk.o.g (by rw[eC]);have eT:(YL V c).1.tasks=V.tasks:=hR.tk.o.t;have eG:QX V.ID (YL V c).1.ID:=hR.tk.o.g;have pT:YF (YL V c).1 (Qr V c)=YF V (Qr V c):=zfc eT eG _;have uT:Q6 (YL V c).1.ID (Q8 (YL V c).1 (Qr V c)).group=true:=by rw[eG.dT,XN eT]; exact hR.us
     have upT:(gi (YL V c).1.IE c).up=true:=by rw[eC]; exact(Dp hI.sw hI.rb c0 c1V hI.up t0 t1).2.2.1
     have BQ9:(gi (YL V c).1.IE c).WS<50:=by rw[eC]; exact hR.WS
     have hnx:=hR.nx;refine⟨_,_,_,_,_,_,_,_,_,_,_,he4,hK8.kept hy9 hs8,fun gt Sj AJ0 rG=>?_,fun gt=>?_⟩
     ·have gt:¬(YL V c).2=true:=by simpa using gt
      have hRW:De V c left=(Qh (RC (YL V c).1 c),left):=by unfold De; rw[C' gt]
      rw[hRW] at hnx hN;have AD5:=hK9.step AJ0;have hcE:=Zu AD5.own c0 cT;rw[e9] at hcE;refine I4 hcE ?_;rintro e5 fY ⟨he5,Be0⟩;refine⟨_,_,_,_,_,_,_,_,_,_,he5,AD5.kept Be0 rG,fun Sr AE0 A93=>?_⟩;have A80:=(AD5.SX Be0 rG).step AE0;refine I4 (Qu A80.own (hR.tk.sw.RC c0 cT) Qo Qo A80.base) ?_;rintro e6 kA ⟨m4,he6,CI1⟩;generalize Qh (RC (YL V c).1 c)=V9 at he6 CI1 hnx hN;exact⟨_,_,_,_,_,_,_,_,_,_,he6,A80.kept CI1 A93,fun Wp BN5 _=>BV2 ⟨V9,m4,left,rfl,(A80.SX CI1 A93).step BN5,hnx,hN⟩⟩
     ·have gt:(YL V c).2=true:=by simpa using gt
      have hRW:De V c left=(Qh (OF (YL V c).1 c (Qr V c) (Ud V c left)),left-Ud V c left):=by unfold De; rw[E' gt]
      rw[hRW] at hnx hN;obtain⟨m1,m2'⟩:=hR.m gt;have zO:=hI.l1;have hcM:=zaz (n:=left) hK9.rd hR.tk.sw.a (hO9.rd ZO.len CG3) (pC:=pC) hR.len c0 cT (fun z hz=>by rw[eG.dT]; exact hR.pin z hz);rw[e9] at hcM;refine⟨_,hcM,fun Sj AJ0 rG=>?_⟩;have AD5:=hK9.step AJ0;have Cn1:XU YR 1 Qb Sn.heap.size Sj pO pC (YF (YL V c).1 (Qr V c)):=by rw[pT]; exact hO9.ext AJ0 CG3
      have hcC:=BK (t:=Qr V c) (n:=Ud V c left) AD5.own AD5.base Cn1 Ct3 hR.tk.sw rT ⟨Qo,Qo⟩ ⟨Qo,Qo⟩ c0 cT upT BQ9 t0 t1 uT Qo Qo;rw[e9,pT] at hcC;refine I4 hcC ?_;rintro e7 fY ⟨m4,he7,Be0⟩;generalize Qh (OF (YL V c).1 c (Qr V c) (Ud V c left))=V9 at he7 Be0 hnx hN;exact⟨_,_,_,_,_,_,_,_,_,_,he7,AD5.kept Be0 rG,⟨by show _<=left-Ud V c left; omega,by show left-Ud V c left<=_; omega⟩,fun Sr AE0 _=>BV2 ⟨V9,m4,left-Ud V c left,rfl,(AD5.SX Be0 rG).step AE0,hnx,hN⟩⟩
  ·have RH:=Ou RH;rw[zhi Qo] at hN;exact fun Ry SZ _=>⟨V,m2,_,rfl,gV.step SZ,hI.sw,Qo,Qo,hN⟩
 ·rintro a0 a1O a1L a1C a2O a2L a2C a3O a3L a3C w2 gZ ⟨V,m2,K,hv,gV,sw,k0,k1,hN⟩ Ry SZ fU;simp only[Qa,I5,I6,Iw,true_and,and_true] at hv;obtain⟨rfl,⟨rfl,rfl,rfl⟩,⟨rfl,rfl,rfl⟩,rfl,rfl,rfl⟩:=hv;have dQ:=gV.step SZ;refine I4 (Qu dQ.own sw k0 Qo dQ.base) ?_;rintro e3 Sk ⟨m3,fH,hy5⟩;rw[hN] at fH hy5;exact⟨_,_,_,_,_,_,_,_,_,_,fH,dQ.kept hy5 fU,fun W8 rH=>QJ.ok hW hb ((dQ.SX hy5 fU).step rH)⟩
end
def cO:Code->Code
 | .loop c=>c
 | c=>c
theorem ziv{W:Q7}{g c:Int}(h:¬QM W g c<0):ZN W g c 20=true/\Zf W g c 20=Zn W c (QM W g c).toNat:=by
 unfold ZN Zf;unfold QM at h ⊢;rw[C' h];exact⟨Ii Qo,rfl⟩
theorem zp6{W:Q7}(ha:WA W)(fl:zw5 W){c:Int}(c0:0<=c)(c1:c<(W.IE.length:Int))(f:Nat):∀g:Int,Q6 W.ID g=true->(4-dep 3 W.ID g).toNat=f->(∀x∈Z2 W.ID g,(Qc W x c).v<=(Qc W (gi W.ID x).parent c).floor)->0<=M7 W g c->
  (Q8 W (M7 W g c)).v<=(Qc W (Q8 W (M7 W g c)).group c).floor/\∀x∈Z2 W.ID (Q8 W (M7 W g c)).group,(Qc W x c).v<=(Qc W (gi W.ID x).parent c).floor:=by
 induction f with
 | zero=>
  intro g hu hf;have:=Kp ha hu;omega
 | succ f ih=>
  intro g hu hf hp h;rw[EH ha hu] at h ⊢
  by_cases h1:QM W g c<0
  ·rw[E' h1] at h; omega
  ·rw[C' h1] at h ⊢;obtain⟨b1,b2⟩:=ziv h1;have pY:=fl g c hu c0 c1 b1;rw[b2] at pY
   by_cases h2:QM W g c<12
   ·rw[E' h2] at h ⊢
    have hm:Zm W g c (QM W g c).toNat=true:=by
     rcases Zl (Zm W g c) (Zn W c) 20 with ⟨a,_⟩ | ⟨_,_,a,_⟩
     ·unfold QM at h1; omega
     ·exact a
    rw[VC Qo] at hm;unfold TY at hm;rw[show (((QM W g c).toNat:Nat):Int)=QM W g c by omega] at hm;simp only[A',It] at hm;unfold Zn at pY;rw[E' Qo,show (((QM W g c).toNat:Nat):Int)=QM W g c by omega] at pY;rw[show (Q8 W (QM W g c)).group=g from hm.1.2];exact⟨pY,hp⟩
   ·rw[C' h2] at h ⊢;obtain⟨k1,k2,k3,k4⟩:=Lc ha hu (g:=g) (c:=c) Qo
    have hm:Zm W g c (QM W g c).toNat=true:=by
     rcases Zl (Zm W g c) (Zn W c) 20 with ⟨a,_⟩ | ⟨_,_,a,_⟩
     ·unfold QM at h1; omega
     ·exact a
    rw[show (QM W g c).toNat=12+(QM W g c-12).toNat by omega,JK] at hm;unfold J1 at hm;rw[show (((QM W g c-12).toNat:Nat):Int)=QM W g c-12 by omega] at hm;simp only[A',It] at hm;unfold Zn at pY;rw[C' Qo,show (((QM W g c).toNat-12:Nat):Int)=QM W g c-12 by omega] at pY;refine ih _ k1 Qo (fun x hx=>?_) h;rw[Yl ha.tree k1 k2] at hx;rcases Ij.1 hx with e | e
    ·rw[e,hm.1.2.2]; exact pY
    ·rw[hm.1.2.2] at e; exact hp x e
structure zv5 (W:Q7) (c t WS:Int):Prop where
 r0:0<=WS
 r1:WS<50
 t1:(Q8 W t).v-(Qc W (Q8 W t).group c).floor<=Z9 WS (Qf (Q8 W t).nice)
 t2:(Qc W (Q8 W t).group c).floor<=(Q8 W t).v
 p1:∀x∈Z2 W.ID (Q8 W t).group,(Qc W x c).v-(Qc W (gi W.ID x).parent c).floor<=Z9 WS (Qc W x c).w
 p2:∀x∈Z2 W.ID (Q8 W t).group,(Qc W (gi W.ID x).parent c).floor<=(Qc W x c).v
theorem zrs{W:Q7}(iv:J0 W){c:Int}(c0:0<=c)(c1:c<(W.IE.length:Int))(hl:zj9 W (Qr W c) c)(hp:¬Qr W c<0):zv5 W c (Qr W c) (gi (YP W c (Qr W c)).IE c).WS:=by
 have wp:=iv.wp;have p:=Xa wp;have h:=Tx p hl.t0 hl.t1 (by rw[hl.st]; decide);have e:gi (YP W c (Qr W c)).IE c=Yg W c (Qr W c):=(QC _ _ c0 c1 c0).trans (E' rfl)
 have t2:(Qc W (Q8 W (Qr W c)).group c).floor<=(Q8 W (Qr W c)).v:=by
  have:=(h.f hl.st).1
  rwa[hl.R9] at this
 have p2:∀x∈Z2 W.ID (Q8 W (Qr W c)).group,(Qc W (gi W.ID x).parent c).floor<=(Qc W x c).v:=fun x hx=>by
  obtain⟨xu,xz⟩:=Yu wp.a.tree _ h.g x hx;exact((p.s x c xu c0 c1).st xz (hl.on x hx)).1
 rw[e]
 by_cases hc:(gi W.IE c).cur>=0/\(gi W.IE c).WS<50
 ·have hpk:Qr W c=(gi W.IE c).cur:=by unfold Qr; rw[E' hc]
  have hs:Yg W c (Qr W c)=gi W.IE c:=by
   unfold Yg;rw[C'];rintro (h | h)
   ·exact h hpk
   ·omega
  rw[hs];have hy:=(p.c c c0 c1).yes hc.1;have hq:=(p.c c c0 c1).q hc.1 (by rw[<-hpk]; exact hl.st) (by rw[<-hpk]; exact hl.R9);rw[<-hpk] at hq;exact⟨Qo,hc.2,hq.1,t2,fun x hx=>(hq.2 x hx).2,p2⟩
 ·have hpk:Qr W c=M7 W 0 c:=by unfold Qr; rw[C' hc]
  have hs:(Yg W c (Qr W c)).WS=0:=by
   unfold Yg;rw[E']
   by_cases h0:(gi W.IE c).cur>=0
   ·exact .inr Qo
   ·exact .inl Qo
  rw[hs];have hn:=zp6 wp.a iv.fl c0 c1 _ 0 wp.a.root rfl (fun x hx=>by rw[show Z2 W.ID 0=[] from Zi _ _] at hx; cases hx) (by rw[<-hpk]; omega);rw[<-hpk] at hn;have v0:∀w:Int,0<=Z9 0 w:=fun w=>(L3 0 w).1
  refine⟨I3 _,Qd,?_,t2,fun x hx=>?_,p2⟩
  ·have:=v0 (Qf (Q8 W (Qr W c)).nice);have:=hn.1;omega
  ·have:=v0 (Qc W x c).w;have:=hn.2 x hx;omega
theorem zqe{gs:List Zr}(ht:ZX gs):∀g:Int,Q6 gs g=true->∀x∈Z2 gs g,dep 3 gs x<=dep 3 gs g:=
 P3 ht (fun x hx=>by rw[show Z2 gs 0=[] from Zi _ _] at hx; cases hx) fun h hu hz ih x hx=>by
  rw[Yl ht hu hz] at hx;rcases Ij.1 hx with e | e
  ·subst e; exact I3 _
  ·obtain⟨_,_,_,d,e1,e2,_⟩:=Y3 ht hu hz;have:=ih x e;omega
theorem ztb{gs:List Zr}(ht:ZX gs):∀g:Int,Q6 gs g=true->(Z2 gs g++[0]).Nodup:=
 P3 ht (by rw[show Z2 gs 0=[] from Zi _ _]; simp) fun h hu hz ih=>by
  rw[Yl ht hu hz,List.cons_append,List.nodup_cons];refine⟨fun hm=>?_,ih⟩;rcases Io.1 hm with hm | hm
  ·obtain⟨hp,_,_,d,e1,e2,_⟩:=Y3 ht hu hz;have:=zqe ht _ hp h hm;omega
  ·exact hz (IA.1 hm)
theorem zrw{W:Q7}{c n g:Int}(bW:W.ID.length=8)(u0:0<=g)(u1:g<8)(c0:0<=c)(cs:c<((gi W.ID g).IF.length:Int))(i d:Int)(hi:0<=i)(hd:0<=d):Qc (NX W c n g) i d=if g=i/\c=d then N9 W c n g else Qc W i d:=by
 rw[<-Jf (W:=W) (s:=N9 W c n g) u0 Qo c0 cs hi hd];have hl2:g<((Kk W c n g).ID.length:Int):=by rw[L8]; omega
 have zO:g<((Rp (Kk W c n g) g (Fd W c n g)).ID.length:Int):=by simp only[Rp,H']; rw[L8]; omega
 unfold Qc;show gi (gi (NX W c n g).ID i).IF d=gi (gi (Kk W c n g).ID i).IF d;unfold NX WQ;rw[Ym u0 zO hi,Ym u0 hl2 hi,Ym u0 hl2 u0,E' rfl];split
 ·rename_i e;subst e;rfl
 ·rfl
theorem zrx{K S c n:Int}(c0:0<=c)(n0:0<=n)(n1:n<=100):∀(l:List Int) {W:Q7},l.Nodup->SW K W->RB S W->S+100*(l.length:Int)<=100000000000000000->c<(W.IE.length:Int)->(∀g∈l,Q6 W.ID g=true)->
  ∀i d:Int,0<=i->0<=d->Qc (zdy c n l W) i d=if i∈l/\c=d then N9 W c n i else Qc W i d:=by
 intro l
 induction l generalizing K S with
 | nil=>
  intro W _ _ _ _ _ _ i d _ _;rw[C' Qs]; rfl
 | cons g l ih=>
  intro W nd sw rb hS c1 hu i d hi hd;rw[List.length_cons] at hS;have hug:=hu g Ia;obtain⟨u0,u1,_⟩:=sw.a.u hug;have hsl:=sw.a.sl hug;have h1:=zil sw rb Qo c0 c1 hug n0 n1;obtain⟨hng,ndl⟩:=List.nodup_cons.1 nd;have e:=zrw (n:=n) sw.a.gl u0 u1 c0 Qo;rw[zf5,ih ndl h1.sw (h1.rb.mono (show S+n<=S+100 by omega)) Qo (by rw[h1.cp]; exact c1) (fun x hx=>by rw[h1.g.dT]; exact hu x (I2 _ hx)) i d hi hd]
  by_cases hil:i∈l
  ·have hgi:g≠i:=fun h=>hng (h▸hil)
   by_cases hcd:c=d
   ·rw[E' ⟨hil,hcd⟩,E' ⟨I2 _ hil,hcd⟩];unfold N9;rw[e i c hi c0,C' fun h=>hgi h.1]
   ·rw[C' fun h=>hcd h.2,C' fun h=>hcd h.2,e i d hi hd,C' fun h=>hcd h.2]
  ·rw[C' fun h=>hil h.1,e i d hi hd]
   by_cases hgi:g=i
   ·subst hgi
    by_cases hcd:c=d
    ·rw[E' ⟨rfl,hcd⟩,E' ⟨Ia,hcd⟩]
    ·rw[C' fun h=>hcd h.2,C' fun h=>hcd h.2]
   ·rw[C' fun h=>hgi h.1,C'];rintro⟨hm,_⟩;rcases Ij.1 hm with h | h
    ·exact hgi h.symm
    ·exact hil h
theorem zl1{a b w:Int}(ha:0<=a)(hb:0<=b)(h:a+b<=149)(w1:1<=w)(w2:w<=20):Z9 (a+b) w=Z9 a w+Z9 b w/\Z9 a w+Z9 b w<=Zv w:=by
 have e1:=zda ha hb Qo w1 w2;have e2:=zda (a:=a+b) (b:=149-(a+b)) (w:=w) Qo Qo Qo w1 w2;rw[show a+b+(149-(a+b))=149 by omega] at e2;have:=(L3 (149-(a+b)) w).1;unfold Zv;omega
structure zxb (V T:Q7) (c t:Int):Prop where
 tk:T.tasks=V.tasks
 g:QX V.ID T.ID
 s:∀i:Int,0<=i->(gi T.ID i).IF=(gi V.ID i).IF
 cp:∀d:Int,0<=d->gi T.IE d=if c=d then Yg V c t else gi V.IE d
 l:T.IE.length=V.IE.length
theorem zuq{K S:Int}{V T:Q7}{c t m:Int}(iv:J0 V)(hM:zxb V T c t)(sw:SW K T)(rb:RB S T)(hS:0<=S/\S+500<=100000000000000000)(c0:0<=c)(c1:c<(V.IE.length:Int))(up:(gi V.IE c).up=true)(t0:0<=t)(t1:t<12)(qB:(Q8 V t).state=1)(kP:(Q8 V t).R9=c)(rF:(Yg V c t).cur=t)(hb:zv5 V c t (Yg V c t).WS)(m0:1<=m)(m1:m<=100):VI (OF T c t m):=by
 have wp:=iv.wp;have p:=Xa wp;have hht:=Tx p t0 t1 (by rw[qB]; decide);have bW:=wp.a.gl;have jV:=wp.a.t;have c1T:c<(T.IE.length:Int):=by rw[hM.l]; exact c1
 have eTc:gi T.IE c=Yg V c t:=(hM.cp c c0).trans (E' rfl);have upT:(gi T.IE c).up=true:=by rw[eTc]; unfold Yg; split <;> exact up
 have BQ9:(gi T.IE c).WS<50:=by rw[eTc]; exact hb.r1
 have hg:Q6 V.ID (Q8 V t).group=true:=hht.g;have huT:Q6 T.ID (Q8 T t).group=true:=by rw[hM.g.dT,XN hM.tk]; exact hg
 have pT:YF T t=YF V t:=zfc hM.tk hM.g t;obtain⟨sE,rE,_,_,hlE,_,s1,r1,cp1⟩:=zdz sw rb hS.2 c0 c1T upT BQ9 t0 t1 huT Qo m1;obtain⟨pin,CI8⟩:=Nj sw.a huT;have hTG:QX V.ID (OF T c t m).ID:=hM.g.trans cp1.g;have shT:∀i d:Int,0<=i->Qc T i d=Qc V i d:=fun i d hi=>by unfold Qc; rw[hM.s i hi]
 have hnd:(YF T t).Nodup:=by rw[pT]; exact ztb wp.a.tree _ hg
 have eS:∀i d:Int,0<=i->0<=d->Qc (OF T c t m) i d=if i∈YF V t/\c=d then N9 V c m i else Qc V i d:=fun i d hi hd=>by
  have e:=zrx c0 Qo m1 (YF T t) hnd s1 r1 Qo c1T pin i d hi hd;have e':Qc (OF T c t m) i d=if i∈YF T t/\c=d then N9 T c m i else Qc T i d:=e;rw[e',pT,shT i d hi];have:N9 T c m i=N9 V c m i:=by unfold N9; rw[shT i c hi]
  rw[this]
 have fF:∀i d:Int,0<=i->0<=d->(Qc (OF T c t m) i d).floor=(Qc V i d).floor:=fun i d hi hd=>by
  rw[eS i d hi hd]; split
  ·rename_i h; rw[<-h.2]; rfl
  ·rfl
 have fO:∀i d:Int,0<=i->0<=d->(Qc (OF T c t m) i d).on=(Qc V i d).on:=fun i d hi hd=>by
  rw[eS i d hi hd]; split
  ·rename_i h; rw[<-h.2]; rfl
  ·rfl
 have fW:∀i d:Int,0<=i->0<=d->(Qc (OF T c t m) i d).w=(Qc V i d).w:=fun i d hi hd=>by
  rw[eS i d hi hd]; split
  ·rename_i h; rw[<-h.2]; rfl
  ·rfl
 have fV:∀i d:Int,0<=i->0<=d->¬(i∈Z2 V.ID (Q8 V t).group/\c=d)->(Qc (OF T c t m) i d).v=(Qc V i d).v:=fun i d hi hd hn=>by
  rw[eS i d hi hd]; split
  ·rename_i h
   have hz:¬i≠0:=fun hz=>by
    rcases Io.1 h.1 with h' | h'
    ·exact hn ⟨h',h.2⟩
    ·exact hz (IA.1 h')
   rw[<-h.2];show (if i≠0 then _ else _)=_;rw[C' hz]
  ·rfl
 have fP:∀i:Int,i∈Z2 V.ID (Q8 V t).group->(Qc (OF T c t m) i c).v=(Qc V i c).v+Z9 m (Qc V i c).w:=fun i hi=>by
  obtain⟨iu,iz⟩:=Yu wp.a.tree _ hg i hi;rw[eS i c (Q5.1 iu).1 c0,E' ⟨Ib _ hi,rfl⟩];show (if i≠0 then _ else _)=_;rw[E' iz]
 have eK:∀i:Int,0<=i->Q8 (OF T c t m) i=if t=i then Kl V t m else Q8 V i:=fun i hi=>by
  have h1:Q8 (OF T c t m) i=gi (T.tasks.set t.toNat (Kl T t m)) i:=by
   show gi (zdy c m (YF T t) (IU T t (Kl T t m))).tasks i=_;rw[cp1.t]; rfl
  have h2:Kl T t m=Kl V t m:=by unfold Kl; rw[XN hM.tk]
  rw[h1,QC _ _ t0 (by rw[hM.tk]; omega) hi,h2];split
  ·rfl
  ·exact XN hM.tk i
 have eC:∀d:Int,0<=d->gi (OF T c t m).IE d=if c=d then zkl T c m else gi V.IE d:=fun d hd=>by
  have h1:gi (OF T c t m).IE d=gi (T.IE.set c.toNat (zkl T c m)) d:=by
   show gi ((zdy c m (YF T t) (IU T t (Kl T t m))).IE.set c.toNat (zkl T c m)) d=_;rw[cp1.cp]; rfl
  rw[h1,QC _ _ c0 c1T hd];split
  ·rfl
  ·rename_i h;rw[hM.cp d hd,C' h]
 have wn:1<=Qf (Q8 V t).nice/\Qf (Q8 V t).nice<=20:=by
  have:=XP (Q8 V t).nice;have:=hht.n;omega
 have hv0:∀w:Int,0<=Z9 m w:=fun w=>(L3 m w).1
 have Cv2:∀i d:Int,Q6 V.ID i=true->0<=d->d<(V.IE.length:Int)->1<=(Qc V i d).w/\(Qc V i d).w<=20:=fun i d hu d0 d1=>by
  have:=GT wp hu d0 d1;exact⟨this.w1,this.w2⟩
 have vt:=zl1 hb.r0 (show 0<=m by omega) (by have:=hb.r1; omega) wn.1 wn.2
 have vp:∀i:Int,i∈Z2 V.ID (Q8 V t).group->Z9 ((Yg V c t).WS+m) (Qc V i c).w=Z9 (Yg V c t).WS (Qc V i c).w+Z9 m (Qc V i c).w/\Z9 (Yg V c t).WS (Qc V i c).w+Z9 m (Qc V i c).w<=Zv (Qc V i c).w:=fun i hi=>by
  have h:=Cv2 i c (Yu wp.a.tree _ hg i hi).1 c0 c1;exact zl1 hb.r0 (show 0<=m by omega) (by have:=hb.r1; omega) h.1 h.2
 have B28:∀i:Int,Q6 V.ID i=true->i≠0->0<=(gi V.ID i).parent:=fun i hu hz=>(Q5.1 (Y3 wp.a.tree hu hz).1).1
 have CV5:∀i:Int,i∈Z2 V.ID (Q8 V t).group->UW (OF T c t m) i c:=fun i hi=>by
  obtain⟨iu,iz⟩:=Yu wp.a.tree _ hg i hi;have i0:=(Q5.1 iu).1;unfold UW;rw[hTG.p,fF _ c (B28 i iu iz) c0,fP i hi,fW i c i0 c0];have h1:=hb.p1 i hi;have h2:=hb.p2 i hi;have h3:=vp i hi;have:=hv0 (Qc V i c).w;omega
 refine⟨⟨sE.a,fun i a b=>?_,fun i a b n=>?_,fun k d hk d0 d1=>?_⟩,fun d d0 d1=>?_⟩
 ·have hrt:=rE.t i a b;rw[eK i a] at hrt ⊢;split
  ·rename_i he;rw[E' he] at hrt;refine .inr ⟨by show (Q8 V t).state≠0; rw[qB]; decide,hht.st,by rw[hTG.dT]; exact hg,hht.n,hht.m,hht.m0,Y2.2 ⟨hrt.1,Qo⟩,Y2.2 ⟨hrt.2.2.1,Qo⟩,hht.l1,hht.l2,fun _=>?_⟩;show (Qc (OF T c t m) (Q8 V t).group (Q8 V t).R9).floor<=(Q8 V t).v+Z9 m (Qf (Q8 V t).nice)/\(Q8 V t).v+Z9 m (Qf (Q8 V t).nice)-(Qc (OF T c t m) (Q8 V t).group (Q8 V t).R9).floor<=Zv (Qf (Q8 V t).nice);rw[kP,fF _ c (Q5.1 hg).1 c0];have:=hb.t1;have:=hb.t2;have:=hv0 (Qf (Q8 V t).nice);omega
  ·rcases p.t i a b with h | ⟨h1,h2⟩
   ·exact .inl h
   ·refine .inr ⟨h1,h2.st,by rw[hTG.dT]; exact h2.g,h2.n,h2.m,h2.m0,h2.s,h2.u,h2.l1,h2.l2,fun hs=>?_⟩;rw[fF _ _ (Q5.1 h2.g).1 (p.l i a b h1).1];exact h2.f hs
 ·rw[hlE,hM.l];rw[eK i a] at n ⊢;split
  ·show 0<=(Q8 V t).R9/\(Q8 V t).R9<_;rw[kP]; exact⟨c0,c1⟩
  ·rename_i he;rw[C' he] at n;exact p.l i a b n
 ·have vD:=rE.s k d hk d0 d1;rw[hTG.dT] at hk;rw[hlE,hM.l] at d1;have k0:=(Q5.1 hk).1;have hp:=p.s k d hk d0 d1;refine⟨Y2.2 ⟨vD.1,Qo⟩,fun hz=>?_,fun hz ho=>?_⟩
  ·have h:=hp.root hz;rw[fO k d k0 d0,fW k d k0 d0,fV k d k0 d0 fun h=>(Yu wp.a.tree _ hg k h.1).2 hz];exact h
  ·rw[fO k d k0 d0] at ho
   by_cases hin:k∈Z2 V.ID (Q8 V t).group/\c=d
   ·obtain⟨h1,rfl⟩:=hin;exact CV5 k h1
   ·have h:=hp.st hz ho;unfold UW at h ⊢;rw[hTG.p,fF _ d (B28 k hk hz) d0,fV k d k0 d0 hin,fW k d k0 d0];exact h
 ·have hrc:=rE.c d d0 d1;rw[hlE,hM.l] at d1
  by_cases hd:c=d
  ·subst hd;have e:=(eC c c0).trans (E' rfl);have Ck7:(gi (OF T c t m).IE c).cur=t:=by rw[e]; show (gi T.IE c).cur=t; rw[eTc]; exact rF
   have Cl0:(gi (OF T c t m).IE c).WS=(Yg V c t).WS+m:=by rw[e]; show (gi T.IE c).WS+m=_; rw[eTc]
   have bH:=hb.r0;have uU:=hb.r1;refine⟨Y2.2 ⟨hrc.1,Qo⟩,Y2.2 ⟨hrc.2.2.1,by have:=hrc.2.2.2.1; omega⟩,Qo,Qo,fun h0=>by omega,fun _=>⟨by rw[e]; exact upT,Qo,Qo⟩,fun _ _ _=>?_⟩;rw[Ck7,Cl0,eK t t0,E' rfl];refine⟨?_,fun x hx=>?_⟩
   ·show (Q8 V t).v+Z9 m (Qf (Q8 V t).nice)-(Qc (OF T c t m) (Q8 V t).group c).floor<=Z9 ((Yg V c t).WS+m) (Qf (Q8 V t).nice);rw[fF _ c (Q5.1 hg).1 c0,vt.1];have:=hb.t1;omega
   ·have hx:x∈Z2 (OF T c t m).ID (Q8 V t).group:=hx;rw[VE hTG] at hx;obtain⟨xu,xz⟩:=Yu wp.a.tree _ hg x hx;refine⟨CV5 x hx,?_⟩;rw[hTG.p,fF _ c (B28 x xu xz) c0,fP x hx,fW x c (Q5.1 xu).1 c0,(vp x hx).1];have:=hb.p1 x hx;omega
  ·have e:=(eC d d0).trans (C' hd);have h:=p.c d d0 d1;refine⟨by rw[e]; exact h.b,by rw[e]; exact h.i,by rw[e]; exact h.c1,by rw[e]; exact h.c2,by rw[e]; exact h.no,by rw[e]; exact h.yes,?_⟩;rw[e];intro h0 h1 h2;rw[eK _ h0] at h1 h2 ⊢
   by_cases ht:t=(gi V.IE d).cur
   ·rw[E' ht] at h2;have h2:(Q8 V t).R9=d:=h2;exact Is (kP.symm.trans h2) hd
   ·rw[C' ht] at h1 h2 ⊢;obtain⟨q1,q2⟩:=h.q h0 h1 h2;have kQ:=(Tx p h0 h.c2 (by rw[h1]; decide)).g;refine⟨by rw[fF _ d (Q5.1 kQ).1 d0]; exact q1,fun x hx=>?_⟩;rw[VE hTG] at hx;obtain⟨xu,xz⟩:=Yu wp.a.tree _ kQ x hx;have x0:=(Q5.1 xu).1;have:=q2 x hx;unfold UW at this ⊢;rw[hTG.p,fF _ d (B28 x xu xz) d0,fV x d x0 d0 fun h=>hd h.2,fW x d x0 d0];exact this
theorem ztm(W:Q7)(c n g:Int):VL W (NX W c n g):=
 ((Cu W g c (N9 W c n g)).trans (zjw (W:=Kk W c n g) (g:=g) (x:=Fd W c n g) rfl rfl rfl rfl rfl)).trans (zjv _ _ _)
theorem zlr(c n:Int):∀(l:List Int) (W:Q7),VL W (zdy c n l W)
 | [],W=>VL.refl _
 | g::l,W=>(ztm W c n g).trans (zlr c n l _)
theorem zls(W:Q7)(c g:Int):VL W (Nn W c g).1:=by
 unfold Nn;split
 ·exact VL.refl _
 ·exact zjv _ _ _
theorem zlt(c:Int):∀(l:List Int) (W:Q7),VL W (zc8 c l W).1
 | [],W=>VL.refl _
 | g::l,W=>by
  simp only[zc8];split
  ·exact(zls W c g).trans (zlt c l _)
  ·exact zls W c g
theorem zqw(W:Q7)(c t:Int):VL W (YP W c t):=zfi (by unfold Yg; split <;> rfl)
theorem zml(W:Q7)(c t:Int):Xx (Yg W c t)=Xx (gi W.IE c):=by unfold Yg; split <;> rfl
theorem zsc{f:Nat}{c left:Int}{W0 V:Q7}(h:CJ f c W0 V left)(iv:J0 V):J0 (Qh (RC (RW V c (Ky V c left)) c)):=by
 have p:=Xa iv.wp;have c0:=h.c0;have c1:=h.c1;have hK:=Dh h.f2;have hh0:(0:Int)<=Qj:=Qd;have qB:UV=173430457200:=rfl;obtain⟨sE,s1,i3,i4⟩:=zpa h;have hl:(RW V c (Ky V c left)).IE.length=V.IE.length:=H'
 have hP:VI (RW V c (Ky V c left)):=by
  refine⟨⟨s1.a,fun t t0 t1=>(p.t t t0 t1).imp id fun h=>⟨h.1,h.2.gr rfl⟩,fun t t0 t1 n=>?_,fun k d hk d0 d1=>?_⟩,fun d d0 d1=>?_⟩
  ·rw[hl]; exact p.l t t0 t1 n
  ·rw[hl] at d1; exact(p.s k d hk d0 d1).Bo4 rfl fun _=>rfl
  ·rw[hl] at d1;have hd:=p.c d d0 d1;have e:gi (RW V c (Ky V c left)).IE d=if c=d then Ky V c left else gi V.IE d:=QC _ _ c0 c1 d0
   by_cases he:c=d
   ·subst he;have e:=e.trans (E' rfl);exact⟨by rw[e]; exact hd.b,by rw[e]; exact Y2.2 ⟨i3,by show (gi V.IE c).idle+left<=_; omega⟩,by rw[e]; exact hd.c1,by rw[e]; exact hd.c2,by rw[e]; exact hd.no,by rw[e]; exact hd.yes,by rw[e]; exact hd.q⟩
   ·have e:=e.trans (C' he);exact⟨by rw[e]; exact hd.b,by rw[e]; exact hd.i,by rw[e]; exact hd.c1,by rw[e]; exact hd.c2,by rw[e]; exact hd.no,by rw[e]; exact hd.yes,by rw[e]; exact hd.q⟩
 exact Zs sE Qo Qo (hP.RC c0 (by rw[hl]; exact c1)) (((zfi (W:=V) (c:=c) (x:=Ky V c left) rfl).loc rfl (Uc iv.wp)).RC _)
theorem zti{f:Nat}{c left:Int}{W0 V:Q7}(h:CJ (f+1) c W0 V left)(iv:J0 V)(hl:0<left)(hp:¬Qr V c<0):J0 (De V c left).1:=by
 have hR:=zjp h hl hp;have c0:=h.c0;have c1:=h.c1;have hK:=Dh h.f2;have hSu:=zff h.f2;have hh0:(0:Int)<=Qj:=Qd;have qB:UV=173430457200:=rfl;have hlg:Qn=34686091440:=rfl;have t0:=hR.line.t0;have t1:=hR.line.t1;obtain⟨q1,q2,q3,q4,q5,q6⟩:=Dp h.sw h.rb c0 c1 h.up t0 t1;have eC:(YL V c).1.IE=(YP V c (Qr V c)).IE:=hR.tk.o.c;have lT:(YL V c).1.IE.length=V.IE.length:=by rw[eC]; exact q6
 have cT:c<((YL V c).1.IE.length:Int):=by rw[lT]; exact c1
 have rT:RB (EX (f+1)) (YL V c).1:=hR.r1.sum hR.tk.su hR.tk.o.g (by rw[eC]);have eT:(YL V c).1.tasks=V.tasks:=hR.tk.o.t;have eG:QX V.ID (YL V c).1.ID:=hR.tk.o.g;have eN:(YL V c).1.now=V.now:=hR.tk.o.n;have eSh:∀i:Int,0<=i->(gi (YL V c).1.ID i).IF=(gi V.ID i).IF:=hR.tk.o.s;have sT:VL V (YL V c).1:=(zqw V c (Qr V c)).trans (zlt c _ _);have lcT:Nr (YL V c).1:=sT.loc eT (Uc iv.wp)
 have eCp:∀d:Int,0<=d->gi (YL V c).1.IE d=if c=d then Yg V c (Qr V c) else gi V.IE d:=fun d hd=>by
  rw[eC]; exact QC _ _ c0 c1 hd
 have hRW:De V c left=if (YL V c).2=true then (Qh (OF (YL V c).1 c (Qr V c) (Ud V c left)),left-Ud V c left) else (Qh (RC (YL V c).1 c),left):=rfl;rw[hRW]
 by_cases gt:(YL V c).2=true
 ·rw[E' gt];obtain⟨m1,m2⟩:=hR.m gt;obtain⟨sC,rC⟩:=hR.ch gt;have zO:=h.l1;have hb:=zrs iv c0 c1 hR.line hp;have es:gi (YP V c (Qr V c)).IE c=Yg V c (Qr V c):=(QC _ _ c0 c1 c0).trans (E' rfl);rw[es] at hb q5;have hP:VI (OF (YL V c).1 c (Qr V c) (Ud V c left)):=zuq iv ⟨eT,eG,eSh,eCp,lT⟩ hR.tk.sw rT ⟨Qo,Qo⟩ c0 c1 h.up t0 t1 hR.line.st hR.line.R9 q5 hb m1 Qo;refine Zs sC Qo Qo hP ?_;have uT:Q6 (YL V c).1.ID (Q8 (YL V c).1 (Qr V c)).group=true:=by rw[eG.dT,XN eT]; exact hR.us
  have upT:(gi (YL V c).1.IE c).up=true:=by rw[eC]; exact q3
  have BQ9:(gi (YL V c).1.IE c).WS<50:=by rw[eC]; exact hR.WS
  have cp1:=(zdz (t:=Qr V c) (n:=Ud V c left) hR.tk.sw rT Qo c0 cT upT BQ9 t0 t1 uT Qo Qo).2.2.2.2.2.2.2.2;have l1:Nr (IU (YL V c).1 (Qr V c) (Kl (YL V c).1 (Qr V c) (Ud V c left))):=lcT.IU hR.tk.sw.a t0 t1 fun n=>lcT _ t0 t1 n
  have l2:=(zlr c (Ud V c left) (YF (YL V c).1 (Qr V c)) (IU (YL V c).1 (Qr V c) (Kl (YL V c).1 (Qr V c) (Ud V c left)))).loc cp1.t l1;refine VL.loc (zfi ?_) rfl l2;show (gi (YL V c).1.IE c).up=(gi (zdy c (Ud V c left) (YF (YL V c).1 (Qr V c)) (IU (YL V c).1 (Qr V c) (Kl (YL V c).1 (Qr V c) (Ud V c left)))).IE c).up;rw[cp1.cp]; rfl
 ·rw[C' gt]
  have hE:RC (YL V c).1 c=RC { (YL V c).1 with IE:=V.IE } c:=by
   have e1:=(eCp c c0).trans (E' rfl);show ({ (YL V c).1 with IE:=(YL V c).1.IE.set c.toNat (Xx (gi (YL V c).1.IE c)) }:Q7)={ (YL V c).1 with IE:=V.IE.set c.toNat (Xx (gi V.IE c)) };rw[e1,zml,eC];show ({ (YL V c).1 with IE:=(V.IE.set c.toNat (Yg V c (Qr V c))).set c.toNat (Xx (gi V.IE c)) }:Q7)=_;rw[List.set_set]
  have ha:WA ({ (YL V c).1 with IE:=V.IE }:Q7):=hR.tk.sw.a.cp lT.symm iv.wp.a.ups;have p2:VI ({ (YL V c).1 with IE:=V.IE }:Q7):=(Xa iv.wp).BE2 ⟨eN,rfl,eT,eG,eSh⟩ ha;have nH:=lcT.RC c;have sE:=hR.tk.sw.RC c0 cT;rw[hE] at nH sE ⊢;exact Zs sE Qo Qo (p2.RC c0 c1) nH
theorem zhj{c:Int}{W0:Q7}:∀(f:Nat) {V:Q7} {left:Int},CJ f c W0 V left->J0 V->J0 (Ck c f V left)
 | 0,V,left,h,_=>by
  have:=h.f1;have:=h.l0;omega
 | f+1,V,left,h,iv=>by
  have hK:=Dh h.f2;have hh0:(0:Int)<=Qj:=Qd;have qB:UV=173430457200:=rfl
  by_cases hl:left<=0
  ·rw[zhi hl];exact Zs h.sw Qo Qo (Xa iv.wp) (Uc iv.wp)
  ·by_cases hp:Qr V c<0
   ·rw[zct hl hp];exact zsc h iv
   ·rw[zcu hl hp];have hR:=zjp h Qo hp;exact zhj f hR.nx (zti h iv Qo hp)
theorem zsm{W:Q7}{c n:Int}(iv:J0 W)(hb:Df W c n=0):J0 (znk W c n):=zhj 400 (zqp (Qi.2 iv.wp) hb).2.2.2.2 iv
theorem zny{W:Q7}(wp:XA W){c:Int}(c0:0<=c)(c1:c<(W.IE.length:Int)):XA (RC W c):=by
 have hl:(RC W c).IE.length=W.IE.length:=H';have e:∀d:Int,0<=d->gi (RC W c).IE d=if c=d then Xx (gi W.IE c) else gi W.IE d:=fun d d0=>QC _ _ c0 c1 d0
 have sta:=Lo W c
 have ha:WA (RC W c):=wp.a.cp (cs:=W.IE.set c.toNat (Xx (gi W.IE c))) H' (by
  rw[show J8 (W.IE.set c.toNat (Xx (gi W.IE c)))=J8 W.IE from sta.ups];exact wp.a.ups)
 refine⟨ha,fun t t0 t1=>?_,fun k d k0 k1 d0 d1=>?_,fun d d0 d1=>?_⟩
 ·rcases wp.t t t0 t1 with hz | ⟨n,hx⟩
  ·exact .inl hz
  ·refine .inr ⟨n,hx.st,hx.g,hx.n,hx.m,hx.m0,hx.v,hx.s,hx.u,hx.l1,hx.l2,?_,hx.f⟩;rw[sta.wh]; exact hx.c
 ·have hs:=wp.s k d k0 k1 d0 d1;exact⟨hs.f,hs.v,hs.s,hs.w1,hs.w2,hs.root,hs.on,hs.st⟩
 ·rw[hl] at d1;have h:=wp.c d d0 d1
  by_cases hd:c=d
  ·subst hd;have e1:=(e c c0).trans (E' rfl);refine⟨by rw[e1]; exact h.b,by rw[e1]; exact h.i,by rw[e1]; show (-1:Int)<=-1; decide,by rw[e1]; show (-1:Int)<_; have:=wp.a.t; show (-1:Int)<(W.tasks.length:Int); omega,fun _=>by rw[e1]; rfl,fun h0=>?_⟩;rw[e1] at h0;have h0:(0:Int)<=-1:=h0;omega
  ·have e1:=(e d d0).trans (C' hd);refine⟨by rw[e1]; exact h.b,by rw[e1]; exact h.i,by rw[e1]; exact h.c1,by rw[e1]; exact h.c2,by rw[e1]; exact h.no,fun h0=>?_⟩;rw[e1] at h0 ⊢;obtain⟨y1,y2,y3,y4,y5,y6⟩:=h.yes h0;refine⟨y1,y2,y3,y4,y5,?_⟩;unfold P7 at y6 ⊢;rw[e1];exact y6
theorem zmw{W:Q7}(iv:J0 W){c:Int}(c0:0<=c)(c1:c<(W.IE.length:Int)):J0 (RC W c):=
 ⟨zny iv.wp c0 c1,fun k d hu d0 d1 hb=>by
  have hl:(RC W c).IE.length=W.IE.length:=H';rw[hl] at d1;exact iv.fl k d hu d0 d1 hb⟩
def D2(W:Q7)(t g:Int):Int:=if Ze (Qv W g (Q8 W t).mask) (Q8 W t).R9=true then (Q8 W t).R9 else LJ (Qv W g (Q8 W t).mask)
noncomputable def AM(W:Q7)(t g:Int):Int:=if ZY W t=false\/Q6 W.ID g=false then 2 else if QH W=false then 10 else 0
def za4(W:Q7)(t g:Int):Q7:=if (Q8 W t).group=g then W else Qh (UT (QV W t) t g (D2 W t g))
theorem zla{W:Q7}(wp:XA W){t g:Int}(t0:0<=t)(t1:t<12)(n:(Q8 W t).state≠0):0<=D2 W t g/\D2 W t g<(W.IE.length:Int)/\Ze (Qv W g (Q8 W t).mask) (D2 W t g)=true:=by
 unfold D2;split
 ·rename_i h;have:=(Xa wp).l t t0 t1 n;exact⟨this.1,this.2,h⟩
 ·have hw:=L5 wp.a g (Q8 W t).mask;have hf:=Lv wp.a g (Q8 W t).mask;exact⟨hf.1,hf.2,D0 hw.1 hw.2⟩
theorem zsi{W:Q7}{t g:Int}(iv:J0 W)(hb:AM W t g=0):J0 (za4 W t g):=by
 have wp:=iv.wp;unfold AM at hb
 split at hb
 ·cases hb
 ·rename_i h1
  split at hb
  ·cases hb
  ·rename_i h3;have hth:ZY W t=true:=by cases h:ZY W t with | true=>rfl | false=>exact Is (.inl h) h1
   have hu:Q6 W.ID g=true:=by cases h:Q6 W.ID g with | true=>rfl | false=>exact Is (.inr h) h1
   have hr:QH W=true:=by simpa using h3
   obtain⟨t0,t1,n⟩:=YH hth;have jV:=wp.a.t;unfold za4;split
   ·exact iv
   ·obtain⟨m0,m1,m2⟩:=zla wp (g:=g) t0 Qo n;have sw:=P8 wp (Qi.1 hr);obtain⟨c0,c1⟩:=(Xa wp).l t t0 Qo n
    have key:VI (QV W t)/\VL W (QV W t)/\SW Qj (QV W t)/\Q8 (QV W t) t=Q8 W t/\(QV W t).tasks=W.tasks/\(QV W t).ID=W.ID:=by
     unfold QV;split
     ·exact⟨(Xa wp).RC c0 c1,Lo _ _,sw.RC c0 c1,rfl,rfl,rfl⟩
     ·exact⟨Xa wp,VL.refl _,sw,rfl,rfl,rfl⟩
    obtain⟨k1,k2,k3,k4,k5,k6⟩:=key;have hlo:=k2.loc k5 (Uc wp);have hu2:Q6 (QV W t).ID g=true:=by rw[k6]; exact hu
    have hm1:D2 W t g<((QV W t).IE.length:Int):=by rw[k2.len]; exact m1
    have sf:=(Nk (Me k3) (I3 _) (t:=t) t0 Qo hu2 m0 hm1).2;refine Zs sf.w (by simp only[Qn]; decide) (by simp only[Qn,UV]; decide) (Ci k1 t0 Qo (by rw[k4]; exact n) hu2 m0 hm1) fun i i0 i1 hn=>?_
    rw[(Nm (QV W t) t g (D2 W t g)).wh];rw[zjm k1.a.t t0 Qo i0] at hn ⊢
    split at hn
    ·rename_i he;rw[E' he];show Ze (Qv (QV W t) g (Q8 (QV W t) t).mask) (D2 W t g)=true;rw[k4,k2.wh]; exact m2
    ·rename_i he;rw[C' he];exact hlo i i0 i1 hn
structure CF (W:Q7) (g:Int):Prop where
 g1:1<=g
 us:Q6 W.ID g=true
 nk:∀h:Int,1<=h->h<8->(gi W.ID h).used=true->(gi W.ID h).parent≠g
 nt:∀t:Int,0<=t->t<12->(Q8 W t).state≠0->(Q8 W t).group≠g
def Yd(W:Q7)(g:Int):Q7:=Rp W g Dz
section
variable {W:Q7}{g:Int}
theorem CF.g8(h:CF W g)(ha:WA W):g<8:=by
 have:=ha.gl;have:=(Q5.1 h.us).2.1;omega
theorem Kr(ha:WA W)(h:CF W g){i:Int}(hi:0<=i):gi (Yd W g).ID i=if g=i then Dz else gi W.ID i:=Ym (by have:=h.g1; omega) (Q5.1 h.us).2.1 hi
theorem Gn(ha:WA W)(h:CF W g){k:Int}(hu:Q6 W.ID k=true)(hk:k≠g):gi (Yd W g).ID k=gi W.ID k:=by
 rw[Kr ha h (Q5.1 hu).1,C' fun e=>hk e.symm]
theorem E3(ha:WA W):(Yd W g).ID.length=8:=by
 have:=ha.gl;simp[Yd,Rp]; omega
theorem NZ(ha:WA W)(h:CF W g){k:Int}(hu:Q6 W.ID k=true)(hz:k≠0):(gi W.ID k).parent≠g:=by
 obtain⟨a,b,c⟩:=Q5.1 hu;have:=ha.gl;exact h.nk k Qo Qo c
theorem Na(ha:WA W)(h:CF W g){k:Int}:Q6 (Yd W g).ID k=true↔Q6 W.ID k=true/\k≠g:=by
 have bW:=ha.gl;rw[Q5,Q5,E3 ha,bW];constructor
 ·rintro⟨x,y,z⟩;rw[Kr ha h x] at z
  by_cases e:g=k
  ·rw[E' e] at z; cases z
  ·rw[C' e] at z;exact⟨⟨x,y,z⟩,fun e2=>e e2.symm⟩
 ·rintro⟨⟨x,y,z⟩,e⟩;refine⟨x,y,?_⟩;rw[Kr ha h x,C' fun e2=>e e2.symm];exact z
theorem zow(ha:WA W)(h:CF W g):∀(f:Nat) (k:Int),Q6 W.ID k=true->k≠g->dep f (Yd W g).ID k=dep f W.ID k
 | 0,_,_,_=>rfl
 | f+1,k,hu,hk=>by
  by_cases hz:k=0
  ·subst hz; rw[Yc,Yc]
  ·have ih:=zow ha h f _ (Y3 ha.tree hu hz).1 (NZ ha h hu hz);simp only[dep];rw[Gn ha h hu hk,ih]
theorem zd3(ha:WA W)(h:CF W g):∀(f:Nat) (k:Int),Q6 W.ID k=true->k≠g->U2 f (Yd W g).ID k=U2 f W.ID k
 | 0,_,_,_=>rfl
 | f+1,k,hu,hk=>by
  by_cases hz:k=0
  ·subst hz; rw[Zi,Zi]
  ·have ih:=zd3 ha h f _ (Y3 ha.tree hu hz).1 (NZ ha h hu hz);simp only[U2];rw[Gn ha h hu hk,ih]
theorem zin(ha:WA W)(h:CF W g):∀k:Int,Q6 W.ID k=true->k≠g->∀x∈Z2 W.ID k,x≠g:=
 P3 ha.tree (fun _ x hx=>by rw[show Z2 W.ID 0=[] from Zi _ _] at hx; cases hx) fun k hu hz ih hk x hx=>by
  rw[Yl ha.tree hu hz] at hx;rcases Ij.1 hx with e | e
  ·rw[e]; exact hk
  ·exact ih (NZ ha h hu hz) x e
theorem zr1(ha:WA W)(h:CF W g):ZX (Yd W g).ID:=by
 have ht:=ha.tree;have r:=Gn ha h ha.root (by have:=h.g1; omega)
 have sp:∀{k:Int},1<=k->k<8->(gi (Yd W g).ID k).used=true->Q6 W.ID k=true/\k≠g/\gi (Yd W g).ID k=gi W.ID k:=fun {k} b d hh=>by
  have:=(Na ha h).1 (Q5.2 ⟨Qo,by rw[E3 ha]; omega,hh⟩);exact⟨this.1,this.2,Gn ha h this.1 this.2⟩
 refine⟨E3 ha,by rw[r]; exact ht.ru,by rw[r]; exact ht.rp,by rw[r]; exact ht.rn,fun k b d hh=>?_,fun k b d hh=>?_,fun k b d hh=>?_,fun x k b d e hx hk=>?_⟩
 ·obtain⟨_,_,e⟩:=sp b d hh;rw[e] at hh ⊢; exact ht.nm k b d hh
 ·obtain⟨_,_,e⟩:=sp b d hh;rw[e] at hh ⊢;exact(Na ha h).2 ⟨ht.par k b d hh,h.nk k b d hh⟩
 ·obtain⟨u,n,_⟩:=sp b d hh;rw[zow ha h 3 k u n]; exact ht.dp k b d (Q5.1 u).2.2
 ·rintro⟨q1,q2⟩;obtain⟨u1,_,e1⟩:=sp Qo e hx;obtain⟨u2,_,e2⟩:=sp b Qo hk;rw[e1,e2] at q1 q2;exact ht.uniq x k b d e (Q5.1 u1).2.2 (Q5.1 u2).2.2 ⟨q1,q2⟩
theorem Mu(ha:WA W)(h:CF W g){k c:Int}(hu:Q6 W.ID k=true)(hk:k≠g):Qc (Yd W g) k c=Qc W k c:=by
 unfold Qc;rw[Gn ha h hu hk]
theorem zr0(wp:XA W)(h:CF W g){c:Int}:QU W g c=false:=by
 have hl:=wp.a.gl;have ht:=wp.a.t
 have e1:∀j,j<W.tasks.length->TY W g c j=false:=fun j hj=>by
  unfold TY
  cases hs:((gi W.tasks (j:Int)).state==1) with
  | false=>rfl
  | true=>
   have hs:(gi W.tasks (j:Int)).state=1:=by simpa using hs
   have:(gi W.tasks (j:Int)).group≠g:=h.nt (j:Int) Qo Qo (by rw[show (Q8 W (j:Int)).state=1 from hs]; decide);rw[show ((gi W.tasks (j:Int)).group==g)=false by simpa using this];rfl
 have e2:∀j,j<W.ID.length->J1 W g c j=false:=fun j hj=>by
  unfold J1
  by_cases hj1:1<=j
  ·cases hs:(gi W.ID (j:Int)).used with
   | false=>simp
   | true=>
    have:=h.nk (j:Int) Qo Qo hs;rw[show ((gi W.ID (j:Int)).parent==g)=false by simpa using this];simp
  ·rw[decide_eq_false hj1]; rfl
 unfold QU;rw[PO e1,PO e2];rfl
theorem zut(wp:XA W)(h:CF W g){c:Int}(c0:0<=c)(c1:c<(W.IE.length:Int)):(Qc W g c).on=false:=by
 have g1:=h.g1;have:=(wp.s g c Qo (h.g8 wp.a) c0 (by rw[wp.a.sl h.us]; exact c1)).on Qo;rw[this,zr0 wp h]; rfl
theorem zkp(wp:XA W)(h:CF W g){k c:Int}(c0:0<=c)(c1:c<(W.IE.length:Int))(j:Nat):J1 (Yd W g) k c j=J1 W k c j:=by
 have ha:=wp.a;unfold J1
 by_cases e:g=(j:Int)
 ·rw[Kr ha h Qo,E' e,<-e,zut wp h c0 c1];simp[Dz]
 ·rw[Kr ha h Qo,C' e]
  have:Qc (Yd W g) (j:Int) c=Qc W (j:Int) c:=by
   unfold Qc;rw[Kr ha h Qo,C' e]
  rw[this]
theorem zus(wp:XA W)(h:CF W g){k c:Int}(c0:0<=c)(c1:c<(W.IE.length:Int)):QU (Yd W g) k c=QU W k c:=by
 unfold QU;rw[show VN (TY (Yd W g) k c) (Yd W g).tasks.length=VN (TY W k c) W.tasks.length from rfl,E3 wp.a,wp.a.gl];rw[PN fun j _=>zkp wp h c0 c1 j]
theorem zuu(ha:WA W)(h:CF W g){k:Int}(hu:Q6 W.ID k=true)(hk:k≠g)(u:Int):V7 (Yd W g).ID k u=V7 W.ID k u:=by
 have e:Z2 (Yd W g).ID k=Z2 W.ID k:=zd3 ha h 3 k hu hk;have g1:=h.g1;unfold V7;rw[e];refine Eg _ _ fun s x hx=>?_
 have hxu:Q6 W.ID x=true/\x≠g:=by
  rcases Io.1 hx with hx | hx
  ·exact⟨(Yu ha.tree k hu x hx).1,zin ha h k hu hk x hx⟩
  ·rw[IA.1 hx]; exact⟨ha.root,Qo⟩
 rw[Gn ha h hxu.1 hxu.2]
theorem zwg(ha:WA W)(h:CF W g){k:Int}(hu:Q6 W.ID k=true)(hk:k≠g)(m:Int):Qv (Yd W g) k m=Qv W k m:=zre (W:=W) (W':=Yd W g) rfl (zuu ha h hu hk) m
theorem zsf(iv:J0 W)(h:CF W g):J0 (Yd W g):=by
 have wp:=iv.wp;have ha:=wp.a;have g1:=h.g1;have g8:=h.g8 ha;have bW:=ha.gl;have hpu:∀{k:Int},Q6 W.ID k=true->k≠0->Q6 W.ID (gi W.ID k).parent=true:=fun hu hz=>(Y3 ha.tree hu hz).1
 have hA:WA (Yd W g):=by
  refine⟨ha.n1,ha.n2,ha.c1,ha.c2,ha.t,zr1 ha h,ha.ups,fun k k0 k1=>?_⟩;unfold Pt;rw[Kr ha h k0];split
  ·exact⟨fun _=>⟨rfl,rfl,rfl,rfl,rfl,rfl,rfl,rfl,show Tl ⟨0,0,0,[],[]⟩=true by decide⟩,fun hh=>by cases hh⟩
  ·have:=ha.grp k k0 k1;exact⟨this.1,fun hu=>by have:=this.2 hu; exact⟨this.w1,this.w2,this.m,this.m0,this.s,this.len,this.root,this.none,this.IT⟩⟩
 refine⟨⟨hA,fun t t0 t1=>?_,fun k c k0 k1 c0 c1=>?_,fun c c0 c1=>?_⟩,fun k c hu c0 c1 hb=>?_⟩
 ·rcases wp.t t t0 t1 with hz | ⟨n,hx⟩
  ·exact .inl hz
  ·have hn:=h.nt t t0 t1 n;refine .inr ⟨n,hx.st,(Na ha h).2 ⟨hx.g,hn⟩,hx.n,hx.m,hx.m0,hx.v,hx.s,hx.u,hx.l1,hx.l2,?_,fun hs=>?_⟩
   ·rw[show (Q8 (Yd W g) t)=Q8 W t from rfl,zwg ha h hx.g hn]; exact hx.c
   ·rw[show (Q8 (Yd W g) t)=Q8 W t from rfl,Mu ha h hx.g hn]; exact hx.f hs
 ·by_cases e:g=k
  ·subst e;rw[Kr ha h k0,E' rfl] at c1;have c1:c<(0:Int):=c1;omega
  ·have hg:gi (Yd W g).ID k=gi W.ID k:=by rw[Kr ha h k0,C' e]
   have e2:k≠g:=fun h=>e h.symm
   rw[hg] at c1
   have hu:Q6 W.ID k=true:=by
    cases hh:(gi W.ID k).used with
    | true=>exact Q5.2 ⟨k0,Qo,hh⟩
    | false=>
     have:=((ha.grp k k0 k1).1 hh).l;omega
   have cl:c<(W.IE.length:Int):=by rw[<-ha.sl hu]; exact c1
   have hs:=wp.s k c k0 k1 c0 c1;have es:=Mu ha h (c:=c) hu e2;refine⟨by rw[es]; exact hs.f,by rw[es]; exact hs.v,by rw[es]; exact hs.s,by rw[es]; exact hs.w1,by rw[es]; exact hs.w2,fun hz=>by rw[es]; exact hs.root hz,fun hz=>?_,fun hz ho=>?_⟩
   ·rw[es,zus wp h c0 cl,show V4 (Yd W g) k c=V4 W k c by unfold V4; rw[hg]];exact hs.on hz
   ·rw[es] at ho;rw[es,hg,Mu ha h (hpu hu hz) (NZ ha h hu hz)];exact hs.st hz ho
 ·have hc:=wp.c c c0 c1;refine⟨hc.b,hc.i,hc.c1,hc.c2,hc.no,fun h0=>?_⟩;have h0:0<=(gi W.IE c).cur:=h0;obtain⟨y1,y2,y3,y4,y5,y6⟩:=hc.yes h0;have hl:=ha.t;have hc2:=hc.c2
  have kQ:Q6 W.ID (Q8 W (gi W.IE c).cur).group=true/\(Q8 W (gi W.IE c).cur).group≠g:=by
   rcases wp.t _ h0 Qo with hz | ⟨n,hx⟩
   ·unfold ZE at y5;rw[hz.1] at y5;simp at y5
   ·exact⟨hx.g,h.nt _ h0 Qo n⟩
  obtain⟨kQ,hgn⟩:=kQ;have hpt:Z2 (Yd W g).ID (Q8 W (gi W.IE c).cur).group=Z2 W.ID (Q8 W (gi W.IE c).cur).group:=zd3 ha h 3 _ kQ hgn;refine⟨y1,y2,y3,y4,?_,?_⟩
  ·unfold ZE Uj at y5 ⊢;rw[show (gi (Yd W g).IE c).cur=(gi W.IE c).cur from rfl,show Q8 (Yd W g) (gi W.IE c).cur=Q8 W (gi W.IE c).cur from rfl,hpt];rw[A',List.all_eq_true] at y5 ⊢;exact⟨y5.1,fun x hx=>by rw[Mu ha h (Yu ha.tree _ kQ x hx).1 (zin ha h _ kQ hgn x hx)]; exact y5.2 x hx⟩
  ·unfold P7 VU at y6 ⊢;rw[show (gi (Yd W g).IE c).cur=(gi W.IE c).cur from rfl,show (gi (Yd W g).IE c).WS=(gi W.IE c).WS from rfl,show Q8 (Yd W g) (gi W.IE c).cur=Q8 W (gi W.IE c).cur from rfl,hpt,Mu ha h kQ hgn];rw[A',List.all_eq_true] at y6 ⊢;refine⟨y6.1,fun x hx=>?_⟩;obtain⟨xu,xz⟩:=Yu ha.tree _ kQ x hx;have xg:=zin ha h _ kQ hgn x hx;rw[Mu ha h xu xg,Gn ha h xu xg,Mu ha h (hpu xu xz) (NZ ha h xu xz)];exact y6.2 x hx
 ·have cl:c<(W.IE.length:Int):=c1;obtain⟨hk,hkg⟩:=(Na ha h).1 hu
  have Af6:∀j,j<20->Zm (Yd W g) k c j=Zm W k c j:=fun j hj=>by
   by_cases uE:j<12
   ·rw[VC uE,VC uE]; rfl
   ·rw[show j=12+(j-12) by omega,JK,JK,zkp wp h c0 cl (j-12)]
  have hv:∀j,j<20->Zm (Yd W g) k c j=true->Zn (Yd W g) c j=Zn W c j:=fun j hj hm=>by
   unfold Zn;split
   ·rfl
   ·rename_i uE;have hm2:=hm;rw[show j=12+(j-12) by omega,JK] at hm2;unfold J1 at hm2;simp only[A'] at hm2
    have gA:((j-12:Nat):Int)≠g:=fun e=>by
     have hu2:=hm2.1.2.1;rw[Kr ha h Qo,E' e.symm] at hu2;cases hu2
    rw[Af6 j hj,show j=12+(j-12) by omega,JK] at hm;unfold J1 at hm;simp only[A'] at hm;rw[Mu ha h (Q5.2 ⟨Qo,Qo,hm.1.2.1⟩) gA]
  have e:QQ (Zm (Yd W g) k c) (Zn (Yd W g) c) 20=QQ (Zm W k c) (Zn W c) 20:=Pm Af6 hv;have pY:=iv.fl k c hk c0 cl (by unfold ZN at hb ⊢; rwa[e] at hb);rw[Mu ha h hk hkg];refine Int.le_trans (Int.le_of_eq ?_) pY;unfold ZN at hb;have hb:=Ot hb;rw[e] at hb;unfold Zf;rw[e,C' Qo,C' Qo];rcases Zl (Zm W k c) (Zn W c) 20 with ⟨q,_⟩ | ⟨_,q2,q3,_⟩
  ·omega
  ·have IQ:(QQ (Zm W k c) (Zn W c) 20).toNat<20:=Qo;exact hv _ IQ (by rw[Af6 _ IQ]; exact q3)
def H4(W:Q7)(g:Int):Prop:=(∃h:Int,1<=h/\h<8/\(gi W.ID h).used=true/\(gi W.ID h).parent=g)\/∃t:Int,0<=t/\t<12/\(Q8 W t).state≠0/\(Q8 W t).group=g
noncomputable def Vf(W:Q7)(g:Int):Int:=if g=0 then 1 else if Q6 W.ID g=false then 2 else if XQ (H4 W g)=true then 4 else if QH W=false then 10 else 0
theorem zd4{W:Q7}{g:Int}(hb:Vf W g=0):CF W g/\QH W=true:=by
 unfold Vf at hb
 split at hb
 ·cases hb
 rename_i h1
 split at hb
 ·cases hb
 rename_i h2
 split at hb
 ·cases hb
 rename_i h3
 split at hb
 ·cases hb
 rename_i h4;have h3:¬H4 W g:=fun h=>h3 (Qi.2 h)
 have hu:Q6 W.ID g=true:=by simpa using h2
 have:=(Q5.1 hu).1;exact⟨⟨Qo,hu,fun h a b c d=>h3 (.inl ⟨h,a,b,c,d⟩),fun t a b c d=>h3 (.inr ⟨t,a,b,c,d⟩)⟩,by simpa using h4⟩
end
def N5(W:Q7)(c:Int):Int:=if Xf W c=false then 1 else if (gi W.IE c).cur<0 then 6 else 0
theorem zvy{W:Q7}{c:Int}(h:N5 W c=0):Xf W c=true/\0<=(gi W.IE c).cur:=by
 unfold N5 at h
 split at h
 ·cases h
 ·rename_i h1
  split at h
  ·cases h
  ·exact⟨by simpa using h1,Qo⟩
section
variable {W:Q7}{m:MW}{w:Wo}{bs:List Nat}
theorem HS{c:Int}(h:Xb [] w W m)(hl:Xh W) :
  Cz UO #[.agg (Qa W m).toArray,I c] w fun e w'=>∃v,e=.returned v/\QJ (Yp W (N5 W c) (RC W c)) w v w':=by
 refine Hz _ _ _ _ _ _ _ _ _ _ c (R:=fun v w'=>QJ (Yp W (N5 W c) (RC W c)) w v w') ?_;intro y hy y1 cY;have hm0:=XJ;have sJ:=hl.c;refine⟨_,JH h hl.c hl.t hl.g hl.f,fun g wr hx=>QJ.bad (by simpa using g) hx,fun g wr R6 SY=>?_⟩;have hW:Qx W=true:=by simpa using g
 have wp:=Qi.1 hW;refine I4 (Ov (h.ext R6) wp.a) ?_;rintro e wv ⟨m',he,hM,SL⟩;have hK:=Wk.begin hy cY R6 SY hM SL;have hr:=hK.rd;refine⟨_,_,_,_,_,_,_,_,_,_,he,Qe SL SY,⟨Qo,Qo⟩,Xf W c,Qm,fun g R2 Rm=>?_,fun g=>?_⟩
 ·have hb:N5 W c=1:=by unfold N5; rw[E' (by simpa using g)]
  exact QJ.no hW (by rw[hb]; decide) (hK.step Rm) hb
 have g:Xf W c=true:=by simpa using g
 obtain⟨c0,c1⟩:=Tt g;refine⟨hr.c.ix Y0 c0 c1,_,hr.c.f c0 c1 (j:=1) rfl,fun g2 O' Rm=>?_,fun g2 Ry SZ fU=>?_⟩
 ·have g2:=Ot g2;have hb:N5 W c=6:=by unfold N5; rw[C' (by rw[g]; decide),E' g2]
  exact QJ.no hW (by rw[hb]; decide) (hK.step Rm) hb
 have g2:=Ou g2;have hb:N5 W c=0:=by unfold N5; rw[C' (by rw[g]; decide),C' g2]
 have dQ:=hK.step SZ;refine I4 (Zu dQ.own c0 c1) ?_;rintro e1 Rr ⟨kE,jW⟩;exact⟨_,_,_,_,_,_,_,_,_,_,kE,dQ.kept jW fU,fun RR SK=>QJ.ok hW hb ((dQ.SX jW fU).step SK)⟩
theorem zmk(V:Q7)(t g c:Int)(m:MW):Qa (UT V t g c) m=Qa V m:=by
 unfold UT
 split <;> simp[Qa,RC,RW,IU]
theorem zvd{K:Int}{W:Q7}(sw:SW K W){t:Int}(t0:0<=t)(t1:t<12)(n:(Q8 W t).state≠0):SW K (QV W t):=by
 unfold QV;split
 ·have:=sw.t t t0 t1 n;exact sw.RC this.2.1 this.2.2
 ·exact sw
theorem By{t g:Int}(h:Xb [] w W m)(hl:Xh W) :
  Cz T4 #[.agg (Qa W m).toArray,I t,I g] w fun e w'=>∃v,e=.returned v/\QJ (Yp W (AM W t g) (za4 W t g)) w v w':=by
 refine Bc _ _ _ _ _ _ _ _ _ _ t g (R:=fun v w'=>QJ (Yp W (AM W t g) (za4 W t g)) w v w') ?_;intro y hy y1 cY wr R6 SY;refine I4 (Zb (h.ext R6) hl) ?_;rintro e wv (⟨hW,he,SL⟩ | ⟨hW,m',he,hM,SL⟩)
 ·exact⟨_,_,_,_,_,_,_,_,_,_,_,he,Qe SL SY,fun _ R2 Rm=>QJ.bad hW ((R6.trans SL).fresh Rm fun z hm=>.inl (Yv hy cY z hm)),fun g=>by simp at g⟩
 have hK:=Wk.begin hy cY R6 SY hM SL;have hr:=hK.rd;have wp:=Qi.1 hW;have jV:=wp.a.t;refine⟨_,_,_,_,_,_,_,_,_,_,_,he,Qe SL SY,fun g=>by split at g <;> simp at g,fun _=>⟨_,Jc hr hl.t,_,fun _=>Yt hr.g,fun q O' Rm=>?_,fun q=>?_⟩⟩
 ·have hb:AM W t g=2:=by
   unfold AM;rw[E']
   simpa using q
  exact QJ.no hW (by rw[hb]; decide) (hK.step Rm) hb
 simp only[I0,I7] at q;obtain⟨q1,q2⟩:=q;have n1:¬(ZY W t=false\/Q6 W.ID g=false):=by rw[q1,q2]; simp
 obtain⟨t0,t1,tn⟩:=YH q1;have Wz:=hr.t.ix QL t0 t1;refine⟨fun g3 Ry Rm=>?_,fun g3=>?_⟩
 ·have bH:¬QH W=true:=fun hr=>by rw[E' hr] at g3; simp at g3
  have hb:AM W t g=10:=by unfold AM; rw[C' n1,E' (by simpa using bH)]
  rw[C' bH];exact QJ.no hW (by rw[hb]; decide) (hK.step Rm) hb
 have bH:QH W=true:=Ir fun hr=>by rw[C' hr] at g3; simp at g3
 have hb:AM W t g=0:=by unfold AM; rw[C' n1,C' (by rw[bH]; decide)]
 have sw:=P8 wp (Qi.1 bH);obtain⟨hu,c0,c1⟩:=sw.t t t0 Qo tn;refine⟨Wz,_,_,_,_,_,_,_,_,_,hr.t t t0 t1,fun b2 cD=>⟨fun g4 Ry SZ=>?_,fun g4=>?_⟩⟩
 ·have g4:(Q8 W t).group=g:=by simpa[Q8] using g4
  have hE:za4 W t g=W:=by unfold za4; rw[E' g4]
  have:=QJ.ok (W':=za4 W t g) hW hb (m':=m') (hE.symm▸hK.step SZ)
  rwa[hE] at this ⊢
 have g4:¬(Q8 W t).group=g:=by simpa[Q8] using g4
 have hE:za4 W t g=Qh (UT (QV W t) t g (D2 W t g)):=by unfold za4; rw[C' g4]
 obtain⟨m0,m1,_⟩:=zla wp (g:=g) t0 Qo tn;have hK0:=hK.add cD;refine⟨_,XH hr wp.a.c2 wp.a.tree q2,fun vs bs w1=>bs=[]/\vs=[I (D2 W t g)]/\Q0 [y,y1] wv w1,⟨_,ZT,fun g5=>⟨_,M1,fun RR SK _=>⟨rfl,?_,SK⟩⟩,fun g5 Sn cU _=>⟨rfl,?_,cU⟩⟩,?_⟩
 ·have g5:¬Ze (Qv W g (Q8 W t).mask) (Q8 W t).R9=true:=by simpa[Q8] using g5
  unfold D2; rw[C' g5]; rfl
 ·have g5:Ze (Qv W g (Q8 W t).mask) (Q8 W t).R9=true:=by simpa[Q8] using g5
  unfold D2; rw[E' g5]; rfl
 rintro cv Rr dX ⟨-,hv,hxv⟩;simp only[I5,I6,true_and,and_true] at hv;subst hv;have Cv5:Q0 ([y,y1]++[b2]) wv Rr:=hxv.mono fun x hm=>Ib _ hm
 have hK1:=hK0.step Cv5;have e5:Qa (RC W (Q8 W t).R9) m'=Qa W m':=by simp[Qa,RC,RW]
 refine⟨fun vs bs w1=>bs=[]/\vs=Qa W m'/\Wk 8 ([y,y1]++[b2]) w w1 (QV W t) m',⟨hK1.rd.c.ix Y0 c0 c1,_,hK1.rd.c.f c0 c1 (j:=1) rfl,fun g6 SO lY hs7=>?_,fun g6 WY kW _=>⟨rfl,rfl,?_⟩⟩,?_⟩
 ·have g6:(gi W.IE (Q8 W t).R9).cur=t:=by simpa using g6
  have gV:=hK1.step lY;refine I4 (Zu gV.own c0 c1) ?_;rintro e1 Rx ⟨kE,jW⟩;rw[show Qa (RC W (gi W.tasks t).R9) m'=Qa W m' from e5] at kE;refine⟨_,_,_,_,_,_,_,_,_,_,kE,gV.kept jW hs7,fun W8 rH _=>⟨rfl,rfl,?_⟩⟩;have hlv:QV W t=RC W (Q8 W t).R9:=by unfold QV; rw[E' g6]
  rw[hlv];exact(gV.SX jW hs7).step rH
 ·have g6:¬(gi W.IE (Q8 W t).R9).cur=t:=by simpa using g6
  have hlv:QV W t=W:=by unfold QV; rw[C' g6]
  rw[hlv];exact hK1.step kW
 rintro l RZ Sa Sh S9 Sf Sg S4 S5 S7 Sk gZ ⟨-,hv,nF⟩;simp only[Qa,I5,I6,Iw,true_and,and_true] at hv;obtain⟨rfl,⟨rfl,rfl,rfl⟩,⟨rfl,rfl,rfl⟩,rfl,rfl,rfl⟩:=hv;have swl:=zvd sw t0 Qo tn;have ht:(QV W t).tasks=W.tasks:=by unfold QV; split <;> rfl
 have hg:(QV W t).ID=W.ID:=by unfold QV; split <;> rfl
 have qW:(QV W t).IE.length=W.IE.length:=by
  unfold QV; split
  ·exact H'
  ·rfl
 have hn:(QV W t).now=W.now:=by unfold QV; split <;> rfl
 have eL:∀mm,Qa (QV W t) mm=Qa W mm:=fun mm=>by simp[Qa,ht,hg,qW,hn]
 have tn2:(Q8 (QV W t) t).state≠0:=by rw[XN ht]; exact tn
 have hu2:Q6 (QV W t).ID g=true:=by rw[hg]; exact q2
 have hm1:D2 W t g<((QV W t).IE.length:Int):=by rw[qW]; exact m1
 rw[hE];generalize QV W t=V at nF swl eL tn2 hu2 hm1;generalize D2 W t g=c at m0 hm1;intro Sj AJ0 rG;have dQ:=nF.step AJ0;have Rn:=Uh dQ.own (Me swl) (I3 _) (by simp only[Qn]; decide) (t:=t) (g:=g) (c:=c) t0 Qo tn2 hu2 m0 hm1;rw[eL] at Rn;refine I4 Rn ?_;rintro e2 bI ⟨aQ,kR⟩;have dB:=dQ.SX kR rG;have sf2:=(Nk (Me swl) (I3 _) (t:=t) t0 Qo hu2 m0 hm1).2;have eP:Qa (UT V t g c) m'=Qa W m':=by rw[<-eL]; exact zmk V t g c m'
 refine⟨_,_,_,_,_,_,_,_,_,_,aQ,dQ.kept kR rG,fun Sm A32 AP0=>?_⟩;have rN:=dB.step A32;have sH:=Qu rN.own sf2.w (by simp only[Qn]; decide) (by simp only[Qn]; decide) rN.base;rw[eP] at sH;refine I4 sH ?_;rintro e3 Wy ⟨m2,fH,hy5⟩;exact⟨_,_,_,_,_,_,_,_,_,_,fH,rN.kept hy5 AP0,fun Sr AE0=>QJ.ok hW hb ((rN.SX hy5 AP0).step AE0)⟩
theorem BF{g:Int}(h:Xb bs w W m)(hg8:W.ID.length=8)(Cu9:W.tasks.length=12) :
  PX bs Tb #[.agg (Qa W m).toArray,I g] w (.bool (XQ (H4 W g))):=
 BU _ _ _ _ _ _ _ _ _ _ g fun wr hx=>by
  have h:=(h.ext hx).less (cs:=[]) Qs;intro b hb;refine Xg 8 1 rfl (fun k=>1<=k/\k<=8/\∀j:Int,1<=j->j<(k:Int)->¬((gi W.ID j).used=true/\(gi W.ID j).parent=g)) ⟨Qo,Qo,fun j a b=>by omega⟩ fun k ⟨hk1,hk8,i'⟩=>⟨fun IQ=>?_,fun RH=>?_⟩
  ·have IQ:=Ot IQ;have k0:(0:Int)<=(k:Int):=Qo;refine⟨h.g.ix k0 IQ,_,h.g.used k0 IQ,fun _=>h.g.ix k0 IQ,_,fun _=>h.g.parent k0 IQ,fun q=>?_,fun q=>⟨⟨Qo,Qo⟩,QA Qo ⟨Qo,Qo,fun j a b=>?_⟩⟩⟩
   ·rw[A',It] at q;exact zh5 (.inl ⟨(k:Int),Qo,Qo,q.1,q.2⟩)
   ·by_cases e:j<(k:Int)
    ·exact i' j a e
    ·have:j=(k:Int):=Qo;subst this;rintro⟨q1,q2⟩;rw[q1,It.2 q2] at q;cases q
  ·have RH:=Ou RH;refine Xg 12 0 rfl (fun k=>k<=12/\∀j:Int,0<=j->j<(k:Int)->¬((Q8 W j).state≠0/\(Q8 W j).group=g)) ⟨Qo,fun j a b=>by omega⟩ fun k2 ⟨uF,hnt⟩=>⟨fun RU=>?_,fun bU=>?_⟩
   ·have RU:=Ot RU;have k0:(0:Int)<=(k2:Int):=Qo;refine⟨h.t.ix QL k0 RU,_,h.t.f k0 RU (j:=0) rfl,fun _=>h.t.ix QL k0 RU,_,fun _=>h.t.f k0 RU (j:=1) rfl,fun q=>?_,fun q=>⟨⟨Qo,Qo⟩,QA Qo ⟨Qo,fun j a b=>?_⟩⟩⟩
    ·rw[A',It,Iu] at q;exact zh5 (.inr ⟨(k2:Int),Qo,Qo,q.1,q.2⟩)
    ·by_cases e:j<(k2:Int)
     ·exact hnt j a e
     ·have:j=(k2:Int):=Qo;subst this;rintro⟨q1,q2⟩;have q1:(gi W.tasks (k2:Int)).state≠0:=q1;have q2:(gi W.tasks (k2:Int)).group=g:=q2;rw[Iu.2 q1,It.2 q2] at q;cases q
   ·have bU:=Ou bU;refine Ka ?_;rintro (⟨j,a,b,c,d⟩ | ⟨j,a,b,c,d⟩)
    ·exact i' j a Qo ⟨c,d⟩
    ·exact hnt j a Qo ⟨c,d⟩
theorem PZ{g:Int}(h:Xb [] w W m)(hl:Xh W) :
  Cz Jn #[.agg (Qa W m).toArray,I g] w fun e w'=>∃v,e=.returned v/\QJ (Yp W (Vf W g) (Yd W g)) w v w':=by
 refine E7 _ _ _ _ _ _ _ _ _ _ g (R:=fun v w'=>QJ (Yp W (Vf W g) (Yd W g)) w v w') ?_;intro x hx x1 So wr R6 SY;refine I4 (Ux (g:=g) (ok:=true) (h.ext R6) hl) ?_;rintro e wv (⟨hW,he,hy⟩ | ⟨hW,m',he,hM,hy⟩)
 ·exact⟨_,_,_,_,_,_,_,_,_,_,_,he,Qe hy SY,fun _ R2 Rm=>QJ.bad hW ((R6.trans hy).fresh Rm fun y hm=>.inl (Yv hx So y hm)),fun g=>by simp at g⟩
 have hK:=Wk.begin hx So R6 SY hM hy;have hr:=hK.rd;have wp:=Qi.1 hW;refine⟨_,_,_,_,_,_,_,_,_,_,_,he,Qe hy SY,fun g1 R2 Rm=>?_,fun g1=>⟨_,BF hr wp.a.gl wp.a.t,fun g2 O' Rm=>?_,fun g2=>⟨fun g3 Rt Rm=>?_,fun g3=>?_⟩⟩⟩
 ·have hb:Vf W g=Pz W g true:=by
   by_cases h0:g=0
   ·unfold Vf Pz;rw[E' h0,E' (.inr h0)]
   ·have e0:¬(true=false\/g=0):=by simp[h0]
    by_cases h1:Q6 W.ID g=false
    ·unfold Vf Pz;rw[C' h0,C' e0,E' h1,E' h1]
    ·exfalso
     unfold Pz at g1;rw[C' e0,C' h1] at g1
     split at g1 <;> simp at g1
  exact QJ.no hW (fun h0=>by rw[<-hb,h0] at g1; simp at g1) (hK.step Rm) hb
 all_goals
  have g1':¬g=0/\¬Q6 W.ID g=false:=by
   unfold Pz at g1
   by_cases h0:g=0
   ·rw[E' (.inr h0)] at g1; simp at g1
   ·refine⟨h0,fun h1=>?_⟩;rw[C' (show ¬(true=false\/g=0) by simp[h0]),E' h1] at g1;simp at g1
  have hgB:Pz W g true=if QH W=false then 10 else 0:=by
   unfold Pz;rw[C' (show ¬(true=false\/g=0) by simp[g1'.1]),C' g1'.2]
 ·have hb:Vf W g=4:=by unfold Vf; rw[C' g1'.1,C' g1'.2,E' g2]
  exact QJ.no hW (by rw[hb]; decide) (hK.step Rm) hb
 ·have bH:QH W=false:=by
   cases hq:QH W with
   | false=>rfl
   | true=>rw[hgB,hq] at g3; simp at g3
  have hb:Vf W g=10:=by unfold Vf; rw[C' g1'.1,C' g1'.2,C' (by rw[g2]; decide),E' bH]
  rw[hgB,E' bH];exact QJ.no hW (by rw[hb]; decide) (hK.step Rm) hb
 ·have bH:QH W=true:=by
   cases hq:QH W with
   | true=>rfl
   | false=>rw[hgB,hq] at g3; simp at g3
  have hb:Vf W g=0:=by unfold Vf; rw[C' g1'.1,C' g1'.2,C' (by rw[g2]; decide),C' (by rw[bH]; decide)]
  have hu:Q6 W.ID g=true:=by simpa using g1'.2
  obtain⟨u0,u1,_⟩:=Q5.1 hu;have bW:=wp.a.gl
  have SP:Wk 8 [x,x1] w (RD wv m'.gO (Int.toNat g*14) (Yb Dz K9)) (Yd W g) (TP m' g.toNat K9):=
   ⟨hK.s.call Dq fun y hy=>(hK.own.lt y hy).1,⟨hK.own.Be9 u0 Qo (g:=Dz) (p:=K9) (j:=0) (vs:=Yb Dz K9) ⟨.inl ⟨rfl,rfl,rfl⟩,.inl ⟨rfl,rfl,rfl⟩,.inl ⟨rfl,rfl,rfl⟩⟩ (fun y hy=>by simp[Qp,K9,Qy] at hy) (by simp[Yb]) (by simp[Yb]),fun y hy hm=>by
    rcases V0 y hy with h1 | h1
    ·exact hK.nb y h1 hm
    ·simp[Qp,K9,Qy] at h1⟩⟩
  refine⟨hr.g.ix u0 u1,CE hK.own hK.nb u0 Qo (j:=0) Qd,fun Ry SZ=>?_⟩;have A86:=QJ.ok hW hb (SP.step SZ);have ew:Qa (Yd W g) (TP m' g.toNat K9)=Qa W m':=by simp[Qa,Yd,Rp,TP]
  rw[ew] at A86;have hgz:Pz W g true=0:=by rw[hgB,C' (by rw[bH]; decide)]
  exact A86
end
theorem zsv{V:Q7}(ha:WA V):Xh V:=by
 have h1:=ha.c2;have h2:=ha.t;have h3:=ha.gl;have hm:=Zc;have hn1:=ha.n1;have hn2:=ha.n2;refine⟨Qo,Qo,Qo,fun i a b=>?_⟩;have hb:=PP ha a Qo;have hg:=ha.grp i a Qo;have hz:(⟨[].toArray⟩:ByteArray).size=0:=rfl;refine⟨?_,?_,Qo,Qo,Qo⟩
 ·cases hu:(gi V.ID i).used with
  | false=>rw[(hg.1 hu).n,hz]; omega
  | true=>
   by_cases e:i=0
   ·rw[e,ha.tree.rn,hz]; omega
   ·have:=(MC.1 (ha.tree.nm i Qo Qo hu)).1;omega
 cases hu:(gi V.ID i).used with
 | false=>rw[(hg.1 hu).ne]; exact⟨Qd,Qd⟩
 | true=>
  have hg:=hg.2 hu
  by_cases hq:(gi V.ID i).IT.I'=0
  ·rw[(hg.none hq).2.2]; exact⟨Qd,Qd⟩
  ·have:=hg.IT hq;exact⟨Qo,Qo⟩
theorem KD{n:Nat}{p:Int}{name:ByteArray}{w:Wo}(hn:n<=4) :
  Cz Us #[I (n:Int),I p,.string name] w fun e w'=>∃mg,e=.returned (.agg (Yb (Ox n p name) mg).toArray)/\Ol w.heap.size w' (Ox n p name,mg)/\Q0 [] w w':=by
 refine(A7 (n:Int) p name (R:=fun v w'=>∃mg,v=.agg (Yb (Ox n p name) mg).toArray/\Ol w.heap.size w' (Ox n p name,mg)/\Q0 [] w w') ?_).mono fun e w' ⟨v,he,mg,hv,h3⟩=>⟨mg,by rw[he,hv],h3⟩
 intro b hb b1 eY
 refine⟨fun vs w2=>∃(k:Nat) (o:OA) (cap:Nat),vs=[I (k:Int),.bool true,I p,.string name,I 10,I 15,I 0,I 0,I 0,I 0,I 0,I 0,.slice none 0 0,.slice none 0 0,.slice o k cap]/\k<=n/\Sc w [b,b1] w2/\Ob PS 5 Yw w.heap.size [b,b1] w2 o cap (List.replicate k za5),
  Zo n 0,fun wr hx _=>⟨0,none,0,rfl,Ie _,(((Sc.start w).add hb).add eY).R4 hx,⟨.inl ⟨rfl,rfl,rfl⟩,by simp[Qy]⟩⟩,?_⟩
 rintro c1 l l1 l2 l3 l4 l5 l6 l7 l8 l9 l10 nL nK nJ AJ4 AJ3 AJ2 AJ6 uK AJ5 wv SY ⟨k,o,cap,he,hk,s1,hO⟩;simp only[I5,I6,Value.bool.injEq,Value.string.injEq,Iw,true_and,and_true] at he;obtain⟨rfl,rfl,rfl,rfl,rfl,rfl,rfl,rfl,rfl,rfl,rfl,rfl,⟨rfl,rfl,rfl⟩,⟨rfl,rfl,rfl⟩,rfl,rfl,rfl⟩:=he;refine⟨fun IQ=>?_,fun RH=>?_⟩
 ·have IQ:=Ot IQ;intro b3 hb3 Rt Rm gZ aO;have s2:=s1.put Rm hb3;have uD:=hO.put Rm hb3;obtain⟨o2,c2,w2,U',uG,hO3,R6⟩:=uD.AD2 UZ Oe (x:=za5) gZ s2.ext.size aO (zvn _) (by simp; omega) Qd Z0 #[false,false];have s3:=s2.call R6 fun x hm=>(uD.own.lt x hm).1
  have hL:List.replicate uK za5++[za5]=List.replicate (uK+1) za5:=by rw[List.replicate_succ']
  rw[hL] at U' hO3;rw[List.length_replicate,List.length_replicate] at U';exact⟨_,_,_,w2,U',uG,⟨Qo,Qo⟩,fun Ry SZ _=>⟨⟨uK+1,o2,c2,Qs,Qo,(s3.step SZ).sub Qs,(hO3.step SZ).sub Qs⟩,QS (k:=uK) rfl rfl Qo⟩⟩
 ·have RH:=Ou RH;have:uK=n:=Qo;subst this;intro RR SK;refine⟨⟨none,0,none,0,AJ6,AJ5⟩,?_,⟨.inl ⟨rfl,rfl,rfl⟩,.inl ⟨rfl,rfl,rfl⟩,(hO.step SK).own⟩,(s1.step SK).ext⟩;simp[Yb,Ox,Z4]
theorem zwq:QN≠Zq:=Qd
theorem zt5:QG≠Zq:=Qd
theorem zwp:QG≠QN:=Qd
theorem HJ{i:Int}(h0:0<=i)(h1:i<8):gi (List.replicate 8 TV) i=TV:=by
 obtain⟨k,rfl⟩:=Int.eq_ofNat_of_zero_le h0;rw[Jr (by rw[List.length_replicate]; omega)];exact List.getElem_replicate _
theorem znc{base:Nat}{w:Wo}{o:OA}{cap:Nat}(h:XU VP 14 QG base w o cap (List.replicate 8 TV)):Mo base w o cap (List.replicate 8 TV):=by
 refine⟨h,fun i h0 h1=>?_,fun i j h0 h1 _ _ _ x hm=>?_⟩
 ·rw[HJ h0 (by simpa using h1)];exact⟨.inl ⟨rfl,rfl,rfl⟩,.inl ⟨rfl,rfl,rfl⟩,.inl ⟨rfl,rfl,rfl⟩⟩
 ·rw[HJ h0 (by simpa using h1)] at hm;simp[Qp,TV,Qy] at hm
section
variable {w:Wo}{b:Nat}
def zxc(b:Nat)(w:Wo)(vs:List Va)(bs:List Nat)(w2:Wo):Prop:=
 ∃(bx:Nat) (tO gO:OA) (tC gC:Nat),bs=[bx]/\vs=[I 0,.slice none 0 0,.slice tO 12 tC,.slice gO 8 gC]/\Sc w [b,bx] w2/\Ob YT 9 QN w.heap.size [b,bx] w2 tO tC (List.replicate 12 VV)/\Ob VP 14 QG w.heap.size [b,bx] w2 gO gC (List.replicate 8 TV)
theorem zpz{bs:List Nat}{w1:Wo}(s:Sc w bs w1)(hs:∀x∈bs,x<w1.heap.size):∃(o:OA) (c:Nat) (w2:Wo),(Instr.makeSlice QT (I 12) (I 12):Sem Va).run Tryz.prog w1=.ok (.slice o 12 c) w2/\Q9 bs w1 w2/\Q0 [] w1 w2/\Ob YT 9 QN w.heap.size bs w2 o c (List.replicate 12 VV):=
 ⟨_,_,_,PI TG Pa 12 Qd (by have:=Zc; omega) w1,Qe (QZ _ _) hs,QZ _ _,(Ob.of (Uk (enc:=YT) TG.len QN 12 VV w1) hs).mono s.ext.size⟩
theorem zpy{bs:List Nat}{w1:Wo}(s:Sc w bs w1)(hs:∀x∈bs,x<w1.heap.size):∃(o:OA) (c:Nat) (w2:Wo),(Instr.makeSlice Qw (I 8) (I 8):Sem Va).run Tryz.prog w1=.ok (.slice o 8 c) w2/\Q9 bs w1 w2/\Q0 [] w1 w2/\Ob VP 14 QG w.heap.size bs w2 o c (List.replicate 8 TV):=
 ⟨_,_,_,PI ZR Od 8 Qd (by have:=Zc; omega) w1,Qe (QZ _ _) hs,QZ _ _,(Ob.of (Uk (enc:=VP) ZR.len QG 8 TV w1) hs).mono s.ext.size⟩
theorem BD{n:Nat}(n0:1<=n)(n1:n<=4) :
  Cz T9 #[I (n:Int)] w fun e w'=>∃m,e=.returned (.tuple #[.agg (Qa (Jx n) m).toArray,.bool true])/\Y8 8 w.heap.size w' (Jx n) m/\Q0 [] w w':=by
 refine(Bh (n:Int) (R:=fun v w'=>∃m,v=.tuple #[.agg (Qa (Jx n) m).toArray,.bool true]/\Y8 8 w.heap.size w' (Jx n) m/\Q0 [] w w') ?_).mono fun e w' ⟨v,he,m,hv,h3⟩=>⟨m,by rw[he,hv],h3⟩
 intro b hb;have hin:Yx (n:Int) 1 4=true:=Qt.2 ⟨Qo,Qo⟩;have s0:Sc w [b] w:=(Sc.start w).add hb;refine⟨_,Qm,fun g=>(by rw[hin] at g; cases g),fun _=>⟨zxc b w,?_,?_⟩⟩
 ·refine⟨fun R2 So dX=>?_,fun Sn cU zW=>?_,fun b5 hb5=>⟨fun Sm A32 AP0=>?_,fun Wp BN5 Cu0=>?_⟩⟩
  ·have s1:=s0.R4 So;obtain⟨tO,tC,w2,hr,hk,he,hT⟩:=zpz s1 dX;have s2:=s1.R4 he;refine⟨_,_,_,w2,hr,hk,fun O' R6 SY=>?_,fun b2 cD Ry SZ fU=>?_⟩
   ·have s3:=s2.step R6;obtain⟨gO,gC,w3,hr3,uH,fH,hG⟩:=zpy s3 SY;exact⟨_,_,_,w3,hr3,uH,fun b1 eY Rt Rm _=>⟨b1,tO,gO,tC,gC,rfl,rfl,(s3.R4 fH).put Rm eY,((hT.step R6).R4 fH).put Rm eY,hG.put Rm eY⟩⟩
   ·have s3:=s2.put SZ cD;obtain⟨gO,gC,w3,hr3,uH,fH,hG⟩:=zpy s3 fU;exact⟨_,_,_,w3,hr3,uH,fun RR SK _=>⟨b2,tO,gO,tC,gC,rfl,rfl,(s3.R4 fH).step SK,((hT.put SZ cD).R4 fH).step SK,hG.step SK⟩⟩
  ·have s1:=s0.R4 cU;obtain⟨gO,gC,w2,hr,hk,he,hG⟩:=zpy s1 zW;have s2:=s1.R4 he;refine⟨_,_,_,w2,hr,hk,fun O' R6 SY=>?_,fun b2 cD Ry SZ fU=>?_⟩
   ·have s3:=s2.step R6;obtain⟨tO,tC,w3,hr3,uH,fH,hT⟩:=zpz s3 SY;exact⟨_,_,_,w3,hr3,uH,fun b1 eY Rt Rm _=>⟨b1,tO,gO,tC,gC,rfl,rfl,(s3.R4 fH).put Rm eY,hT.put Rm eY,((hG.step R6).R4 fH).put Rm eY⟩⟩
   ·have s3:=s2.put SZ cD;obtain⟨tO,tC,w3,hr3,uH,fH,hT⟩:=zpz s3 fU;exact⟨_,_,_,w3,hr3,uH,fun RR SK _=>⟨b2,tO,gO,tC,gC,rfl,rfl,(s3.R4 fH).step SK,hT.step SK,((hG.put SZ cD).R4 fH).step SK⟩⟩
  ·have s1:=(s0.add hb5).R4 A32;obtain⟨tO,tC,w2,hr,hk,he,hT⟩:=zpz s1 AP0;refine⟨_,_,_,w2,hr,hk,fun O' R6 SY=>?_⟩;have s3:=(s1.R4 he).step R6;obtain⟨gO,gC,w3,hr3,uH,fH,hG⟩:=zpy s3 SY;exact⟨_,_,_,w3,hr3,uH,fun RR SK _=>⟨b5,tO,gO,tC,gC,rfl,rfl,(s3.R4 fH).step SK,((hT.step R6).R4 fH).step SK,hG.step SK⟩⟩
  ·have s1:=(s0.add hb5).R4 BN5;obtain⟨gO,gC,w2,hr,hk,he,hG⟩:=zpy s1 Cu0;refine⟨_,_,_,w2,hr,hk,fun O' R6 SY=>?_⟩;have s3:=(s1.R4 he).step R6;obtain⟨tO,tC,w3,hr3,uH,fH,hT⟩:=zpz s3 SY;exact⟨_,_,_,w3,hr3,uH,fun RR SK _=>⟨b5,tO,gO,tC,gC,rfl,rfl,(s3.R4 fH).step SK,hT.step SK,((hG.step R6).R4 fH).step SK⟩⟩
 ·rintro l RZ Sa Sh S9 Sf Sg S4 S5 S7 b6 cH rG ⟨bx,tO,gO,tC,gC,hbx,hv,s1,hT,hG⟩;simp only[I5,I6,Iw,true_and,and_true] at hbx hv;subst hbx;obtain⟨rfl,⟨rfl,rfl,rfl⟩,⟨rfl,rfl,rfl⟩,rfl,rfl,rfl⟩:=hv
  refine⟨fun vs w2=>∃(k:Nat) (o:OA) (cap:Nat),vs=[I (k:Int),I 0,.slice o k cap,.slice S9 12 Sg,.slice S4 8 S7]/\k<=n/\Sc w [b,b6] w2/\Ob Mx 5 Zq w.heap.size [b,b6] w2 o cap (List.replicate k (⟨true,-1,0,0,0⟩:Pf))/\Ob YT 9 QN w.heap.size [b,b6] w2 S9 Sg (List.replicate 12 VV)/\Ob VP 14 QG w.heap.size [b,b6] w2 S4 S7 (List.replicate 8 TV),
   Zo n 0,fun wr hx _=>⟨0,none,0,rfl,Ie _,s1.step hx,⟨.inl ⟨rfl,rfl,rfl⟩,by simp[Qy]⟩,hT.step hx,hG.step hx⟩,?_⟩
  rintro c1 l4 mL jA mJ mB oM lZ kL nN mM wv SY ⟨k,o,cap,he,hk,s2,hC,hT2,hG2⟩;simp only[I5,I6,Iw,true_and,and_true] at he;obtain⟨rfl,rfl,⟨rfl,rfl,rfl⟩,⟨rfl,rfl,rfl⟩,rfl,rfl,rfl⟩:=he;clear hT hG;refine⟨fun IQ=>?_,fun RH=>?_⟩
  ·have IQ:=Ot IQ;intro b3 hb3 Rt Rm gZ aO;have s3:=s2.put Rm hb3;have hC2:=hC.put Rm hb3;obtain⟨o2,c2,w2,U',uG,hC3,R6⟩:=hC2.AD2 Mw PK (x:=(⟨true,-1,0,0,0⟩:Pf)) gZ s3.ext.size aO (zvl _) (by simp; omega) Qd Zj #[false,false];have s4:=s3.call R6 fun x hm=>(hC2.own.lt x hm).1
   have hT3:=(hT2.put Rm hb3);have hT4:Ob YT 9 QN w.heap.size [b,b6,b3] w2 mB lZ (List.replicate 12 VV):=⟨hT3.own.ext R6 (hT3.own.Wb hC2.own zwq),hT3.nb⟩;have hG3:=(hG2.put Rm hb3);have hG4:Ob VP 14 QG w.heap.size [b,b6,b3] w2 kL mM (List.replicate 8 TV):=⟨hG3.own.ext R6 (hG3.own.Wb hC2.own zt5),hG3.nb⟩;have hL:List.replicate jA (⟨true,-1,0,0,0⟩:Pf)++[⟨true,-1,0,0,0⟩]=List.replicate (jA+1) (⟨true,-1,0,0,0⟩:Pf):=by rw[List.replicate_succ']
   rw[hL] at U' hC3;rw[List.length_replicate,List.length_replicate] at U';exact⟨_,_,_,w2,U',uG,⟨Qo,Qo⟩,fun Ry SZ _=>⟨⟨jA+1,o2,c2,Qs,Qo,(s4.step SZ).sub Qs,(hC3.step SZ).sub Qs,(hT4.step SZ).sub Qs,(hG4.step SZ).sub Qs⟩,QS (k:=jA) rfl rfl Qo⟩⟩
  ·have RH:=Ou RH;have:jA=n:=Qo;subst this;intro RR SK kK;have s3:=s2.step SK;have hC3:=hC.step SK;have hT3:=hT2.step SK;have hG3:=hG2.step SK;refine(KD n1).mono fun e w3 ⟨mg,he,hM,Rm⟩=>?_
   have s4:=s3.R4 Rm;have hC4:=hC3.R4 Rm;have hT4:=hT3.R4 Rm;have hG4:=hG3.R4 Rm;have G:=znc hG4.own
   have hmb:∀x∈Qp mg,x∉[b,b6]:=fun x hm hx=>by
    have h1:=(hM.lt x hm).1;have h2:=kK x hx;omega
   have P:=G.put (i:=0) (I3 _) Qs (p:=(Ox jA (-1) ⟨[].toArray⟩,mg)) (hM.mono s3.ext.size) fun j j0 j1 _ x hm=>by
    rw[HJ j0 (by simpa using j1)] at hm;simp[Qp,TV,Qy] at hm
   have hxs:=hG4.own.rJ (Int.toNat 0*14) (VP (Ox jA (-1) ⟨[].toArray⟩,mg));have s5:Sc w [b,b6] (RD w3 kL (Int.toNat 0*14) (VP (Ox jA (-1) ⟨[].toArray⟩,mg))):=⟨hG4.own.CZ9 _ _ s4.ext (I8 _),s4.new⟩;have hC5:=hC4.own.ext hxs (hC4.own.Wb hG4.own zt5.symm);have hT5:=hT4.own.ext hxs (hT4.own.Wb hG4.own zwp.symm);refine⟨_,_,_,_,_,_,_,_,_,_,_,_,_,_,_,_,_,_,_,_,he,Qe Rm kK,rfl,hG4.own.ix (I3 _) Qs,hG4.own.wr ZR.len hG4.nb (i:=0) (j:=0) (I3 _) Qs Qd,fun wr hx=>⟨⟨mL,mJ,mB,lZ,kL,mM,fun k=>if k=0 then mg else TV.2⟩,?_,⟨?_,?_,?_,rfl⟩,(s5.step hx).ext⟩⟩
   ·simp[Qa,Jx]
   ·exact hC5.ext hx hC4.nb
   ·exact hT5.ext hx hT4.nb
   ·have hps:zji (Jx jA) ⟨mL,mJ,mB,lZ,kL,mM,fun k=>if k=0 then mg else TV.2⟩=(List.replicate 8 TV).set (Int.toNat 0) (Ox jA (-1) ⟨[].toArray⟩,mg):=rfl;rw[hps];refine⟨P.row.ext hx hG4.nb,fun i i0 i1=>(P.each i i0 i1).ext hx fun x hm=>?_,P.dj⟩;have hi8:i<8:=by simpa using i1
    have:=QC (List.replicate 8 TV) (Ox jA (-1) ⟨[].toArray⟩,mg) (i:=0) (j:=i) (I3 _) Qs i0;rw[this] at hm
    split at hm
    ·exact hmb x hm
    ·rw[HJ i0 hi8] at hm;simp[Qp,TV,Qy] at hm
end
def Th(W:Q7)(j:Nat):Bool:=decide (1<=j) && !(gi W.ID (j:Int)).used
def Vx(W:Q7):Int:=Gz (Th W) 8
def zv7(W:Q7)(p:Int)(name:ByteArray):Prop:=∃h:Int,1<=h/\h<8/\(gi W.ID h).used=true/\(gi W.ID h).parent=p/\(gi W.ID h).name=name
open Classical in
noncomputable def K8(W:Q7)(p:Int)(name:ByteArray):Int:=if JM name=false then 1 else if Q6 W.ID p=false then 2 else if zv7 W p name then 7 else if dep 3 W.ID p=3 then 9 else if Vx W<0 then 3 else if QH W=false then 10 else 0
def zpw(W:Q7)(p:Int)(name:ByteArray):Q7:=TW W (Vx W) p name
theorem zgj(W:Q7):(Vx W = -1/\∀h:Int,1<=h->h<8->(gi W.ID h).used=true)\/(1<=Vx W/\Vx W<8/\(gi W.ID (Vx W)).used=false):=by
 rcases PV (Th W) 8 with ⟨h1,h2⟩ | ⟨h1,h2,h3,_⟩
 ·refine .inl ⟨h1,fun h a b=>?_⟩;have:=h2 h.toNat Qo;unfold Th at this;rw[show ((h.toNat:Nat):Int)=h by omega,Ii (by omega:1<=h.toNat)] at this
  simpa using this
 ·have e:(((Vx W).toNat:Nat):Int)=Vx W:=by unfold Vx; omega
  have h3:Th W (Vx W).toNat=true:=h3;unfold Th at h3;rw[e,A',Ik,IC] at h3;refine .inr ⟨Qo,by unfold Vx; omega,h3.2⟩
theorem AK{W:Q7}{p:Int}{name:ByteArray}(hb:K8 W p name=0):CH W (Vx W) p name/\QH W=true:=by
 unfold K8 at hb
 split at hb
 ·cases hb
 rename_i h1
 split at hb
 ·cases hb
 rename_i h2
 split at hb
 ·cases hb
 rename_i h3
 split at hb
 ·cases hb
 rename_i h4
 split at hb
 ·cases hb
 rename_i h5
 split at hb
 ·cases hb
 rename_i h6;rcases zgj W with ⟨a,_⟩ | ⟨a,b,c⟩
 ·omega
 ·exact⟨⟨a,b,c,by simpa using h2,by simpa using h1,fun h a1 a2 u e=>h3 ⟨h,a1,a2,u,e.1,e.2⟩,h4⟩,by simpa using h6⟩
section
variable {W:Q7}{m:MW}{w:Wo}
theorem M0{p:Int}{name:ByteArray}(h:Xb [] w W m)(hl:Xh W) :
  Cz QB #[.agg (Qa W m).toArray,I p,.string name] w fun e w'=>∃v,e=.returned v/\TB (Vd W (K8 W p name) (zpw W p name) (Vx W)) w v w':=by
 refine E8 _ _ _ _ _ _ _ _ _ _ p name (R:=fun v w'=>TB (Vd W (K8 W p name) (zpw W p name) (Vx W)) w v w') ?_;intro y hy y1 cY wr R6 SY;refine I4 (Zb (h.ext R6) hl) ?_;rintro e wv (⟨hW,he,SL⟩ | ⟨hW,m',he,hM,SL⟩)
 ·exact⟨_,_,_,_,_,_,_,_,_,_,_,he,Qe SL SY,true,fun g=>by simp at g,fun _ R2 Rm=>TB.bad hW ((R6.trans SL).fresh Rm fun z hm=>.inl (Yv hy cY z hm)),fun g=>by simp at g⟩
 have hK:=Wk.begin hy cY R6 SY hM SL;have hr:=hK.rd;have wp:=Qi.1 hW;have bW:=wp.a.gl;have uS:((if QH W=true then 0 else 10:Int)==1)=false:=by split <;> rfl
 refine⟨_,_,_,_,_,_,_,_,_,_,_,he,Qe SL SY,_,fun _=>LZ,fun g1 R2 Rm=>?_,fun g1=>⟨_,Yt hr.g,fun g2 O' Rm=>?_,fun g2=>?_⟩⟩
 ·rw[uS] at g1;have hb:K8 W p name=1:=by unfold K8; rw[E' (by simpa using g1)]
  exact TB.no hW (by rw[hb]; decide) (hK.step Rm) hb
 ·rw[uS] at g1;have n1:¬JM name=false:=by simpa using g1
  have hb:K8 W p name=2:=by unfold K8; rw[C' n1,E' (by simpa using g2)]
  exact TB.no hW (by rw[hb]; decide) (hK.step Rm) hb
 rw[uS] at g1;have n1:¬JM name=false:=by simpa using g1
 have hu:Q6 W.ID p=true:=by simpa using g2
 have n2:¬Q6 W.ID p=false:=by rw[hu]; decide
 refine⟨fun vs w1=>∃k:Nat,vs=[I (k:Int),I 0,.slice none 0 0,.slice none 0 0,.slice none 0 0]/\1<=k/\k<=8/\(∀q:Int,1<=q->q<(k:Int)->(gi W.ID q).used=true->¬((gi W.ID q).parent=p/\(gi W.ID q).name=name))/\Q0 [y,y1] wv w1,
  Zo 8 0,fun w1 uV _=>⟨1,rfl,Qo,Qo,fun q a b=>by omega,uV⟩,?_⟩
 rintro h1 l RZ Sa Sh S9 Sf Sg S4 S5 S7 Rx gZ ⟨k,aQ,hk1,hk8,i',hxw⟩;simp only[I5,I6,Iw,true_and,and_true] at aQ;obtain⟨rfl,rfl,⟨rfl,rfl,rfl⟩,⟨rfl,rfl,rfl⟩,rfl,rfl,rfl⟩:=aQ;have hK1:=hK.step hxw;have uU:=hK1.rd;refine⟨fun IQ=>?_,fun RH=>?_⟩
 ·have IQ:=Ot IQ;have dW:(0:Int)<=(k:Int):=Qo;refine⟨uU.g.ix dW IQ,_,uU.g.used dW IQ,fun _=>uU.g.ix dW IQ,_,fun _=>uU.g.parent dW IQ,fun _=>uU.g.ix dW IQ,_,fun _=>uU.g.name dW IQ,fun g3 RR SK=>?_,fun g3=>⟨⟨Qo,Qo⟩,fun Sn cU _=>⟨⟨k+1,Qs,Qo,Qo,fun q q1 q2 qu=>?_,hxw.trans cU⟩,QS (k:=k) rfl rfl Qo⟩⟩⟩
  ·rw[A',A',JZ,It] at g3;have hb:K8 W p name=7:=by unfold K8; rw[C' n1,C' n2,E' ⟨k,Qo,Qo,g3.1.1,g3.1.2,g3.2⟩]
   exact TB.no hW (by rw[hb]; decide) (hK1.step SK) hb
  ·by_cases e:q<(k:Int)
   ·exact i' q q1 e qu
   ·have:q=(k:Int):=Qo;subst this;rintro⟨c1,c2⟩;rw[qu,It.2 c1,JZ.2 c2] at g3;cases g3
 have RH:=Ou RH;have:k=8:=Qo;subst this;have n3:¬zv7 W p name:=fun ⟨q,a,b,c,d,e⟩=>i' q a Qo c ⟨d,e⟩
 refine⟨_,OZ uU.g (by rw[bW]; have:=Zc; omega),fun g4 SO lY=>?_,fun g4=>⟨⟨Qo,Qo⟩,?_⟩⟩
 ·rw[zd2 wp.a.tree hu,It] at g4;have hb:K8 W p name=9:=by unfold K8; rw[C' n1,C' n2,C' n3,E' g4]
  exact TB.no hW (by rw[hb]; decide) (hK1.step lY) hb
 rw[zd2 wp.a.tree hu,beq_eq_false_iff_ne] at g4
 refine⟨fun vs w1=>∃a t:Int,vs=[I a,I t]/\0<=t/\t<8/\(a = -1/\(∀j:Nat,t<(j:Int)->j<8->Th W j=false)\/t<a/\a<8/\Th W a.toNat=true/\∀j:Nat,t<(j:Int)->(j:Int)<a->Th W j=false)/\Q0 [y,y1] Rx w1,
  fun vs _=>(Y5 1 vs+1).toNat,fun w1 uV _=>⟨-1,_,rfl,Qo,Qo,.inl ⟨rfl,fun j h1 h2=>by omega⟩,uV⟩,?_⟩
 rintro av tv Sk fU ⟨a,t,aQ,ht0,ht1,AO4,CI0⟩;simp only[I5,I6,true_and,and_true] at aQ;obtain⟨rfl,rfl⟩:=aQ;have gV:=hK1.step CI0;have tG:=gV.rd;refine⟨fun IQ=>?_,fun bU=>?_⟩
 ·have IQ:=Ot IQ;have e:((tv.toNat:Nat):Int)=tv:=Qo;have qB:Th W tv.toNat = !(gi W.ID tv).used:=by unfold Th; rw[e,Ii (by omega:1<=tv.toNat)]; rfl
  refine⟨tG.g.ix Qo Qo,_,tG.g.used Qo Qo,fun g3=>⟨⟨Qo,Qo⟩,fun RR SK _=>⟨⟨tv,tv-1,rfl,Qo,Qo,.inr ⟨Qo,ht1,by rw[qB]; exact g3,fun j h1 h2=>by omega⟩,CI0.trans SK⟩,?_⟩⟩,fun g3=>⟨⟨Qo,Qo⟩,fun Sn cU _=>⟨⟨av,tv-1,rfl,Qo,Qo,?_,CI0.trans cU⟩,?_⟩⟩⟩
  ·simp only[Y5,Ig,List.getElem?_cons_succ]; omega
  ·have g3:Th W tv.toNat=false:=by rw[qB]; exact g3
   have one:∀j:Nat,tv-1<(j:Int)->¬tv<(j:Int)->Th W j=false:=fun j h1 h2=>by
    have:j=tv.toNat:=Qo;rw[this]; exact g3
   rcases AO4 with ⟨h1,h2⟩ | ⟨h1,h2,h3,h4⟩
   ·exact .inl ⟨h1,fun j j1 j2=>if h:tv<(j:Int) then h2 j h j2 else one j j1 h⟩
   ·exact .inr ⟨Qo,h2,h3,fun j j1 j2=>if h:tv<(j:Int) then h4 j h j2 else one j j1 h⟩
  ·simp only[Y5,Ig,List.getElem?_cons_succ]; omega
 have bU:=Ou bU;have ht:tv=0:=Qo;subst ht;have hz:Th W 0=false:=rfl
 have sI:av=Vx W:=by
  rcases AO4 with ⟨h1,h2⟩ | ⟨h1,h2,h3,h4⟩
  ·rw[h1]; exact(zkv fun j hj=>if e:j=0 then by rw[e]; exact hz else h2 j Qo hj).symm
  ·exact(zku Qo h2 h3 fun j hj=>if e:j=0 then by rw[e]; exact hz else h4 j Qo hj).symm
 subst sI;refine⟨fun g5 SO lY=>?_,fun g5=>⟨fun g6 W8 rH=>?_,fun g6 T' Br9 CV2=>?_⟩⟩
 ·have g5:=Ot g5;have hb:K8 W p name=3:=by unfold K8; rw[C' n1,C' n2,C' n3,C' g4,E' g5]
  exact TB.no hW (by rw[hb]; decide) (gV.step lY) hb
 ·have g5:=Ou g5;have bH:¬QH W=true:=fun hr=>by rw[E' hr] at g6; simp at g6
  have hb:K8 W p name=10:=by unfold K8; rw[C' n1,C' n2,C' n3,C' g4,C' g5,E' (by simpa using bH)]
  rw[C' bH];exact TB.no hW (by rw[hb]; decide) (gV.step rH) hb
 have g5:=Ou g5;have bH:QH W=true:=Ir fun hr=>by rw[C' hr] at g6; simp at g6
 have hb:K8 W p name=0:=by unfold K8; rw[C' n1,C' n2,C' n3,C' g4,C' g5,C' (by rw[bH]; decide)]
 obtain⟨hf,_⟩:=AK hb;have a1:=hf.a1;have a8:=hf.a8;have nF:=gV.step Br9;refine(KD (n:=W.IE.length) wp.a.c2).mono fun e1 bI ⟨mg,kE,hMg,SZ⟩=>?_
 have dQ:=nF.R4 SZ;have hold:∀x∈QD 8 m',x<T'.heap.size:=fun x hx=>(nF.own.lt x hx).2
 have oA:∀x∈Qp mg,T'.heap.size<=x:=fun x hx=>(hMg.lt x hx).1
 have SP:Wk 8 [y,y1] w (RD bI m'.gO (Int.toNat (Vx W)*14) (Yb (Ox W.IE.length p name) mg)) (zpw W p name) (TP m' (Vx W).toNat mg):=
  ⟨dQ.s.call Dq fun x hx=>(dQ.own.lt x hx).1,⟨dQ.own.Be9 Qo a8 (g:=Ox W.IE.length p name) (p:=mg) (j:=0) (vs:=Yb (Ox W.IE.length p name) mg) (hMg.mono nF.base) (fun x hx=>.inl fun eH=>by have:=hold x eH; have:=oA x hx; omega) (by simp[Yb,Z4]) (by simp[Yb,Z4]),fun x hx hm=>by
   rcases V0 x hx with h1 | h1
   ·exact dQ.nb x h1 hm
   ·have:=oA x h1;have:=CV2 x hm;omega⟩⟩
 refine⟨_,_,_,_,_,_,_,_,_,_,_,_,_,_,_,_,_,_,_,_,kE,Qe SZ CV2,rfl,tG.g.ix Qo Qo,CE dQ.own dQ.nb Qo a8 (j:=0) (k:=14) Qd,fun Wp BN5=>?_⟩;have A86:=TB.ok (a:=Vx W) hW hb (SP.step BN5);have ew:Qa (zpw W p name) (TP m' (Vx W).toNat mg)=Qa W m':=by simp[Qa,zpw,TW,Rp,TP]
 rw[ew] at A86;exact A86
end
inductive Xw (W:Q7):Q7->Prop
 | same:Xw W W
 | run (c n:Int) (hb:Df W c n=0):Xw W (znk W c n)
 | yld (c:Int) (hb:N5 W c=0):Xw W (RC W c)
 | fork (g n x:Int) (hb:TK W g n x=0):Xw W (zgi W g n x)
 | block (t:Int) (hb:Ve W t=0):Xw W (zdw W t)
 | wake (t:Int) (hb:Pq W t=0):Xw W (Fp W t)
 | exit (t:Int) (hb:TI W t=0):Xw W (Fg W t)
 | nice (t n:Int) (hb:Ok W t n=0):Xw W (KN W t n)
 | pin (t x:Int) (hb:GR W t x=0):Xw W (zqi W t x)
 | mov (t g:Int) (hb:AM W t g=0):Xw W (za4 W t g)
 | mak (a p:Int) (name:ByteArray) (hm:CH W a p name):Xw W (TW W a p name)
 | drp (g:Int) (hd:CF W g):Xw W (Yd W g)
 | wgh (g x:Int) (hb:zh4 W g x=0):Xw W (zrc W g x)
 | gpn (g x:Int) (hb:zgl W g x=0):Xw W (zo7 W g x)
 | lim (g q p:Int) (hb:zgx W g q p=0):Xw W (zsz W g q p)
 | time (n:Int) (hb:MY W n=0):Xw W (zc7 W n)
 | bal (c:Int) (hb:Hu W c=0):Xw W (zds W c)
 | off (c:Int) (hb:UE W c true (KO W)=0):Xw W (zp8 W c)
 | on (c:Int) (hb:UE W c false 0=0):Xw W (zwr W c)
structure Pg (P:Nat->Q7->Prop):Prop where
 mono:∀{n m:Nat} {W:Q7},n<=m->P n W->P m W
 new:∀{n k:Nat},1<=k->k<=4->P n (Jx k)
 fork:∀{n:Nat} {W:Q7} {g q x:Int},J0 W->P n W->TK W g q x=0->P n (zgi W g q x)
 mak:∀{n:Nat} {W:Q7} {a p:Int} {name:ByteArray},J0 W->P n W->CH W a p name->P n (TW W a p name)
 SX:∀{n:Nat} {W V:Q7},n<=10000->J0 W->P n W->Xw W V->P (n+10) V
def DB(_:Nat)(_:Q7):Prop:=True
theorem Mt:Pg DB:=⟨fun _ _=>trivial,fun _ _=>trivial,fun _ _ _=>trivial,fun _ _ _=>trivial,fun _ _ _ _=>trivial⟩
theorem Q0.kept{bs B:List Nat}{w w':Wo}(h:Q0 bs w w')(hB:∀x∈B,x<w.heap.size/\x∉bs):Q9 B w w':=fun x hx=>h.block x (hB x hx).1 (hB x hx).2
theorem zpn{b x:Nat}{w w':Wo}(h:Q0 [b] w w')(h1:x<w.heap.size)(h2:x≠b):Q9 [x] w w':=h.kept fun y hy=>by
 rw[IA.1 hy]; exact⟨h1,by simpa using h2⟩
def zv0(v:Int):Prop := -2<=v/\v<=21
theorem zgu{b:Nat}{c:OA}{L N:Nat}{w:Wo}(h:Jv b c L N w)(hN:N<=900000000000) :
  Cz ZB #[.pointer (some ⟨b,0,none⟩)] w fun e w'=>∃v,e=.returned (I v)/\zv0 v/\Jv b c L (N+2) w'/\Q0 [b] w w':=by
 refine(LH (some ⟨b,0,none⟩) (R:=fun v w'=>∃x,v=I x/\zv0 x/\Jv b c L (N+2) w'/\Q0 [b] w w') ?_).mono fun e w' ⟨v,he,x,hv,h1,h2,h3⟩=>⟨x,by rw[he,hv],h1,h2,h3⟩
 refine fun wr hx _=>(GD (h.bG hx) Qo).mono fun e w1 ⟨v,he,hv,uU,So⟩=>⟨v,he,Ui,fun _=>?_,fun _ b1 eY Rt Rm mH=>?_⟩
 ·refine fun R2 hy _=>(GD (uU.bG hy) Qo).mono fun e w2 ⟨u,he,hu,tG,R6⟩=>⟨u,he,Ui,?_⟩
  have hu1:=hu.1;have hu2:=hu.2.2 Qd;exact⟨Js Qo Qo,fun O' hz=>⟨_,rfl,⟨Qo,Qo⟩,tG.bG hz,(hx.of_nil.trans So).trans (hy.of_nil.trans (R6.trans hz.of_nil))⟩⟩
 ·refine(GD (uU.bG Rm) Qo).mono fun e w2 ⟨u,he,hu,tG,R6⟩=>⟨u,he,zpn R6 (mH b1 Qs) (by have:=uU.lt; omega),?_⟩
  have hu1:=hu.1;have hu2:=hu.2.2 Qd
  have fin:∀(x:Int),zv0 x->∀Ry,Q0 [b1] w2 Ry->∃x',I x=I x'/\zv0 x'/\Jv b c L (N+2) Ry/\Q0 [b] w Ry:=fun x hxv Ry hz=>
   ⟨x,rfl,hxv,uU.Cl1 tG hz (by simpa using eY),(hx.of_nil.trans So).trans ((Rm.of_nil.trans R6)) |>.fresh hz (fun y hy=>by
    rw[IA.1 hy];have h1:=hx.size; have h2:=So.size;exact .inl Qo)⟩
  have:u=0\/u=1\/u=2\/u=3\/u=4\/u=5\/u=6\/u=7\/u=8\/u=9:=Qo;refine⟨⟨hu1,hu2⟩,?_⟩;rcases this with rfl | rfl | rfl | rfl | rfl | rfl | rfl | rfl | rfl | rfl <;> exact⟨_,⟨Qd,rfl⟩,fin _ ⟨Qd,Qd⟩⟩
def H3(c:OA)(L:Nat)(w:Wo):Prop:=∀i<L,∃(a:Addr) (x:Int),c=some a/\0<=x/\x<=255/\w.cell? (a.add i)=some (.int .u8 x)
theorem H3.ext{c:OA}{L:Nat}{w w':Wo}(h:H3 c L w)(hx:Q0 [] w w'):H3 c L w':=fun i hi=>by
 obtain⟨a,x,ha,h1,h2,h3⟩:=h i hi;obtain⟨a',e,_,h''⟩:=(show Jz [] w c i (.int .u8 x) from ⟨a,ha,Qs,h3⟩).ext hx;rw[ha] at e; cases e; exact⟨a,x,ha,h1,h2,h''⟩
structure RS (rb:Nat) (c:OA) (L N:Nat) (bs:List Nat) (w:Wo):Prop where
 rd:Jv rb c L N w
 nb:rb∉bs
 oc:∀a,c=some a->a.block∉bs\/L=0
section
variable {rb:Nat}{c:OA}{L N:Nat}{bs cs:List Nat}{w w':Wo}{b:Nat}
theorem RS.step(h:RS rb c L N bs w)(hx:Q0 bs w w'):RS rb c L N bs w':=⟨h.rd.ext hx h.nb h.oc,h.nb,h.oc⟩
theorem RS.R4(h:RS rb c L N bs w)(hx:Q0 [] w w'):RS rb c L N bs w':=⟨h.rd.bG hx,h.nb,h.oc⟩
theorem RS.call(h:RS rb c L N bs w)(hx:Q0 cs w w')(h1:rb∉cs)(h2:∀a,c=some a->a.block∉cs\/L=0):RS rb c L N bs w':=⟨h.rd.ext hx h1 h2,h.nb,h.oc⟩
theorem RS.add(h:RS rb c L N bs w)(hb:w.heap.size<=b):RS rb c L N (bs++[b]) w:=⟨h.rd,fun hm=>by
 rcases Io.1 hm with hm | hm
 ·exact h.nb hm
 ·have:rb=b:=by simpa using hm
  have:=h.rd.lt;omega,fun a ha=>by
 rcases h.oc a ha with h1 | h1
 ·rcases h.rd.ltc a ha with h2 | h2
  ·refine .inl fun hm=>?_
   rcases Io.1 hm with hm | hm
   ·exact h1 hm
   ·have:a.block=b:=by simpa using hm
    omega
  ·exact .inr h2
 ·exact .inr h1⟩
theorem RS.sub(h:RS rb c L N bs w)(hs:∀x∈cs,x∈bs):RS rb c L N cs w:=⟨h.rd,fun hm=>h.nb (hs _ hm),fun a ha=>by
 rcases h.oc a ha with h1 | h1
 ·exact .inl fun hm=>h1 (hs _ hm)
 ·exact .inr h1⟩
theorem RS.upd{M:Nat}(h:RS rb c L N bs w)(k:Jv rb c L M w'):RS rb c L M bs w':=⟨k,h.nb,h.oc⟩
theorem RS.mono{M:Nat}(h:RS rb c L N bs w)(hm:N<=M):RS rb c L M bs w:=⟨h.rd.mono hm,h.nb,h.oc⟩
theorem Sc.Bu3{w0:Wo}(h:Sc w0 (rb::bs) w)(hx:Q0 bs w w'):Sc w0 (rb::bs) w':=h.step (hx.mono fun _ hm=>I2 _ hm)
theorem Sc.CA5{w0:Wo}(h:Sc w0 (rb::bs) w)(hx:Q0 [rb] w w'):Sc w0 (rb::bs) w':=h.step (hx.mono fun x hm=>by
 have:x=rb:=by simpa using hm
 subst this; simp)
theorem P0(h:RS rb c L N bs w)(hx:Q0 [rb] w w')(hs:∀x∈bs,x<w.heap.size):Q9 bs w w':=KH hx hs fun x hm fS=>by
 have:x=rb:=by simpa using hm
 subst this; exact h.nb fS
end
section
variable {α:Type}{enc:α->List Va}{z:Nat}{ty:TypeId}{base rb:Nat}{bs:List Nat}{w w':Wo}{o:OA}{cap:Nat}{l:List α}{b:Nat}
end
theorem zi4{c:OA}{L C:Nat}{w:Wo}(h:H3 c L w)(hC:L<=C) :
  Cz J5 #[.slice c L C] w fun e w'=>∃b c' L',e=.returned (.pointer (some ⟨b,0,none⟩))/\w.heap.size<=b/\Jv b c' L' 0 w'/\Q0 [] w w'/\∀a',c'=some a'->L'=0\/(0<L/\∃a,c=some a/\a'.block=a.block):=by
 refine(A6 c L C (R:=fun v w'=>∃b c' L',v=.pointer (some ⟨b,0,none⟩)/\w.heap.size<=b/\Jv b c' L' 0 w'/\Q0 [] w w'/\∀a',c'=some a'->L'=0\/(0<L/\∃a,c=some a/\a'.block=a.block)) ?_).mono fun e w' ⟨v,he,b,c',L',hv,h1,h2,h3⟩=>⟨b,c',L',by rw[he,hv],h1,h2,h3⟩
 refine⟨fun IQ=>⟨⟨Qo,Qo,by have:=Ot IQ; omega⟩,fun b wb hx hb hh _ wr hy=>⟨b,if C=Int.toNat 0 then c else c.map (·.add (Int.toNat 0*1)),Int.toNat 2000-Int.toNat 0,rfl,hb,?_,hx.trans hy,fun a' ha'=>?_⟩⟩,fun IQ b wb hx hb hh _ wr hy=>⟨b,c,L,rfl,hb,?_,hx.trans hy,fun a' ha'=>?_⟩⟩
 ·refine Jv.bG ⟨⟨_,0,hh,Qo,Qo⟩,fun i hi=>?_⟩ hy;have IQ:=Ot IQ;obtain⟨a,x,ha,h1,h2,h3⟩:=h.ext hx i (by have:i<2000-0:=hi; omega);obtain⟨a0,x0,ha0,_,_,h30⟩:=h i (by have:i<2000-0:=hi; omega);have RU:=World.block_lt_of_cell? w _ h30;rw[ZJ] at RU;rw[ha] at ha0; cases ha0;rw[C' (show ¬C=Int.toNat 0 from fun e=>by have:C=0:=e; omega),ha];refine⟨a.add 0,x,rfl,by rw[ZJ]; omega,h1,h2,?_⟩;rw[Ue,Nat.zero_add]; exact h3
 ·have IQ:=Ot IQ;refine .inr ⟨Qo,?_⟩;rw[C' (show ¬C=Int.toNat 0 from fun e=>by have:C=0:=e; omega)] at ha'
  cases c with
  | none=>cases ha'
  | some a=>
   simp only[Option.map_some,I1] at ha';exact⟨a,rfl,by rw[<-ha',ZJ]⟩
 ·refine Jv.bG ⟨⟨_,0,hh,Qo,Qo⟩,fun i hi=>?_⟩ hy;obtain⟨a,x,ha,h1,h2,h3⟩:=h.ext hx i hi;obtain⟨a0,x0,ha0,_,_,h30⟩:=h i hi;have RU:=World.block_lt_of_cell? w _ h30;rw[ZJ] at RU;rw[ha] at ha0; cases ha0;exact⟨a,x,ha,Qo,h1,h2,h3⟩
 ·rcases Nat.eq_zero_or_pos L with h0 | h0
  ·exact .inl h0
  ·exact .inr ⟨h0,a',ha',rfl⟩
structure Dr (rb:Nat) (c:OA) (L N n:Nat) (bs:List Nat) (w0 w:Wo):Prop where
 r:RS rb c L (N+n) bs w
 ext:Q0 [rb] w0 w
 new:∀x∈bs,w0.heap.size<=x
section
variable {rb b b2:Nat}{c:OA}{L N n k:Nat}{bs cs:List Nat}{w0 w w':Wo}
theorem Dr.start(h:Jv rb c L N w):Dr rb c L N 0 [] w w:=⟨⟨h,Qs,fun _ _=>.inl Qs⟩,Q0.refl _ _,Qs⟩
theorem Dr.step(h:Dr rb c L N n bs w0 w)(hx:Q0 bs w w'):Dr rb c L N n bs w0 w':=⟨h.r.step hx,h.ext.fresh hx fun x hm=>.inl (h.new x hm),h.new⟩
theorem Dr.add(h:Dr rb c L N n bs w0 w)(hb:w.heap.size<=b):Dr rb c L N n (bs++[b]) w0 w:=⟨h.r.add hb,h.ext,fun x hm=>by
 rcases Io.1 hm with hm | hm
 ·exact h.new x hm
 ·have:x=b:=by simpa using hm
  have:=h.ext.size;omega⟩
theorem Dr.put(h:Dr rb c L N n bs w0 w)(hx:Q0 bs w w')(hb:w.heap.size<=b):Dr rb c L N n (bs++[b]) w0 w':=(h.add hb).step (hx.mono fun _ hm=>Ib _ hm)
theorem Dr.AT7(h:Dr rb c L N n bs w0 w)(hx:Q0 bs w w')(hb:w.heap.size<=b)(cD:w.heap.size<=b2):Dr rb c L N n (bs++[b]++[b2]) w0 w':=((h.add hb).add cD).step (hx.mono fun _ hm=>Ib _ (Ib _ hm))
theorem Dr.more{m:Nat}(h:Dr rb c L N n bs w0 w)(hm:n<=m):Dr rb c L N m bs w0 w:=⟨h.r.mono Qo,h.ext,h.new⟩
theorem Dr.sub(h:Dr rb c L N n bs w0 w)(hs:∀x∈cs,x∈bs):Dr rb c L N n cs w0 w:=⟨h.r.sub hs,h.ext,fun x hm=>h.new x (hs x hm)⟩
theorem Dr.fin{m:Nat}(h:Dr rb c L N n bs w0 w)(hm:n<=m):Jv rb c L (N+m) w/\Q0 [rb] w0 w:=⟨(h.more hm).r.rd,h.ext⟩
theorem Dr.call{f:FuncId}{args:Array Va}{Q:Int->Prop}(h:Dr rb c L N n bs w0 w)(hs:∀x∈bs,x<w.heap.size)(hc:Cz f args w fun e w'=>∃v,e=.returned (I v)/\Q v/\Jv rb c L (N+n+k) w'/\Q0 [rb] w w') :
  Cz f args w fun e w'=>∃v,e=.returned (I v)/\Q9 bs w w'/\Q v/\Dr rb c L N (n+k) bs w0 w':=
 hc.mono fun e w' ⟨v,he,hq,hr,hx⟩=>⟨v,he,P0 h.r hx hs,hq,⟨h.r.upd (by rw[<-Nat.add_assoc]; exact hr),h.ext.trans hx,h.new⟩⟩
theorem Dr.pick(h:Dr rb c L N n bs w0 w)(hN:N+n<=1000000000000)(hs:∀x∈bs,x<w.heap.size){q:Int} :
  Cz Q1 #[.pointer (some ⟨rb,0,none⟩),I q] w fun e w'=>∃v,e=.returned (I v)/\Q9 bs w w'/\H6 q v/\Dr rb c L N (n+1) bs w0 w':=h.call hs (GD h.r.rd hN)
theorem Dr.weight(h:Dr rb c L N n bs w0 w)(hN:N+n<=900000000000)(hs:∀x∈bs,x<w.heap.size) :
  Cz ZB #[.pointer (some ⟨rb,0,none⟩)] w fun e w'=>∃v,e=.returned (I v)/\Q9 bs w w'/\zv0 v/\Dr rb c L N (n+2) bs w0 w':=h.call hs (zgu h.r.rd hN)
end
def zxn:Va->Bool
 | .int .i64 _=>true
 | _=>false
def zxp:Va->Bool
 | .string _=>true
 | _=>false
theorem zt0{v:Int}{k:Nat}{ls:List Va}{P:Int->Prop}(ha:ls.all zxn=true)(hl:ls.length=k)(h0:0<=v)(h1:v<(k:Int))(h:∀x,P x):∃x:Int,(0<=v/\ls[Int.toNat v+0]? = some (I x))/\P x:=by
 have IQ:Int.toNat v+0<ls.length:=Qo;have:=List.all_eq_true.1 ha _ (List.getElem_mem IQ);have e:=Im IQ;generalize ls[Int.toNat v+0]=y at this e;unfold zxn at this
 split at this
 ·exact⟨_,⟨h0,e⟩,h _⟩
 ·cases this
theorem zxj{v:Int}{k:Nat}{ls:List Va}{P:ByteArray->Prop}(ha:ls.all zxp=true)(hl:ls.length=k)(h0:0<=v)(h1:v<(k:Int))(h:∀x,P x):∃x:ByteArray,(0<=v/\ls[Int.toNat v+0]? = some (.string x))/\P x:=by
 have IQ:Int.toNat v+0<ls.length:=Qo;have:=List.all_eq_true.1 ha _ (List.getElem_mem IQ);have e:=Im IQ;generalize ls[Int.toNat v+0]=y at this e;unfold zxp at this
 split at this
 ·exact⟨_,⟨h0,e⟩,h _⟩
 ·cases this
theorem zt4(x:Int):Qq .i64 (10-Y1 (zew x 1) 20):=by
 have:1<=Y1 (zew x 1) 20/\Y1 (zew x 1) 20<=20:=by
  have h:1<=zew x 1:=by unfold zew; split <;> omega
  unfold Y1
  split <;> omega
 exact⟨Qo,Qo⟩
section
variable {rb:Nat}{c:OA}{L N n:Nat}{bs:List Nat}{w0 w:Wo}
def zl4(_:Int):Prop:=True
theorem zva(h:Jv rb c L N w)(hN:N<=900000000000) :
  Cz Yj #[.pointer (some ⟨rb,0,none⟩)] w fun e w'=>∃v,e=.returned (I v)/\zl4 v/\Jv rb c L (N+2) w'/\Q0 [rb] w w':=by
 refine(HD (some ⟨rb,0,none⟩) (R:=fun v w'=>∃x,v=I x/\Jv rb c L (N+2) w'/\Q0 [rb] w w') ?_).mono fun e w' ⟨v,he,x,hv,h1⟩=>⟨x,by rw[he,hv],trivial,h1⟩
 have h0:=Dr.start h;intro wr hx hs;refine(Dr.pick (h0.step hx) Qo hs).mono ?_;rintro e w2 ⟨v,he,hk,_,h1⟩;refine⟨_,he,hk,fun _ b hb R2 So dX=>?_,fun _ b hb R2 So dX=>?_⟩
 all_goals
  refine(Dr.pick (h1.put So hb) Qo dX).mono ?_;rintro e w3 ⟨u,fH,uH,⟨u0,_,u2⟩,h2⟩;have u2:=u2 Qd;refine⟨_,fH,uH,⟨Qo,Qo⟩,zt0 Qd rfl Qo Qo fun x O' R6=>⟨x,rfl,(h2.step R6).fin Qo⟩⟩
theorem zst(h:Jv rb c L N w)(hN:N<=900000000000) :
  Cz ZM #[.pointer (some ⟨rb,0,none⟩)] w fun e w'=>∃v,e=.returned (I v)/\zl4 v/\Jv rb c L (N+2) w'/\Q0 [rb] w w':=by
 refine(Gt (some ⟨rb,0,none⟩) (R:=fun v w'=>∃x,v=I x/\Jv rb c L (N+2) w'/\Q0 [rb] w w') ?_).mono fun e w' ⟨v,he,x,hv,h1⟩=>⟨x,by rw[he,hv],trivial,h1⟩
 have h0:=Dr.start h;intro wr hx hs;refine(Dr.pick (h0.step hx) Qo hs).mono ?_;rintro e w2 ⟨v,he,hk,_,h1⟩;refine⟨_,he,hk,fun _ b hb R2 So dX=>?_,fun _ b hb R2 So dX=>?_⟩
 all_goals
  refine(Dr.pick (h1.put So hb) Qo dX).mono ?_;rintro e w3 ⟨u,fH,uH,⟨u0,_,u2⟩,h2⟩;have u2:=u2 Qd;refine⟨_,fH,uH,⟨Qo,Qo⟩,zt0 Qd rfl Qo Qo fun x O' R6=>⟨x,rfl,(h2.step R6).fin Qo⟩⟩
theorem zsr(h:Jv rb c L N w)(hN:N<=900000000000) :
  Cz Ua #[.pointer (some ⟨rb,0,none⟩)] w fun e w'=>∃v,e=.returned (I v)/\zl4 v/\Jv rb c L (N+2) w'/\Q0 [rb] w w':=by
 refine(Gs (some ⟨rb,0,none⟩) (R:=fun v w'=>∃x,v=I x/\Jv rb c L (N+2) w'/\Q0 [rb] w w') ?_).mono fun e w' ⟨v,he,x,hv,h1⟩=>⟨x,by rw[he,hv],trivial,h1⟩
 have h0:=Dr.start h;intro wr hx hs;refine(Dr.pick (h0.step hx) Qo hs).mono ?_;rintro e w2 ⟨v,he,hk,_,h1⟩;refine⟨_,he,hk,fun _ b hb R2 So dX=>?_,fun _ R2 So dX=>?_⟩
 ·refine(Dr.pick (h1.put So hb) Qo dX).mono ?_;rintro e w3 ⟨u,fH,uH,⟨u0,_,u2⟩,h2⟩;have u2:=u2 Qd;refine⟨_,fH,uH,⟨Qo,Qo⟩,zt0 Qd rfl Qo Qo fun x O' R6=>⟨x,rfl,(h2.step R6).fin Qo⟩⟩
 ·refine(Dr.pick (h1.step So) Qo dX).mono ?_;rintro e w3 ⟨u,fH,uH,_,h2⟩;exact⟨_,fH,uH,fun O' R6=>⟨u,rfl,(h2.step R6).fin Qo⟩⟩
theorem zwm(h:Jv rb c L N w)(hN:N<=900000000000) :
  Cz Vt #[.pointer (some ⟨rb,0,none⟩)] w fun e w'=>∃v,e=.returned (I v)/\zl4 v/\Jv rb c L (N+2) w'/\Q0 [rb] w w':=by
 refine(Eb (some ⟨rb,0,none⟩) (R:=fun v w'=>∃x,v=I x/\Jv rb c L (N+2) w'/\Q0 [rb] w w') ?_).mono fun e w' ⟨v,he,x,hv,h1⟩=>⟨x,by rw[he,hv],trivial,h1⟩
 have h0:=Dr.start h;intro wr hx hs;refine(Dr.pick (h0.step hx) Qo hs).mono ?_;rintro e w2 ⟨v,he,hk,⟨v0,_,v2⟩,h1⟩;have v2:=v2 Qd;refine⟨_,he,hk,fun R2 So dX=>?_⟩;refine(Dr.pick (h1.step So) Qo dX).mono ?_;rintro e w3 ⟨u,fH,uH,⟨u0,_,u2⟩,h2⟩;have u2:=u2 Qd
 have hd:0<=Int.tdiv u 19/\Int.tdiv u 19<=1:=by
  rw[Int.tdiv_eq_ediv_of_nonneg u0];omega
 exact⟨_,fH,uH,⟨Qd,⟨Qo,Qo⟩⟩,⟨Qo,Qo⟩,fun O' R6=>⟨_,rfl,(h2.step R6).fin Qo⟩⟩
theorem Dr.mask(h:Dr rb c L N n bs w0 w)(hN:N+n<=900000000000)(hs:∀x∈bs,x<w.heap.size) :
  Cz Yj #[.pointer (some ⟨rb,0,none⟩)] w fun e w'=>∃v,e=.returned (I v)/\Q9 bs w w'/\zl4 v/\Dr rb c L N (n+2) bs w0 w':=h.call hs (zva h.r.rd hN)
theorem Dr.qY(h:Dr rb c L N n bs w0 w)(hN:N+n<=900000000000)(hs:∀x∈bs,x<w.heap.size) :
  Cz ZM #[.pointer (some ⟨rb,0,none⟩)] w fun e w'=>∃v,e=.returned (I v)/\Q9 bs w w'/\zl4 v/\Dr rb c L N (n+2) bs w0 w':=h.call hs (zst h.r.rd hN)
end
theorem J0.w{W:Q7}(iv:J0 W):Qx W=true:=Qi.2 iv.wp
theorem J0.len{W:Q7}(iv:J0 W):Xh W:=zsv iv.wp.a
def zh9(W V:Q7):Prop:=J0 V/\Xw W V
theorem zh9.refl{W:Q7}(iv:J0 W):zh9 W W:=⟨iv,.same⟩
theorem zsd{W W':Q7}{bar:Int}(iv:J0 W)(hb:bar=0->zh9 W W'):zh9 W (Yp W bar W').1:=by
 unfold Yp;rw[C' (by rw[iv.w]; decide)];split
 ·exact zh9.refl iv
 ·rename_i e;exact hb (by simpa using e)
theorem zpc{W W':Q7}{bar a:Int}(iv:J0 W)(hb:bar=0->zh9 W W'):zh9 W (Vd W bar W' a).1:=by
 unfold Vd;rw[C' (by rw[iv.w]; decide)];split
 ·exact zh9.refl iv
 ·rename_i e;exact hb (by simpa using e)
section
variable {f:FuncId}{args:Array Va}{W W':Q7}{bar a:Int}{m:MW}{w:Wo}
theorem U4(iv:J0 W)(hc:Cz f args w fun e w'=>∃v,e=.returned v/\QJ (Yp W bar W') w v w')(hb:bar=0->zh9 W W') :
  Cz f args w fun e w'=>∃(V:Q7) (m':MW) (d:Int),e=.returned (.tuple #[.agg (Qa V m').toArray,I d])/\zh9 W V/\Y8 8 w.heap.size w' V m'/\Q0 [] w w':=
 hc.mono fun e w' ⟨v,he,n,m',hv,hM,hx⟩=>by
  have hi:=zsd iv hb;have hn:n=8:=hM.len.symm.trans hi.1.wp.a.gl;subst hn;exact⟨_,m',_,by rw[he,hv],hi,hM,hx⟩
theorem zke(iv:J0 W)(hc:Cz f args w fun e w'=>∃v,e=.returned v/\TB (Vd W bar W' a) w v w')(hb:bar=0->zh9 W W') :
  Cz f args w fun e w'=>∃(V:Q7) (m':MW) (q d:Int),e=.returned (.tuple #[.agg (Qa V m').toArray,I q,I d])/\zh9 W V/\Y8 8 w.heap.size w' V m'/\Q0 [] w w':=
 hc.mono fun e w' ⟨v,he,n,m',hv,hM,hx⟩=>by
  have hi:=zpc (a:=a) iv hb;have hn:n=8:=hM.len.symm.trans hi.1.wp.a.gl;subst hn;exact⟨_,m',_,_,by rw[he,hv],hi,hM,hx⟩
theorem zof{P:Q7->Prop}(iv:J0 W)(h0:P W)(hc:Cz f args w fun e w'=>∃v,e=.returned v/\TB (Vd W bar W' a) w v w')(hb:bar=0->J0 W'/\P W') :
  Cz f args w fun e w'=>∃(V:Q7) (m':MW) (q d:Int),e=.returned (.tuple #[.agg (Qa V m').toArray,I q,I d])/\(J0 V/\P V)/\Y8 8 w.heap.size w' V m'/\Q0 [] w w':=
 hc.mono fun e w' ⟨v,he,n,m',hv,hM,hx⟩=>by
  have hi:J0 (Vd W bar W' a).1/\P (Vd W bar W' a).1:=by
   unfold Vd;rw[C' (by rw[iv.w]; decide)];split
   ·exact⟨iv,h0⟩
   ·rename_i e;exact hb (by simpa using e)
  have hn:n=8:=hM.len.symm.trans hi.1.wp.a.gl;subst hn;exact⟨_,m',_,_,by rw[he,hv],hi,hM,hx⟩
def zxa(W:Q7)(w:Wo)(v:Va)(w':Wo):Prop:=∃(V:Q7) (m':MW) (d:Int),v=.tuple #[.agg (Qa V m').toArray,I d]/\zh9 W V/\Y8 8 w.heap.size w' V m'/\Q0 [] w w'
theorem XV{bs:List Nat}{w0 w2 w3:Wo}{d:Int}(s:Sc w0 bs w)(hs:∀x∈bs,x<w.heap.size)(hi:zh9 W W'){m':MW}(hM:Y8 8 w.heap.size w2 W' m')(hy:Q0 [] w w2)(hx:Q0 bs w2 w3):zxa W w0 (.tuple #[.agg (Qa W' m').toArray,I d]) w3:=
 ⟨W',m',d,rfl,hi,(((OW.of hM hs).step hx).own).mono s.ext.size,((s.R4 hy).step hx).ext⟩
theorem zu5{c:Int}(iv:J0 W)(h:N5 W c=0):J0 (RC W c):=by
 obtain⟨c0,c1⟩:=Tt (zvy h).1;exact zmw iv c0 c1
theorem zmy{k a n q:Int}{s:ByteArray}(h:Xb [] w W m)(iv:J0 W) :
  Cz Ur #[.agg (Qa W m).toArray,.agg #[I k,I a,I n,I q,.string s]] w fun e w'=>∃v,e=.returned v/\zxa W w v w':=by
 refine A4 _ _ _ _ _ _ _ _ _ _ k a n q s (R:=fun v w'=>zxa W w v w') ?_;intro b hb b1 eY b2 cD;have hl:=iv.len;have hW:=iv.w;have s0:Sc w ([b]++[b1]++[b2]) w:=(((Sc.start w).add hb).add eY).add cD;have hS:∀{wr:Wo},Q0 [] w wr->Sc w [b,b1,b2] wr:=fun hx=>s0.R4 hx
 refine⟨fun _ wr hx hs=>?_,fun _=>⟨fun _ wr hx hs=>?_,fun _=>⟨fun _ wr hx hs=>?_,fun _=>⟨fun _ wr hx hs=>?_,fun _=>⟨fun _ wr hx hs=>?_,fun _=>⟨fun _ wr hx hs=>?_,fun _=>⟨fun _ wr hx hs=>?_,fun _=>⟨fun _ wr hx hs=>?_,fun _=>⟨fun _ wr hx hs=>?_,fun _=>⟨fun _ wr hx hs=>?_,fun _=>⟨fun _ wr hx hs=>?_,fun _=>⟨fun _ wr hx hs=>?_,fun _=>⟨fun _ wr hx hs=>?_,fun _=>⟨fun _ wr hx hs=>?_,fun _=>⟨fun _ wr hx hs=>?_,fun _=>⟨fun _ wr hx hs=>?_,fun _=>⟨fun _ wr hx hs=>?_,fun _=>⟨fun _ wr hx hs=>?_,fun _=>⟨_,JH h hl.c hl.t hl.g hl.f,fun g=>?_,fun _ wr hx hs=>?_⟩⟩⟩⟩⟩⟩⟩⟩⟩⟩⟩⟩⟩⟩⟩⟩⟩⟩⟩
 case refine_19=>rw[hW] at g; cases g
 case refine_20=>
  refine(Ov (h.ext hx) iv.wp.a).mono ?_;rintro e wv ⟨m',he,hM,hy⟩;exact⟨_,_,_,_,_,_,_,_,_,_,he,Qe hy hs,fun O' R6=>XV (hS hx) hs (zh9.refl iv) hM hy R6⟩
 case refine_3=>
  refine(zke iv (MS (h.ext hx) hl) (fun hb=>⟨zgs hW hb,.fork _ _ _ hb⟩)).mono ?_;rintro e wv ⟨V,m',q1,d,he,hi,hM,hy⟩;exact⟨_,_,_,_,_,_,_,_,_,_,_,_,he,Qe hy hs,fun O' R6=>XV (hS hx) hs hi hM hy R6⟩
 case refine_10=>
  refine(zke iv (M0 (h.ext hx) hl) fun hb=>⟨zpe iv (AK hb).1,.mak _ _ _ (AK hb).1⟩).mono ?_;rintro e wv ⟨V,m',q1,d,he,hi,hM,hy⟩;exact⟨_,_,_,_,_,_,_,_,_,_,_,_,he,Qe hy hs,fun O' R6=>XV (hS hx) hs hi hM hy R6⟩
 case refine_1=>exact(U4 iv (BE (h.ext hx) hl) (fun hb=>⟨zsm iv hb,.run _ _ hb⟩)).mono fun e wv ⟨V,m',d,he,hi,hM,hy⟩=>⟨_,_,_,_,_,_,_,_,_,_,_,he,Qe hy hs,fun O' R6=>XV (hS hx) hs hi hM hy R6⟩
 case refine_2=>exact(U4 iv (HS (h.ext hx) hl) (fun hb=>⟨zu5 iv hb,.yld _ hb⟩)).mono fun e wv ⟨V,m',d,he,hi,hM,hy⟩=>⟨_,_,_,_,_,_,_,_,_,_,_,he,Qe hy hs,fun O' R6=>XV (hS hx) hs hi hM hy R6⟩
 case refine_4=>exact(U4 iv (Ep (h.ext hx) hl) (fun hb=>⟨zmv hW hb,.block _ hb⟩)).mono fun e wv ⟨V,m',d,he,hi,hM,hy⟩=>⟨_,_,_,_,_,_,_,_,_,_,_,he,Qe hy hs,fun O' R6=>XV (hS hx) hs hi hM hy R6⟩
 case refine_5=>exact(U4 iv (BA (h.ext hx) hl) (fun hb=>⟨zph hW hb,.wake _ hb⟩)).mono fun e wv ⟨V,m',d,he,hi,hM,hy⟩=>⟨_,_,_,_,_,_,_,_,_,_,_,he,Qe hy hs,fun O' R6=>XV (hS hx) hs hi hM hy R6⟩
 case refine_6=>exact(U4 iv (Bv (h.ext hx) hl) (fun hb=>⟨zpd hW hb,.exit _ hb⟩)).mono fun e wv ⟨V,m',d,he,hi,hM,hy⟩=>⟨_,_,_,_,_,_,_,_,_,_,_,he,Qe hy hs,fun O' R6=>XV (hS hx) hs hi hM hy R6⟩
 case refine_7=>exact(U4 iv (Bz (h.ext hx) hl) (fun hb=>⟨zpf hW hb,.nice _ _ hb⟩)).mono fun e wv ⟨V,m',d,he,hi,hM,hy⟩=>⟨_,_,_,_,_,_,_,_,_,_,_,he,Qe hy hs,fun O' R6=>XV (hS hx) hs hi hM hy R6⟩
 case refine_8=>exact(U4 iv (Az (h.ext hx) hl) (fun hb=>⟨zsl hW hb,.pin _ _ hb⟩)).mono fun e wv ⟨V,m',d,he,hi,hM,hy⟩=>⟨_,_,_,_,_,_,_,_,_,_,_,he,Qe hy hs,fun O' R6=>XV (hS hx) hs hi hM hy R6⟩
 case refine_9=>exact(U4 iv (By (h.ext hx) hl) (fun hb=>⟨zsi iv hb,.mov _ _ hb⟩)).mono fun e wv ⟨V,m',d,he,hi,hM,hy⟩=>⟨_,_,_,_,_,_,_,_,_,_,_,he,Qe hy hs,fun O' R6=>XV (hS hx) hs hi hM hy R6⟩
 case refine_11=>exact(U4 iv (PZ (h.ext hx) hl) fun hb=>⟨zsf iv (zd4 hb).1,.drp _ (zd4 hb).1⟩).mono fun e wv ⟨V,m',d,he,hi,hM,hy⟩=>⟨_,_,_,_,_,_,_,_,_,_,_,he,Qe hy hs,fun O' R6=>XV (hS hx) hs hi hM hy R6⟩
 case refine_12=>exact(U4 iv (HR (h.ext hx) hl) (fun hb=>⟨zsn hW hb,.wgh _ _ hb⟩)).mono fun e wv ⟨V,m',d,he,hi,hM,hy⟩=>⟨_,_,_,_,_,_,_,_,_,_,_,he,Qe hy hs,fun O' R6=>XV (hS hx) hs hi hM hy R6⟩
 case refine_13=>exact(U4 iv (Bu (h.ext hx) hl) (fun hb=>⟨zsg hW hb,.gpn _ _ hb⟩)).mono fun e wv ⟨V,m',d,he,hi,hM,hy⟩=>⟨_,_,_,_,_,_,_,_,_,_,_,he,Qe hy hs,fun O' R6=>XV (hS hx) hs hi hM hy R6⟩
 case refine_14=>exact(U4 iv (HQ (h.ext hx) hl) (fun hb=>⟨zsh hW hb,.lim _ _ _ hb⟩)).mono fun e wv ⟨V,m',d,he,hi,hM,hy⟩=>⟨_,_,_,_,_,_,_,_,_,_,_,he,Qe hy hs,fun O' R6=>XV (hS hx) hs hi hM hy R6⟩
 case refine_15=>exact(U4 iv (BB (h.ext hx) hl) (fun hb=>⟨zpg hW hb,.time _ hb⟩)).mono fun e wv ⟨V,m',d,he,hi,hM,hy⟩=>⟨_,_,_,_,_,_,_,_,_,_,_,he,Qe hy hs,fun O' R6=>XV (hS hx) hs hi hM hy R6⟩
 case refine_16=>exact(U4 iv (HO (h.ext hx) hl) (fun hb=>⟨zse hW hb,.bal _ hb⟩)).mono fun e wv ⟨V,m',d,he,hi,hM,hy⟩=>⟨_,_,_,_,_,_,_,_,_,_,_,he,Qe hy hs,fun O' R6=>XV (hS hx) hs hi hM hy R6⟩
 case refine_17=>exact(U4 iv (zau (h.ext hx) hl) (fun hb=>⟨zsk hW hb,.off _ hb⟩)).mono fun e wv ⟨V,m',d,he,hi,hM,hy⟩=>⟨_,_,_,_,_,_,_,_,_,_,_,he,Qe hy hs,fun O' R6=>XV (hS hx) hs hi hM hy R6⟩
 case refine_18=>exact(U4 iv (zeq (h.ext hx) hl) (fun hb=>⟨zu4 hW hb,.on _ hb⟩)).mono fun e wv ⟨V,m',d,he,hi,hM,hy⟩=>⟨_,_,_,_,_,_,_,_,_,_,_,he,Qe hy hs,fun O' R6=>XV (hS hx) hs hi hM hy R6⟩
end
theorem zu8{rb:Nat}{c:OA}{L N:Nat}{w:Wo}{W:Q7}{m:MW}(h:Jv rb c L N w)(hN:N<=800000000000) :
  Cz XW #[.pointer (some ⟨rb,0,none⟩),.agg (Qa W m).toArray] w fun e w'=>∃(k a n q:Int) (s:ByteArray),e=.returned (.agg #[I k,I a,I n,I q,.string s])/\Jv rb c L (N+20) w'/\Q0 [rb] w w':=by
 refine(HC (some ⟨rb,0,none⟩) W.now m.cO W.IE.length m.cC m.tO W.tasks.length m.tC m.gO W.ID.length m.gC (R:=fun v w'=>∃(k a n q:Int) (s:ByteArray),v=.agg #[I k,I a,I n,I q,.string s]/\Jv rb c L (N+20) w'/\Q0 [rb] w w') ?_).mono fun e w' ⟨v,he,k,a,n,q,s,hv,h1⟩=>⟨k,a,n,q,s,by rw[he,hv],h1⟩
 intro b hb b1 eY;refine⟨_,VA,fun wr hx hs=>?_⟩;refine(Dr.pick ((Dr.start h).AT7 hx hb eY) Qo hs).mono ?_;rintro e w1 ⟨v1,he,hk,_,h1⟩;refine⟨_,he,hk,fun wr hx hs=>?_⟩;refine(Dr.pick (h1.step hx) Qo hs).mono ?_;rintro e w2 ⟨v2,he,hk,_,h2⟩;refine⟨_,he,hk,fun vs bs w2=>bs=[]/\(∃x:Int,vs=[I x])/\Dr rb c L N 4 [b,b1] w w2,fun wr hx hs=>?_,?_⟩
 ·refine(Dr.pick (h2.step hx) Qo hs).mono ?_;rintro e w3 ⟨v3,he,hk,_,h3⟩;refine⟨_,he,hk,fun _ wr hx hs=>?_,fun _ wr hx hs=>⟨rfl,⟨_,rfl⟩,(h3.step hx).more Qd⟩⟩;refine(Dr.pick (h3.step hx) Qo hs).mono ?_;rintro e w4 ⟨v4,he,hk,_,h4⟩;exact⟨_,he,hk,fun wr hx _=>⟨rfl,⟨_,rfl⟩,(h4.step hx).more Qd⟩⟩
 clear h1 h2;rintro t bI fU ⟨-,-,h4⟩ wr hx hs;refine(Dr.pick (h4.step hx) Qo hs).mono ?_;rintro e w5 ⟨v5,he,hk,⟨p50,_,p52⟩,h5⟩;have p52:=p52 Qd;refine⟨_,he,hk,fun wr hx hs=>?_⟩;refine(Dr.pick (h5.step hx) Qo hs).mono ?_;rintro e w6 ⟨v6,he,hk,_,h6⟩;clear h4 h5;refine⟨_,he,hk,fun _=>?_,fun _ wr hx hs=>?_⟩
 rotate_left
 ·refine(Dr.pick (h6.step hx) Qo hs).mono ?_;rintro e w7 ⟨v7,he,hk,_,h7⟩;clear h6;refine⟨_,he,hk,?_⟩;clear he hk hx hs fU
  repeat' first
   | exact rfl
   | exact zt4 _
   | (refine⟨_,VA,?_⟩)
   | (refine⟨_,XY,?_⟩)
   | (refine⟨fun _ bs w2=>bs=[]/\Dr rb c L N 7 [b,b1] w w2,?_,?_⟩)
   | (refine And.intro ?_ ?_)
   | (refine zt0 Qd rfl Qo Qo fun x=>?_)
   | (refine zxj Qd rfl Qo Qo fun x=>?_)
   | (intro (x:Bool) (wv:Wo) hs hm; obtain⟨_,hD⟩:=hm)
   | (intro (b:Nat) hb)
   | (intro (wr:Wo) hx hs; refine(Dr.pick (Dr.step (by assumption) hx) ?_ hs).mono ?_; rotate_left; rintro e w2 ⟨v,he,hk,⟨hp0,_,mS⟩,hC⟩; have mS:=mS Qd; refine⟨_,he,hk,?_⟩)
   | (intro (wr:Wo) hx hs; refine(Dr.pick (Dr.put (by assumption) hx (by assumption)) ?_ hs).mono ?_; rotate_left; rintro e w2 ⟨v,he,hk,⟨hp0,_,mS⟩,hC⟩; have mS:=mS Qd; refine⟨_,he,hk,?_⟩)
   | (intro (wr:Wo) hx hs; refine(Dr.pick (Dr.AT7 (by assumption) hx (by assumption) (by assumption)) ?_ hs).mono ?_; rotate_left; rintro e w2 ⟨v,he,hk,⟨hp0,_,mS⟩,hC⟩; have mS:=mS Qd; refine⟨_,he,hk,?_⟩)
   | (intro (wr:Wo) hx hs; refine(Dr.weight (Dr.step (by assumption) hx) ?_ hs).mono ?_; rotate_left; rintro e w2 ⟨v,he,hk,⟨hp0,mS⟩,hC⟩; refine⟨_,he,hk,?_⟩)
   | (intro (wr:Wo) hx hs; refine(Dr.mask (Dr.step (by assumption) hx) ?_ hs).mono ?_; rotate_left; rintro e w2 ⟨v,he,hk,_,hC⟩; refine⟨_,he,hk,?_⟩)
   | (intro (wr:Wo) hx hs; refine(Dr.qY (Dr.step (by assumption) hx) ?_ hs).mono ?_; rotate_left; rintro e w2 ⟨v,he,hk,_,hC⟩; refine⟨_,he,hk,?_⟩)
   | (intro (wr:Wo) hx hs; exact⟨rfl,Dr.step (by assumption) hx⟩)
   | (intro (wr:Wo) hx; exact⟨_,_,_,_,_,rfl,(Dr.step (by assumption) hx).fin Qd⟩)
   | (intro (hh:_=true))
   | (intro (hh:_=false))
   | omega
   | decide
 ·repeat' first
   | exact rfl
   | (refine And.intro ?_ ?_)
   | (refine zt0 Qd rfl Qo Qo fun x=>?_)
   | (intro (b:Nat) hb)
   | (intro (wr:Wo) hx hs; refine(Dr.pick (Dr.step (by assumption) hx) ?_ hs).mono ?_; rotate_left; rintro e w2 ⟨v,he,hk,⟨hp0,_,mS⟩,hC⟩; have mS:=mS Qd; refine⟨_,he,hk,?_⟩)
   | (intro (wr:Wo) hx hs; refine(Dr.pick (Dr.put (by assumption) hx (by assumption)) ?_ hs).mono ?_; rotate_left; rintro e w2 ⟨v,he,hk,⟨hp0,_,mS⟩,hC⟩; have mS:=mS Qd; refine⟨_,he,hk,?_⟩)
   | (intro (wr:Wo) hx; exact⟨_,_,_,_,_,rfl,(Dr.step (by assumption) hx).fin Qd⟩)
   | omega
def zxo(lo hi:Int):Va->Bool
 | .int .i64 x=>decide (lo<=x)&&decide (x<=hi)
 | _=>false
theorem zxu{lo hi v:Int}{k:Nat}{ls:List Va}{P:Int->Prop}(ha:ls.all (zxo lo hi)=true)(hl:ls.length=k)(h0:0<=v)(h1:v<(k:Int))(h:∀x,lo<=x->x<=hi->P x):∃x:Int,(0<=v/\ls[Int.toNat v+0]? = some (I x))/\P x:=by
 have IQ:Int.toNat v+0<ls.length:=Qo;have:=List.all_eq_true.1 ha _ (List.getElem_mem IQ);have e:=Im IQ;generalize ls[Int.toNat v+0]=y at this e;unfold zxo at this
 split at this
 ·rw[A',Ik,Ik] at this;exact⟨_,⟨h0,e⟩,h _ this.1 this.2⟩
 ·cases this
structure Xz (P:Nat->Q7->Prop) (rb:Nat) (c:OA) (L N n:Nat) (bs:List Nat) (w0 w:Wo) (W:Q7) (m:MW):Prop where
 iv:J0 W
 lw:P n W
 d:Dr rb c L N n bs w0 w
 o:OW 8 w0.heap.size (rb::bs) w W m
section
variable {P:Nat->Q7->Prop}{rb b b2:Nat}{c:OA}{L N n k:Nat}{bs cs:List Nat}{w0 w w':Wo}{W W':Q7}{m m':MW}
theorem Xz.step(h:Xz P rb c L N n bs w0 w W m)(hx:Q0 bs w w'):Xz P rb c L N n bs w0 w' W m:=⟨h.iv,h.lw,h.d.step hx,h.o.step (hx.mono fun _ hm=>I2 _ hm)⟩
theorem Xz.put(h:Xz P rb c L N n bs w0 w W m)(hx:Q0 bs w w')(hb:w.heap.size<=b):Xz P rb c L N n (bs++[b]) w0 w' W m:=⟨h.iv,h.lw,h.d.put hx hb,h.o.put (hx.mono fun _ hm=>I2 _ hm) hb⟩
theorem Xz.AT7(h:Xz P rb c L N n bs w0 w W m)(hx:Q0 bs w w')(hb:w.heap.size<=b)(cD:w.heap.size<=b2):Xz P rb c L N n (bs++[b]++[b2]) w0 w' W m:=⟨h.iv,h.lw,h.d.AT7 hx hb cD,h.o.AT7 (hx.mono fun _ hm=>I2 _ hm) hb cD⟩
theorem Xz.sub(h:Xz P rb c L N n bs w0 w W m)(hs:∀x∈cs,x∈bs):Xz P rb c L N n cs w0 w W m:=⟨h.iv,h.lw,h.d.sub hs,h.o.sub fun x hx=>by
 rcases Ij.1 hx with h1 | h1
 ·rw[h1]; exact Ia
 ·exact I2 _ (hs x h1)⟩
theorem Xz.more{q:Nat}(hP:Pg P)(h:Xz P rb c L N n bs w0 w W m)(hm:n<=q):Xz P rb c L N q bs w0 w W m:=⟨h.iv,hP.mono hm h.lw,h.d.more hm,h.o⟩
theorem Xz.rd(h:Xz P rb c L N n bs w0 w W m):Xb [] w W m:=h.o.rd0
theorem Xz.drawn(hP:Pg P)(h:Xz P rb c L N n bs w0 w W m)(hr:Jv rb c L (N+n+k) w')(hx:Q0 [rb] w w'):Xz P rb c L N (n+k) bs w0 w' W m:=
 ⟨h.iv,hP.mono Qo h.lw,⟨h.d.r.upd (by rw[<-Nat.add_assoc]; exact hr),h.d.ext.trans hx,h.d.new⟩,h.o.step (hx.mono fun x hm=>by
  have:x=rb:=by simpa using hm
  subst this; exact Ia)⟩
theorem Xz.call{f:FuncId}{args:Array Va}{Q:Int->Prop}(hP:Pg P)(h:Xz P rb c L N n bs w0 w W m)(hs:∀x∈bs,x<w.heap.size)(hc:Cz f args w fun e w'=>∃v,e=.returned (I v)/\Q v/\Jv rb c L (N+n+k) w'/\Q0 [rb] w w') :
  Cz f args w fun e w'=>∃v,e=.returned (I v)/\Q9 bs w w'/\Q v/\Xz P rb c L N (n+k) bs w0 w' W m:=
 hc.mono fun e w' ⟨v,he,hq,hr,hx⟩=>⟨v,he,P0 h.d.r hx hs,hq,h.drawn hP hr hx⟩
theorem Xz.pick(hP:Pg P)(h:Xz P rb c L N n bs w0 w W m)(hN:N+n<=1000000000000)(hs:∀x∈bs,x<w.heap.size){q:Int} :
  Cz Q1 #[.pointer (some ⟨rb,0,none⟩),I q] w fun e w'=>∃v,e=.returned (I v)/\Q9 bs w w'/\H6 q v/\Xz P rb c L N (n+1) bs w0 w' W m:=h.call hP hs (GD h.d.r.rd hN)
theorem Xz.weight(hP:Pg P)(h:Xz P rb c L N n bs w0 w W m)(hN:N+n<=900000000000)(hs:∀x∈bs,x<w.heap.size) :
  Cz ZB #[.pointer (some ⟨rb,0,none⟩)] w fun e w'=>∃v,e=.returned (I v)/\Q9 bs w w'/\zv0 v/\Xz P rb c L N (n+2) bs w0 w' W m:=h.call hP hs (zgu h.d.r.rd hN)
theorem Xz.item(hP:Pg P)(h:Xz P rb c L N n bs w0 w W m)(hN:N+n<=800000000000)(hs:∀x∈bs,x<w.heap.size){V:Q7}{p:MW} :
  Cz XW #[.pointer (some ⟨rb,0,none⟩),.agg (Qa V p).toArray] w fun e w'=>∃(k a q r:Int) (s:ByteArray),e=.returned (.agg #[I k,I a,I q,I r,.string s])/\Q9 bs w w'/\Xz P rb c L N (n+20) bs w0 w' W m:=
 (zu8 h.d.r.rd hN).mono fun e w' ⟨k,a,q,r,s,he,hr,hx⟩=>⟨k,a,q,r,s,he,P0 h.d.r hx hs,h.drawn hP hr hx⟩
theorem Xz.bsl(h:Xz P rb c L N n bs w0 w W m)(hs:∀x∈bs,x<w.heap.size):∀x∈rb::bs,x<w.heap.size:=fun x hm=>by
 rcases Ij.1 hm with h1 | h1
 ·rw[h1]; exact h.d.r.rd.lt
 ·exact hs x h1
theorem Xz.SX{P':Nat->Q7->Prop}{q:Nat}(h:Xz P rb c L N n bs w0 w W m)(hq:n<=q)(hs:∀x∈bs,x<w.heap.size)(hi:J0 W')(hl:P' q W')(hM:Y8 8 w.heap.size w' W' m')(hx:Q0 [] w w'):Xz P' rb c L N q bs w0 w' W' m':=
 ⟨hi,hl,Dr.more ⟨h.d.r.R4 hx,h.d.ext.trans hx.of_nil,h.d.new⟩ hq,(OW.of hM (h.bsl hs)).mono h.d.ext.size⟩
theorem Xz.mak{p:Int}{name:ByteArray}(hP:Pg P)(h:Xz P rb c L N n bs w0 w W m)(hs:∀x∈bs,x<w.heap.size) :
  Cz QB #[.agg (Qa W m).toArray,I p,.string name] w fun e w'=>∃(W':Q7) (m':MW) (a d:Int),e=.returned (.tuple #[.agg (Qa W' m').toArray,I a,I d])/\Q9 bs w w'/\Xz P rb c L N n bs w0 w' W' m':=
 (zof (P:=P n) h.iv h.lw (M0 h.rd h.iv.len) fun hb=>⟨zpe h.iv (AK hb).1,hP.mak h.iv h.lw (AK hb).1⟩).mono fun e w' ⟨V,m',a,d,he,hi,hM,hx⟩=>⟨V,m',a,d,he,Qe hx hs,h.SX (I8 _) hs hi.1 hi.2 hM hx⟩
theorem Xz.fork{g q x:Int}(hP:Pg P)(h:Xz P rb c L N n bs w0 w W m)(hs:∀x∈bs,x<w.heap.size) :
  Cz YZ #[.agg (Qa W m).toArray,I g,I q,I x] w fun e w'=>∃(W':Q7) (m':MW) (a d:Int),e=.returned (.tuple #[.agg (Qa W' m').toArray,I a,I d])/\Q9 bs w w'/\Xz P rb c L N n bs w0 w' W' m':=
 (zof (P:=P n) h.iv h.lw (MS h.rd h.iv.len) fun hb=>⟨zgs h.iv.w hb,hP.fork h.iv h.lw hb⟩).mono fun e w' ⟨V,m',a,d,he,hi,hM,hx⟩=>⟨V,m',a,d,he,Qe hx hs,h.SX (I8 _) hs hi.1 hi.2 hM hx⟩
theorem Xz.do{k a q r:Int}{s:ByteArray}(hP:Pg P)(hn:n<=10000)(h:Xz P rb c L N n bs w0 w W m)(hs:∀x∈bs,x<w.heap.size) :
  Cz Ur #[.agg (Qa W m).toArray,.agg #[I k,I a,I q,I r,.string s]] w fun e w'=>∃(W':Q7) (m':MW) (d:Int),e=.returned (.tuple #[.agg (Qa W' m').toArray,I d])/\Q9 bs w w'/\Xz P rb c L N (n+10) bs w0 w' W' m':=
 (zmy h.rd h.iv).mono fun e w' ⟨v,he,V,m',d,hv,hi,hM,hx⟩=>⟨V,m',d,by rw[he,hv],Qe hx hs,h.SX (Nat.le_add_right _ _) hs hi.1 (hP.SX hn h.iv h.lw hi.2) hM hx⟩
theorem Xz.fin{q:Nat}(hP:Pg P)(h:Xz P rb c L N n bs w0 w W m)(hq:n<=q):(J0 W/\P q W)/\Y8 8 w0.heap.size w W m/\Jv rb c L (N+q) w/\Q0 [rb] w0 w/\∀x∈QD 8 m,x≠rb:=⟨⟨h.iv,hP.mono hq h.lw⟩,h.o.own,(h.d.fin hq).1,h.d.ext,fun x hx e=>h.o.nb x hx (by rw[e]; exact Ia)⟩
end
theorem zvb{P:Nat->Q7->Prop}(hP:Pg P){rb:Nat}{c:OA}{L N:Nat}{w:Wo}{items:Int}(h:Jv rb c L N w)(hN:N<=700000000000)(hi:items<=27) :
  Cz UR #[.pointer (some ⟨rb,0,none⟩),I items] w fun e w'=>∃(W:Q7) (m:MW),e=.returned (.agg (Qa W m).toArray)/\(J0 W/\P 1000 W)/\Y8 8 w.heap.size w' W m/\Jv rb c L (N+1000) w'/\Q0 [rb] w w'/\∀x∈QD 8 m,x≠rb:=by
 refine(HF (some ⟨rb,0,none⟩) items (R:=fun v w'=>∃(W:Q7) (m:MW),v=.agg (Qa W m).toArray/\(J0 W/\P 1000 W)/\Y8 8 w.heap.size w' W m/\Jv rb c L (N+1000) w'/\Q0 [rb] w w'/\∀x∈QD 8 m,x≠rb) ?_).mono fun e w' ⟨v,he,W,m,hv,h3⟩=>⟨W,m,by rw[he,hv],h3⟩
 intro b hb b1 eY wr hx hs;refine(Dr.pick ((Dr.start h).AT7 hx hb eY) Qo hs).mono ?_;rintro e w1 ⟨v,he,hk,⟨p0,_,p2⟩,h1⟩;have p2:=p2 Qd;refine⟨_,he,hk,⟨Qo,Qo⟩,zxu (lo:=1) (hi:=4) Qd rfl Qo Qo fun x x1 x4 wr hx hs=>?_⟩;obtain⟨q,rfl⟩:∃q:Nat,x=(q:Int):=⟨x.toNat,Qo⟩;have h2:=h1.step hx;refine(BD (n:=q) Qo Qo).mono ?_;rintro e2 w2 ⟨m,aQ,hM,SK⟩
 have cD:∀x∈rb::[b,b1],x<wr.heap.size:=fun x hm=>by
  rcases Ij.1 hm with h1 | h1
  ·rw[h1]; exact h2.r.rd.lt
  ·exact hs x h1
 have hK:Xz P rb c L N 1 [b,b1] w w2 (Jx q) m:=⟨zsj Qo Qo,hP.new Qo Qo,⟨h2.r.R4 SK,h2.ext.trans SK.of_nil,h2.new⟩,(OW.of hM cD).mono h2.ext.size⟩;refine⟨_,_,_,_,_,_,_,_,_,_,_,aQ,Qe SK hs,fun b2 cD wr hx hs=>?_⟩;refine((hK.put hx cD).pick hP Qo hs).mono ?_;rintro e3 w3 ⟨v1,fH,uH,⟨p10,_,p12⟩,hK1⟩;have p12:=p12 Qd;refine⟨_,fH,uH,?_⟩;refine⟨fun vs w2=>∃(k n:Nat) (W:Q7) (m:MW),vs=I (k:Int)::Qa W m/\(k:Int)<=v1/\n<=2+2*k/\Xz P rb c L N n [b,b1,b2] w w2 W m,Zo v1.toNat 0,fun wr hx _=>⟨0,2,Jx q,m,rfl,p10,Qo,hK1.step hx⟩,?_⟩;clear hK1 uH fH hs hx hM hK aQ SK h1 h2 he hk;rintro i1 l RZ Sa Sh S9 Sf Sg S4 S5 S7 wv hs ⟨k,n,W,m,he,hk,hn,hK⟩;simp only[Qa,I5,I6,Iw,true_and,and_true] at he;obtain⟨rfl,rfl,⟨rfl,rfl,rfl⟩,⟨rfl,rfl,rfl⟩,rfl,rfl,rfl⟩:=he;refine⟨fun IQ=>?_,fun RH wr hx hs=>?_⟩
 ·have IQ:=Ot IQ
  repeat' first
   | exact rfl
   | (refine And.intro ?_ ?_)
   | (refine zt0 Qd rfl Qo Qo fun x=>?_)
   | (refine zxj Qd rfl Qo Qo fun x=>?_)
   | (intro (b:Nat) hb)
   | (intro (wr:Wo) hx hs; refine(Xz.pick hP (Xz.step (by assumption) hx) ?_ hs).mono ?_; rotate_left; rintro e w2 ⟨v,he,hk,⟨hp0,_,mS⟩,hC⟩; have mS:=mS Qd; refine⟨_,he,hk,?_⟩)
   | (intro (wr:Wo) hx hs; refine(Xz.pick hP (Xz.put (by assumption) hx (by assumption)) ?_ hs).mono ?_; rotate_left; rintro e w2 ⟨v,he,hk,⟨hp0,_,mS⟩,hC⟩; have mS:=mS Qd; refine⟨_,he,hk,?_⟩)
   | (intro (wr:Wo) hx hs; refine(Xz.pick hP (Xz.AT7 (by assumption) hx (by assumption) (by assumption)) ?_ hs).mono ?_; rotate_left; rintro e w2 ⟨v,he,hk,⟨hp0,_,mS⟩,hC⟩; have mS:=mS Qd; refine⟨_,he,hk,?_⟩)
   | (intro (wr:Wo) hx hs; refine(Xz.mak hP (Xz.step (by assumption) hx) hs).mono ?_; rintro e w2 ⟨W',m',a,d,he,hk,hC⟩; refine⟨_,_,_,_,_,_,_,_,_,_,_,_,he,hk,⟨Qo,Qo⟩,fun wr hx _=>⟨⟨k+1,n+2,W',m',by simp[Qa],Qo,Qo,((hC.step hx).more hP Qo).sub Qs⟩,QS (k:=k) rfl rfl Qo⟩⟩)
   | (intro (wr:Wo) hx hs; refine(Xz.mak hP (Xz.put (by assumption) hx (by assumption)) hs).mono ?_; rintro e w2 ⟨W',m',a,d,he,hk,hC⟩; refine⟨_,_,_,_,_,_,_,_,_,_,_,_,he,hk,⟨Qo,Qo⟩,fun wr hx _=>⟨⟨k+1,n+2,W',m',by simp[Qa],Qo,Qo,((hC.step hx).more hP Qo).sub Qs⟩,QS (k:=k) rfl rfl Qo⟩⟩)
   | (intro (wr:Wo) hx hs; refine(Xz.mak hP (Xz.AT7 (by assumption) hx (by assumption) (by assumption)) hs).mono ?_; rintro e w2 ⟨W',m',a,d,he,hk,hC⟩; refine⟨_,_,_,_,_,_,_,_,_,_,_,_,he,hk,⟨Qo,Qo⟩,fun wr hx _=>⟨⟨k+1,n+2,W',m',by simp[Qa],Qo,Qo,((hC.step hx).more hP Qo).sub Qs⟩,QS (k:=k) rfl rfl Qo⟩⟩)
   | omega
 refine((hK.step hx).pick hP Qo hs).mono ?_;rintro e4 w4 ⟨v3,he4,hk4,⟨p30,_,p32⟩,hC6⟩;have p32:=p32 Qd;refine⟨_,he4,hk4,⟨Qo,Qo⟩,?_⟩;refine⟨fun vs w2=>∃(k n:Nat) (W:Q7) (m:MW),vs=I (k:Int)::Qa W m/\(k:Int)<=1+v3/\n<=20+3*k/\Xz P rb c L N n [b,b1,b2] w w2 W m,Zo (1+v3).toNat 0,fun W8 rH _=>⟨0,n+1,W,m,rfl,Qo,Qo,hC6.step rH⟩,?_⟩;clear hK hC6 hk4 he4 hs hx RH hk hn;clear W m n k;rintro i3 l4 mL jA mJ mB oM lZ kL nN mM wv hs ⟨k,n,W,m,he,hk,hn,hK⟩;simp only[Qa,I5,I6,Iw,true_and,and_true] at he;obtain⟨rfl,rfl,⟨rfl,rfl,rfl⟩,⟨rfl,rfl,rfl⟩,rfl,rfl,rfl⟩:=he;refine⟨fun IQ wr hx hs=>?_,fun RH=>?_⟩
 ·have IQ:=Ot IQ;refine((hK.step hx).pick hP Qo hs).mono ?_;rintro e5 w5 ⟨v5,he5,hk5,_,hC5⟩;refine⟨_,he5,hk5,rfl,fun wr hx hs=>?_⟩;refine((hC5.step hx).weight hP Qo hs).mono ?_;rintro e6 w6 ⟨v6,he6,hk6,_,hC6⟩;refine⟨_,he6,hk6,rfl,_,VA,_,XY,zt4 _,fun wr hx hs=>?_⟩;refine((hC6.step hx).fork hP hs).mono ?_;rintro e7 w7 ⟨W7,m7,a,d,he7,hk7,hC7⟩;exact⟨_,_,_,_,_,_,_,_,_,_,_,_,he7,hk7,⟨Qo,Qo⟩,fun wr hx _=>⟨⟨k+1,n+1+2,W7,m7,by simp[Qa],Qo,Qo,hC7.step hx⟩,QS (k:=k) rfl rfl Qo⟩⟩
 ·have RH:=Ou RH;refine⟨fun vs w2=>∃(k n:Nat) (W:Q7) (m:MW),vs=I (k:Int)::Qa W m/\k<=27/\n<=60+30*k/\Xz P rb c L N n [b,b1,b2] w w2 W m,Zo 27 0,fun W8 rH _=>⟨0,n,W,m,rfl,Qo,Qo,hK.step rH⟩,?_⟩;clear hK hs;rintro i5 l8 zP l9L l9C A99 A98 A97 nL nK nJ wv hs ⟨k,n,W,m,he,hk,hn,hK⟩;simp only[Qa,I5,I6,Iw,true_and,and_true] at he;obtain⟨rfl,rfl,⟨rfl,rfl,rfl⟩,⟨rfl,rfl,rfl⟩,rfl,rfl,rfl⟩:=he;refine⟨fun IQ wr hx hs=>?_,fun RH wr hx=>⟨W,m,rfl,(hK.step hx).fin hP Qo⟩⟩;have IQ:=Ot IQ;refine((hK.step hx).item hP Qo hs (V:=W) (p:=m)).mono ?_;rintro e5 w5 ⟨k5,a5,q5,r5,s5,he5,hk5,hC5⟩;refine⟨_,_,_,_,_,he5,hk5,rfl,fun wr hx hs=>?_⟩;refine((hC5.step hx).do hP Qo hs).mono ?_;rintro e6 w6 ⟨W6,m6,d,he6,hk6,hC6⟩;exact⟨_,_,_,_,_,_,_,_,_,_,_,he6,hk6,⟨Qo,Qo⟩,fun wr hx _=>⟨⟨k+1,n+20+10,W6,m6,by simp[Qa],Qo,Qo,hC6.step hx⟩,QS (k:=k) rfl rfl Qo⟩⟩
theorem zw2:Tryz.prog.underlying ty_sl_uint8=some (.slice TR):=Qk
theorem zw1:Tryz.prog.underlying TR=some (.int .u8):=Qk
theorem zw3:Tryz.prog.underlying Zy=some .string:=Qk
theorem Xz.Bu2{P:Nat->Q7->Prop}(hP:Pg P){rb:Nat}{c:OA}{L N n k:Nat}{bs:List Nat}{w0 w w':Wo}{W:Q7}{m:MW}(d:Dr rb c L N n bs w0 w)(hs:∀x∈bs,x<w.heap.size)(iv:J0 W/\P k W)(hM:Y8 8 w.heap.size w' W m)(hr:Jv rb c L (N+n+k) w')(hx:Q0 [rb] w w')(gA:∀x∈QD 8 m,x≠rb):Xz P rb c L N (n+k) bs w0 w' W m:=
 ⟨iv.1,hP.mono Qo iv.2,⟨d.r.upd (by rw[<-Nat.add_assoc]; exact hr),d.ext.trans hx,d.new⟩,⟨hM.mono d.ext.size,fun x So hm=>by
  rcases Ij.1 hm with h1 | h1
  ·exact gA x So h1
  ·have:=(hM.lt x So).1;have:=hs x h1;omega⟩⟩
theorem zsu{P:Nat->Q7->Prop}(hP:Pg P){rb:Nat}{c:OA}{L N:Nat}{w:Wo}(h:Jv rb c L N w)(hN:N<=600000000000) :
  Cz Ub #[.pointer (some ⟨rb,0,none⟩)] w fun e w'=>∃(W:Q7) (m:MW),e=.returned (.agg (Qa W m).toArray)/\(J0 W/\P 1100 W)/\Y8 8 w.heap.size w' W m/\Jv rb c L (N+1100) w'/\Q0 [rb] w w'/\∀x∈QD 8 m,x≠rb:=by
 refine(Gu (some ⟨rb,0,none⟩) (R:=fun v w'=>∃(W:Q7) (m:MW),v=.agg (Qa W m).toArray/\(J0 W/\P 1100 W)/\Y8 8 w.heap.size w' W m/\Jv rb c L (N+1100) w'/\Q0 [rb] w w'/\∀x∈QD 8 m,x≠rb) ?_).mono fun e w' ⟨v,he,W,m,hv,h3⟩=>⟨W,m,by rw[he,hv],h3⟩
 intro b hb wr hx hs;refine(Dr.pick ((Dr.start h).put hx hb) Qo hs).mono ?_;rintro e w1 ⟨v,he,hk,⟨p0,_,p2⟩,h1⟩;have p2:=p2 Qd;refine⟨_,he,hk,fun wr hx hs=>?_⟩;have h2:=h1.step hx;refine(zvb hP h2.r.rd Qo (items:=v) Qo).mono ?_;rintro e2 w2 ⟨W,m,aQ,iv,hM,hr,hxp,gA⟩;have hK:=Xz.Bu2 hP h2 hs iv hM hr hxp gA;refine⟨_,_,_,_,_,_,_,_,_,_,aQ,P0 h2.r hxp hs,fun b1 eY wr hx hs=>?_⟩;refine((hK.put hx eY).pick hP Qo hs).mono ?_;rintro e3 w3 ⟨v3,fH,uH,_,nF⟩;refine⟨_,fH,uH,fun _=>?_,fun _ wr hx=>⟨W,m,rfl,(nF.step hx).fin hP Qo⟩⟩;refine⟨fun vs w2=>∃(k:Nat) (W:Q7) (m:MW),vs=I (k:Int)::Qa W m/\k<=12/\Xz P rb c L N (0+1+1000+1) [b,b1] w w2 W m,Zo 12 0,fun wr hx _=>⟨0,W,m,rfl,Qo,nF.step hx⟩,?_⟩;clear nF hK hM iv gA hr hxp aQ uH fH h2 h1 hs hx;rintro i1 l RZ Sa Sh S9 Sf Sg S4 S5 S7 wv hs ⟨k,W,m,he,hk,hK⟩;simp only[Qa,I5,I6,Iw,true_and,and_true] at he;obtain⟨rfl,rfl,⟨rfl,rfl,rfl⟩,⟨rfl,rfl,rfl⟩,rfl,rfl,rfl⟩:=he;refine⟨fun IQ wr hx hs=>?_,fun RH=>?_⟩
 ·have IQ:=Ot IQ;refine((hK.step hx).fork hP hs).mono ?_;rintro e7 w7 ⟨W7,m7,a,d,he7,hk7,hC7⟩;exact⟨_,_,_,_,_,_,_,_,_,_,_,_,he7,hk7,⟨Qo,Qo⟩,fun wr hx _=>⟨⟨k+1,W7,m7,by simp[Qa],Qo,hC7.step hx⟩,QS (k:=k) rfl rfl Qo⟩⟩
 refine⟨fun vs w2=>∃(k:Nat) (W:Q7) (m:MW),vs=I (k:Int)::Qa W m/\k<=8/\Xz P rb c L N (0+1+1000+1) [b,b1] w w2 W m,Zo 8 0,fun wr hx _=>⟨0,W,m,rfl,Qo,hK.step hx⟩,?_⟩;clear hK hs;rintro i3 l4 mL jA mJ mB oM lZ kL nN mM wv hs ⟨k,W,m,he,hk,hK⟩;simp only[Qa,I5,I6,Iw,true_and,and_true] at he;obtain⟨rfl,rfl,⟨rfl,rfl,rfl⟩,⟨rfl,rfl,rfl⟩,rfl,rfl,rfl⟩:=he;refine⟨fun IQ=>⟨⟨Qo,Qo⟩,⟨by have:=Ot IQ; show (0:Int)<=_; omega,by have:=Ot IQ; show _<=(255:Int); omega⟩,fun b3 wb hxb mH hh hn wr hx hs=>?_⟩,fun _ wr hx=>⟨W,m,rfl,(hK.step hx).fin hP Qo⟩⟩;have IQ:=Ot IQ;have hK1:=(hK.step hxb).step hx
 have hh2:wr.heap[b3]? = some (Obj.cells ([.int .u8 (48+(k:Int))]:List Va).toArray TR (0,0)):=by
  rw[hx.block b3 (VX hh) hn]; exact hh
 have hc:=run_convert_bytes_arg wr ty_sl_uint8 TR zw2 zw1 b3 0 1 1 [48+(k:Int)] rfl (fun i hi=>by
  have:i=0:=Qo;subst this;rw[OD hh2]; rfl) Zy zw3
 refine⟨_,wr,hc,fun _ _=>rfl,?_,fun O' R6 SY=>?_⟩
 ·have e1:(strOfNums [48+(k:Int)]).size=1:=rfl;rw[e1]; decide
 refine((hK1.step R6).mak hP SY).mono ?_;rintro e7 w7 ⟨W7,m7,a,d,he7,hk7,hC7⟩;exact⟨_,_,_,_,_,_,_,_,_,_,_,_,he7,hk7,⟨Qo,Qo⟩,fun wr hx _=>⟨⟨k+1,W7,m7,by simp[Qa],Qo,hC7.step hx⟩,QS (k:=k) rfl rfl Qo⟩⟩
structure Cl (W V:Q7):Prop where
 n:V.now=W.now
 c:V.IE=W.IE
 t:V.tasks.length=W.tasks.length
 g:V.ID.length=W.ID.length
 e:∀i:Int,0<=i->i<8->∃ss:List K0,gi V.ID i={ gi W.ID i with IF:=ss }/\ss.length=(gi W.ID i).IF.length
theorem Cl.refl(W:Q7):Cl W W:=⟨rfl,rfl,rfl,rfl,fun i _ _=>⟨_,rfl,rfl⟩⟩
theorem Cl.enc{W V:Q7}(h:Cl W V)(m:MW):Qa V m=Qa W m:=by simp[Qa,h.n,h.c,h.t,h.g]
theorem Cl.len{W V:Q7}(h:Cl W V)(hl:Xh W)(h8:W.ID.length=8):Xh V:=by
 refine⟨by rw[h.c]; exact hl.c,by rw[h.t]; exact hl.t,by rw[h.g]; exact hl.g,fun i a b=>?_⟩;rw[h.g] at b;obtain⟨ss,e,l⟩:=h.e i a Qo;have hf:=hl.f i a b;rw[e];exact⟨hf.nm,hf.nx,hf.lo,hf.dr,by show ss.length<=_; rw[l]; exact hf.sh⟩
structure Lt (base:Nat) (bs:List Nat) (w0 w:Wo) (W V:Q7) (m:MW):Prop where
 cl:Cl W V
 o:OW 8 base bs w V m
 ext:Q0 (QD 8 m) w0 w
 new:∀x∈bs,w0.heap.size<=x
section
variable {base:Nat}{bs:List Nat}{w0 w w':Wo}{W V V':Q7}{m:MW}
theorem Lt.step(h:Lt base bs w0 w W V m)(hx:Q0 bs w w'):Lt base bs w0 w' W V m:=⟨h.cl,h.o.step hx,h.ext.fresh hx fun x hm=>.inl (h.new x hm),h.new⟩
theorem Lt.RD(h:Lt base bs w0 w W V m)(hc:Cl W V')(hM:Y8 8 base w' V' m)(hx:Q0 (QD 8 m) w w'):Lt base bs w0 w' W V' m:=⟨hc,⟨hM,h.o.nb⟩,h.ext.trans hx,h.new⟩
theorem zu9(h:Y8 8 base w W m)(iv:J0 W) :
  Cz O6 #[.agg (Qa W m).toArray] w fun e w'=>∃V:Q7,e=.returned (.agg (Qa V m).toArray)/\Xh V/\Y8 8 base w' V m/\Q0 (QD 8 m) w w':=by
 refine(A5 _ _ _ _ _ _ _ _ _ _ (R:=fun v w'=>∃V:Q7,v=.agg (Qa V m).toArray/\Xh V/\Y8 8 base w' V m/\Q0 (QD 8 m) w w') ?_).mono fun e w' ⟨v,he,V,hv,h3⟩=>⟨V,by rw[he,hv],h3⟩
 intro b hb b1 eY;have bW:=iv.wp.a.gl;have jV:=iv.wp.a.t
 have oA:∀x∈[b,b1],w.heap.size<=x:=by
  intro x hx;simp at hx;omega
 have h0:Lt base [b,b1] w w W W m:=⟨Cl.refl W,⟨h,fun x hx hm=>by
  have:=(h.lt x hx).2;have:=oA x hm;omega⟩,Q0.refl _ _,oA⟩
 refine⟨fun vs w2=>∃(k:Nat) (V:Q7),vs=[I (k:Int)]/\k<=12/\Lt base [b,b1] w w2 W V m/\V.ID=W.ID/\∀j:Int,(k:Int)<=j->j<12->Q8 V j=Q8 W j,Zo 12 0,fun wr hx _=>⟨0,W,rfl,Qo,h0.step hx.of_nil,rfl,fun _ _ _=>rfl⟩,?_⟩;clear h0;rintro t wv hs ⟨k,V,he,hk,hL,hg,ht⟩;simp only[I5,I6,true_and,and_true] at he;subst he;have hVt:V.tasks.length=12:=by rw[hL.cl.t]; exact jV
 refine⟨fun IQ=>?_,fun RH=>?_⟩
 ·have IQ:=Ot IQ;have k0:(0:Int)<=(k:Int):=Qo;have k1:(k:Int)<(V.tasks.length:Int):=Qo
  have ix:Ix m.tO W.tasks.length (k:Int):=by
   have:=hL.o.rd.t.ix QL k0 k1
   rwa[hL.cl.t] at this
  have hv:0<=(Q8 V (k:Int)).v/\(Q8 V (k:Int)).v<=100000000000000000:=by
   rw[ht _ (I3 _) Qo];rcases iv.wp.t (k:Int) k0 Qo with hz | ⟨_,hx⟩
   ·rw[hz.2]; decide
   ·exact Y2.1 hx.v
  refine⟨ix,_,hL.o.rd.t.f k0 k1 (j:=0) rfl,fun _=>⟨ix,_,hL.o.rd.t.f k0 k1 (j:=5) rfl,⟨by show _<=(Q8 V (k:Int)).v+_; omega,by show (Q8 V (k:Int)).v+_<=_; omega⟩,ix,zfv hL.o.own hL.o.nb k0 k1 (j:=5) Qd,⟨Qo,Qo⟩,fun wr hx _=>⟨⟨k+1,IU V (k:Int) { Q8 V (k:Int) with v:=(Q8 V (k:Int)).v+50000000000000001 },Qs,Qo,?_,hg,fun j a c=>?_⟩,QS (k:=k) rfl rfl Qo⟩⟩,fun _=>⟨⟨Qo,Qo⟩,fun wr hx _=>⟨⟨k+1,V,Qs,Qo,hL.step hx,hg,fun j a c=>ht j Qo c⟩,QS (k:=k) rfl rfl Qo⟩⟩⟩
  ·refine(hL.RD (V':=IU V (k:Int) { Q8 V (k:Int) with v:=(Q8 V (k:Int)).v+50000000000000001 }) ⟨hL.cl.n,hL.cl.c,by show (List.set _ _ _).length=_; rw[H']; exact hL.cl.t,hL.cl.g,hL.cl.e⟩ (hL.o.own.AE6 k0 k1 (j:=5) (vs:=[I ((Q8 V (k:Int)).v+50000000000000001)]) (x:={ Q8 V (k:Int) with v:=(Q8 V (k:Int)).v+50000000000000001 }) rfl (by show 5+1<=9; decide)) LO).step hx
  ·rw[show Q8 (IU V (k:Int) { Q8 V (k:Int) with v:=(Q8 V (k:Int)).v+50000000000000001 }) j=_ from (QC V.tasks { Q8 V (k:Int) with v:=(Q8 V (k:Int)).v+50000000000000001 } k0 k1 (j:=j) Qo),C' Qo];exact ht j Qo c
 have RH:=Ou RH;refine⟨fun vs w2=>∃(k:Nat) (V:Q7),vs=[I (k:Int)]/\k<=8/\Lt base [b,b1] w w2 W V m/\∀j:Int,(k:Int)<=j->j<8->gi V.ID j=gi W.ID j,Zo 8 0,fun wr hx _=>⟨0,V,rfl,Qo,hL.step hx,fun j _ _=>by rw[hg]⟩,?_⟩;clear hL hg ht hs hVt;rintro k' Rr dX ⟨k2,V,he,uG,hL,hg⟩;simp only[I5,I6,true_and,and_true] at he;subst he;refine⟨fun IQ=>?_,fun bU wr hx=>?_⟩
 rotate_left
 ·have hK:=hL.step hx;exact⟨V,by rw[hK.cl.enc]; rfl,hK.cl.len iv.len bW,hK.o.own,hK.ext⟩
 have IQ:=Ot IQ;have k0:(0:Int)<=(k2:Int):=Qo;have k8:(k2:Int)<8:=Qo;have DM5:=(PP iv.wp.a k0 k8).2.2;refine⟨fun vs w2=>∃(c:Nat) (V:Q7),vs=[I (c:Int)]/\c<=(gi W.ID (k2:Int)).IF.length/\Lt base [b,b1] w w2 W V m/\(∀j:Int,(k2:Int)<j->j<8->gi V.ID j=gi W.ID j)/\∀d:Int,(c:Int)<=d->Qc V (k2:Int) d=Qc W (k2:Int) d,Zo 4 0,fun wr hx _=>⟨0,V,rfl,Qo,hL.step hx,fun j a c=>hg j Qo c,fun d _=>by unfold Qc; rw[hg _ (I3 _) k8]⟩,?_⟩;clear hL hg dX;rintro c' Rx SY ⟨c,V,he,hc,hL,hg,hsh⟩;simp only[I5,I6,true_and,and_true] at he;subst he;have hVg:V.ID.length=8:=by rw[hL.cl.g]; exact bW
 have k1:(k2:Int)<(V.ID.length:Int):=Qo;obtain⟨ss,hss,hsl⟩:=hL.cl.e (k2:Int) k0 k8;have hlen:(gi V.ID (k2:Int)).IF.length=(gi W.ID (k2:Int)).IF.length:=by rw[hss]; exact hsl
 have ix:∀{V':Q7} {w3:Wo},Lt base [b,b1] w w3 W V' m->Ix m.gO W.ID.length (k2:Int):=fun hL'=>by
  have:=hL'.o.rd.g.ix (i:=(k2:Int)) k0 (by rw[hL'.cl.g]; omega)
  rwa[hL'.cl.g] at this
 refine⟨ix hL,_,_,_,hL.o.rd.g.S3 k0 k1,fun sJ=>?_,fun hgc=>⟨⟨Qo,Qo⟩,fun wr hx _=>⟨⟨k2+1,V,Qs,Qo,hL.step hx,fun j a d=>hg j Qo d⟩,QS (k:=k2) rfl rfl Qo⟩⟩⟩;have sJ:=Ot sJ;have c0:(0:Int)<=(c:Int):=Qo;have hp:=iv.wp.s (k2:Int) (c:Int) k0 k8 c0 Qo;have hsc:=hsh (c:Int) (I3 _);have hf:=Y2.1 hp.f;have hv:=Y2.1 hp.v;rw[<-hsc] at hf hv;have vD:=hL.o.rd.g.IF _ k0 k1;have hM1:=hL.o.own.BR1 (i:=(k2:Int)) (c:=(c:Int)) k0 Qo c0 sJ (j:=0) (vs:=[I ((Qc V (k2:Int) (c:Int)).floor+50000000000000001)]) (x:={ Qc V (k2:Int) (c:Int) with floor:=(Qc V (k2:Int) (c:Int)).floor+50000000000000001 }) rfl (by show 0+1<=5; decide)
 have qW:∀{V1:Q7} (s:K0),Cl W V1->Cl W (RM V1 (k2:Int) (c:Int) s):=fun {V1} s h1=>⟨h1.n,h1.c,h1.t,by show (List.set _ _ _).length=_; rw[H']; exact h1.g,fun i a d=>by
  have:=h1.g;obtain⟨s1,e1,l1⟩:=h1.e i a d;have e2:gi (RM V1 (k2:Int) (c:Int) s).ID i=if (k2:Int)=i then { gi V1.ID (k2:Int) with IF:=(gi V1.ID (k2:Int)).IF.set (Int.toNat (c:Int)) s } else gi V1.ID i:=Ym k0 Qo a;rw[e2];split
  ·rename_i e3;subst e3;exact⟨s1.set (Int.toNat (c:Int)) s,by rw[e1],by rw[H']; exact l1⟩
  ·exact⟨s1,e1,l1⟩⟩
 have hL1:=hL.RD (V':=RM V (k2:Int) (c:Int) { Qc V (k2:Int) (c:Int) with floor:=(Qc V (k2:Int) (c:Int)).floor+50000000000000001 }) (qW _ hL.cl) hM1 (N3 Qo)
 have hg1:∀{V1:Q7} (s:K0),V1.ID.length=8->(∀j:Int,(k2:Int)<j->j<8->gi V1.ID j=gi W.ID j)->∀j:Int,(k2:Int)<j->j<8->gi (RM V1 (k2:Int) (c:Int) s).ID j=gi W.ID j:=fun {V1} s hl h1 j a d=>by
  rw[show gi (RM V1 (k2:Int) (c:Int) s).ID j=_ from Ym k0 Qo Qo,C' Qo];exact h1 j a d
 have dX:∀{V1:Q7} (s:K0),V1.ID.length=8->(c:Int)<((gi V1.ID (k2:Int)).IF.length:Int)->(∀d:Int,(c:Int)+1<=d->Qc V1 (k2:Int) d=Qc W (k2:Int) d)->∀d:Int,(c:Int)+1<=d->Qc (RM V1 (k2:Int) (c:Int) s) (k2:Int) d=Qc W (k2:Int) d:=fun {V1} s hl A26 h1 d a=>by
  rw[Jf k0 Qo c0 A26 k0 Qo,C' Qo];exact h1 d a
 have hg2:=hg1 { Qc V (k2:Int) (c:Int) with floor:=(Qc V (k2:Int) (c:Int)).floor+50000000000000001 } hVg hg;have Bd5:=dX { Qc V (k2:Int) (c:Int) with floor:=(Qc V (k2:Int) (c:Int)).floor+50000000000000001 } hVg sJ fun d a=>hsh d Qo
 have zO:(gi (RM V (k2:Int) (c:Int) { Qc V (k2:Int) (c:Int) with floor:=(Qc V (k2:Int) (c:Int)).floor+50000000000000001 }).ID (k2:Int)).IF.length=(gi V.ID (k2:Int)).IF.length:=zcz k0 k1 k0
 have hv1:Qc (RM V (k2:Int) (c:Int) { Qc V (k2:Int) (c:Int) with floor:=(Qc V (k2:Int) (c:Int)).floor+50000000000000001 }) (k2:Int) (c:Int)={ Qc V (k2:Int) (c:Int) with floor:=(Qc V (k2:Int) (c:Int)).floor+50000000000000001 }:=by
  rw[Jf k0 k1 c0 sJ k0 c0,E' ⟨rfl,rfl⟩]
 refine⟨ix hL,_,_,_,hL.o.rd.g.S3 k0 k1,ix hL,_,_,_,hL.o.rd.g.S3 k0 k1,vD.ix ZK c0 sJ,(Qc V (k2:Int) (c:Int)).floor,vD.f c0 sJ (j:=0) rfl,⟨Qo,Qo⟩,vD.ix ZK c0 sJ,zuf hL.o.own hL.o.nb k0 Qo c0 sJ (j:=0) Qd,fun _=>?_,fun _=>⟨⟨Qo,Qo⟩,fun wr hx _=>⟨⟨c+1,_,Qs,Qo,hL1.step hx,hg2,Bd5⟩,QS (k:=c) rfl rfl Qo⟩⟩⟩;generalize RM V (k2:Int) (c:Int) { Qc V (k2:Int) (c:Int) with floor:=(Qc V (k2:Int) (c:Int)).floor+50000000000000001 }=V1 at hL1 hg2 Bd5 zO hv1;have CQ5:V1.ID.length=8:=by rw[hL1.cl.g]; exact bW
 have k11:(k2:Int)<(V1.ID.length:Int):=Qo;have Bd0:(c:Int)<((gi V1.ID (k2:Int)).IF.length:Int):=by rw[zO]; exact sJ
 have CG8:=hL1.o.rd.g.IF _ k0 k11;have ev:(Qc V1 (k2:Int) (c:Int)).v=(Qc V (k2:Int) (c:Int)).v:=by rw[hv1]
 have cX:=hL1.o.own.BR1 (i:=(k2:Int)) (c:=(c:Int)) k0 Qo c0 Bd0 (j:=2) (vs:=[I ((Qc V1 (k2:Int) (c:Int)).v+50000000000000001)]) (x:={ Qc V1 (k2:Int) (c:Int) with v:=(Qc V1 (k2:Int) (c:Int)).v+50000000000000001 }) rfl (by show 2+1<=5; decide);have hL2:=hL1.RD (V':=RM V1 (k2:Int) (c:Int) { Qc V1 (k2:Int) (c:Int) with v:=(Qc V1 (k2:Int) (c:Int)).v+50000000000000001 }) (qW _ hL1.cl) cX (N3 Qo);exact⟨ix hL1,_,_,_,hL1.o.rd.g.S3 k0 k11,ix hL1,_,_,_,hL1.o.rd.g.S3 k0 k11,CG8.ix ZK c0 Bd0,(Qc V1 (k2:Int) (c:Int)).v,CG8.f c0 Bd0 (j:=2) rfl,⟨Qo,Qo⟩,CG8.ix ZK c0 Bd0,zuf hL1.o.own hL1.o.nb k0 Qo c0 Bd0 (j:=2) Qd,⟨Qo,Qo⟩,fun wr hx _=>⟨⟨c+1,_,Qs,Qo,hL2.step hx,hg1 _ CQ5 hg2,dX _ CQ5 Bd0 Bd5⟩,QS (k:=c) rfl rfl Qo⟩⟩
end
end Go.Proofs.YtnclplgaicdapaaGreatDoor
