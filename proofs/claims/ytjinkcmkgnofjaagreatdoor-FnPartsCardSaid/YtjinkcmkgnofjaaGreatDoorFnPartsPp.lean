/- Part 16 of what the law FnParts needs. -/
import Derived.Test.YtjinkcmkgnofjaaGreatDoorFnPartsPo
set_option linter.all false
set_option maxRecDepth 100000
set_option maxHeartbeats 8000000
namespace Go.Proofs.YtjinkcmkgnofjaaGreatDoor
open Go.RowKit
def zm4{L S:Q7}{k d:Int}(ht:S.IJ=L.IJ)(hT:QH L.IE S.IE)(h:∀j:Nat,j<L.IE.length->1<=j->(gi L.IE (j:Int)).IV->(gi L.IE (j:Int)).IG=k->(Qa L (j:Int) d).on->(Qa S (j:Int) d).on)(ha:Qv L k d):Qv S k d:=by
 unfold Qv at ha ⊢;rw[Iu] at ha ⊢;rcases ha with h1|h1
 ·refine .inl ?_;have e:Ug S k d=Ug L k d:=funext λj=>by unfold Ug;rw[ht]
  rw[e,ht];exact h1
 ·refine .inr ?_;obtain⟨j,hj,hp⟩:=LB.1 h1;refine LB.2 ⟨j,by rw[hT.len];exact hj,?_⟩;unfold Xb at hp ⊢;simp only[A',Ij,Is] at hp ⊢;exact⟨⟨hp.1.1,by rw[hT.u];exact hp.1.2.1,by rw[hT.p];exact hp.1.2.2⟩,h j hj hp.1.1 hp.1.2.1 hp.1.2.2 hp.2⟩
def zs2{L S:Q7}{d:Int}(ha:WA L)(ht:S.IJ=L.IJ)(hT:QH L.IE S.IE)(onL:∀g:Int,Q6 L.IE g->g≠0->aK L d g)(onS:∀g:Int,Q6 S.IE g->g≠0->aK S d g)(hd:∀g:Int,Xu S g d->Xu L g d):∀(n:Nat) (k:Int),Q6 L.IE k->k≠0->(4-dep 3 L.IE k).toNat=n->(Qa L k d).on->(Qa S k d).on=true
 |0,k,hu,_,hn=>by have:=Kr ha hu;omega
 |n+1,k,hu,hz,hn=>λhon=>by
  have h1:=onL k hu hz;unfold aK at h1;rw[hon] at h1;have h1:=h1.symm;simp only[A',ID] at h1
  have AG7:Qv S k d:=zm4 ht hT (λj hj j1 ju jp jon=>by
   have hju:Q6 L.IE (j:Int):=Q2.2 ⟨Qo,Qo,ju⟩;obtain⟨_,_,_,q,e1,e2,_⟩:=Y0 ha.tree hju Qo;rw[jp] at e2;exact zs2 ha ht hT onL onS hd n (j:Int) hju Qo Qo jon) h1.1
  have h2:=onS k (by rw[hT.aO];exact hu) hz;unfold aK at h2;rw[h2,AG7]
  cases hq:Xu S k d with
  |false=>rfl
  |true=>
   have:=hd k hq;rw[h1.2] at this;cases this
def zto{K:Int}{W:Q7}(sw:SW K W)(hK:0<=K):∀c:Nat,c<=W.IF.length->∀i:Int,0<=i->(gi (YB W c).IE i).IL=(gi W.IE i).IL
 |0,_=>λ_ _=>rfl
 |c+1,hc=>λi i0=>by
  obtain⟨s1,f1⟩:=Pi sw hK c Qo;obtain⟨o,_⟩:=Br s1 (c:=(c:Int)) Qo (by rw[f1.c];omega);exact(o.b i i0).trans (zto sw hK c Qo i i0)
def G7{K:Int}{W:Q7}(sw:SW K W)(hK:0<=K):D9 (Qb W):=by
 obtain⟨s1,_⟩:=T3 (F:=K) (K:=K+Qh) (sw.sf.mono (I2 _) (by simp only[Qh];omega)) (I2 _) W.IF.length (I7 _);obtain⟨a1,o1,on1⟩:=zi8 sw.a W.IF.length (I7 _);obtain⟨s2,b2⟩:=JP s1 8 (I7 _);have hc2:(Zv (Z2 W W.IF.length) 8).IF.length=W.IF.length:=by rw[b2.c,o1.c]
 obtain⟨_,f3⟩:=Pi s2.w (by simp only[Qh];omega) W.IF.length (by rw[hc2];exact I7 _);have hb:=zto s2.w (by simp only[Qh];omega) W.IF.length (by rw[hc2];exact I7 _);have hdm:=λ{d:Int}=>zjy sw hK (d:=d)
 have hdl:Dl (Z2 W W.IF.length) (Qb W):=(Fs (Z2 W W.IF.length) 8).trans (zcw (PK (Z2 W W.IF.length)) W.IF.length);have e:Qb W=YB (Zv (Z2 W W.IF.length) 8) W.IF.length:=rfl;have fr:=(JF sw hK).2;have hg:=zi0 s1 8 (I7 _);have hT:QH (Z2 W W.IF.length).IE (Qb W).IE:=b2.g.trans f3.g;have htk:(Qb W).IJ=(Z2 W W.IF.length).IJ:=f3.t.trans b2.t;have qT:(Z2 W W.IF.length).IF.length=W.IF.length:=by rw[o1.c]
 intro k c hu hq c0 c1 hp;have hul:Q6 (Z2 W W.IF.length).IE k:=by rw[hT.aO] at hu;exact hu
 obtain⟨k0,k1,_⟩:=Q2.1 hul;have hl:=a1.gl;have oM:c<(W.IF.length:Int):=by rw[fr.c] at c1;exact c1
 have hbk:(gi (Qb W).IE k).IL=(gi (Zv (Z2 W W.IF.length) 8).IE k).IL:=hb k k0;rw[hbk] at hq hp;have AG7:=hg k c hul Qo hq c0 (by rw[qT];exact oM) hp;refine zm4 htk hT (λj hj j1 ju jp jon=>?_) AG7;have hju:Q6 (Z2 W W.IF.length).IE (j:Int):=Q2.2 ⟨Qo,Qo,ju⟩;exact zs2 a1 htk hT (λg gu gz=>on1 c c0 oM g (by rw[<-o1.g.aO];exact gu) gz) (hdm c0 oM).on (λg=>hdl.d g c) _ (j:Int) hju Qo rfl jon
section
variable {W:Q7}
def z1k(g:D9 W)(c:Int):D9 (Rc W c):=λk d hu hq d0 d1 hp=>g k d hu hq d0 (by
 have hl:(Rc W c).IF.length=W.IF.length:=E'
 rwa[hl] at d1) hp
def z4m(wp:XQ W){a p:Int}{name:ByteArray}(hm:AK W a p name)(g:D9 W):D9 (O5 W a p name):=λk c hu hq c0 c1 hp=>by
 have ha:=wp.a;rcases (OX ha hm).1 hu with e|e
 ·rw[zqt ha hm c0 c1];rw[LO ha hm e] at hq hp;exact g k c e hq c0 c1 hp
 ·rw[e,KF ha hm] at hq;exact Ir rfl hq
def z1j(wp:XQ W){g:Int}(hd:zfz W g)(h:D9 W):D9 (XT W g):=λk c hu hq c0 c1 hp=>by
 have ha:=wp.a;obtain⟨e,e2⟩:=(PU ha hd).1 hu;rw[zxk wp hd c0 c1];rw[LE ha hd e e2] at hq hp;exact h k c e hq c0 c1 hp
def z1l{n:Nat}(n0:1<=n)(n1:n<=4):D9 (Jp n):=λk c hu hq _ _ _=>by
 have wp:=(zll n0 n1).wp;rw[(zl4 k).1 hu] at hq;exact Ir (((wp.a.u wp.a.root).2.2.root rfl).2.2) hq
end
structure TW (K S:Int) (W:Q7):Prop where
 sw:SW K W
 rb:RB S W
 i:∀c:Int,0<=c->c<(W.IF.length:Int)->(gi W.IF c).idle<=S
 nw:W.now<=S
structure zpo (W W':Q7):Prop where
 n:W'.now=W.now
 l:W'.IF.length=W.IF.length
 i:∀c:Int,(gi W'.IF c).idle=(gi W.IF c).idle
def zpo.refl(W:Q7):zpo W W:=⟨rfl,rfl,λ_=>rfl⟩
def zpo.trans{A B C:Q7}(h:zpo A B)(k:zpo B C):zpo A C:=⟨k.n.trans h.n,k.l.trans h.l,λc=>(k.i c).trans (h.i c)⟩
def zsk(W:Q7)(c:Int):zpo W (Rc W c):=⟨rfl,E',(D3 W c).i⟩
def zuo(W:Q7)(t:Int):zpo W (Z6 W t):=by
 unfold Z6;split
 ·exact zsk _ _
 ·exact zpo.refl _
def zsl(W:Q7)(t g c:Int):zpo W (Uj W t g c):=by
 unfold Uj;split
 ·exact(⟨rfl,rfl,λ_=>rfl⟩:zpo W (J' W t (M2 W t g c))).trans (zsk _ _)
 ·exact⟨rfl,rfl,λ_=>rfl⟩
def zli(W:Q7):∀k:Nat,zpo W (Jr W k)
 |0=>zpo.refl _
 |k+1=>by
  simp only[Jr];split
  ·exact(zli W k).trans (zsl _ _ _ _)
  ·exact zli W k
section
variable {K K' S S':Int}{W W':Q7}
def TW.mono(h:TW K S W)(hk:K<=K')(hs:S<=S'):TW K' S' W:=⟨h.sw.mono hk,h.rb.mono hs,λc a b=>IC (h.i c a b) hs,IC h.nw hs⟩
def TW.of(h:TW K S W)(k:zpo W W')(sw:SW K' W')(rb:RB S W'):TW K' S W':=⟨sw,rb,λc a b=>by rw[k.l] at b;rw[k.i];exact h.i c a b,by rw[k.n];exact h.nw⟩
def TW.sum(h:TW K S W)(k:JY W W')(hT:QH W.IE W'.IE)(hl:W'.IF.length=W.IF.length)(sw:SW K' W'):TW K' S W':=h.of ⟨k.n,hl,k.i⟩ sw (h.rb.sum k hT hl)
def TW.settle(h:TW K S W)(hK:0<=K):TW K S (Qb W):=by
 obtain⟨s,f⟩:=zvq h.sw hK;exact h.sum (zft W) f.g f.c s
def TW.Rc(h:TW K S W){c:Int}(c0:0<=c)(c1:c<(W.IF.length:Int)):TW K S (Rc W c):=h.sum (D3 W c) (QH.refl _) E' (h.sw.Rc c0 c1)
def TW.room(h:TW K S W)(wp:XQ W)(hK:K<=Ql)(hS:S<=Ql)(S0:0<=S):QO W:=by
 have bU:=wp.a.gl;have jF:=wp.a.t;refine Qm.2 ⟨IC h.nw hS,λc a b=>⟨IC (h.rb.c c a b).2.1 hS,IC (h.i c a b) hS⟩,λt a b=>?_,λk a b=>?_,λk c a b c0 c1=>?_⟩
 ·have h1:=h.sw.tv t a Qo;have h2:=h.rb.t t a Qo;exact⟨IC h1.2 hK,IC h2.2.1 hS,IC h2.2.2.2 hS⟩
 ·cases hh:(gi W.IE k).IV with
  |true=>exact IC (h.rb.g k (Q2.2 ⟨a,b,hh⟩)).2 hS
  |false=>
   rw[((wp.a.grp k a Qo).1 hh).s];omega
 ·have hu:Q6 W.IE k:=by
   cases hh:(gi W.IE k).IV with
   |true=>exact Q2.2 ⟨a,b,hh⟩
   |false=>
    have:=((wp.a.grp k a Qo).1 hh).l;omega
  have hl:=wp.a.sl hu;have h1:=h.sw.s k c hu c0 Qo;exact⟨IC h1.2.1 hK,IC h1.2.2.2.1 hK,IC (h.rb.s k c hu c0 Qo).2 hS⟩
def TW.tk(h:TW K S W)(hk:K<=K'){t:Int}(t0:0<=t)(t1:t<12){x:PS}(hx:x.state≠0->Q6 W.IE x.II/\0<=x.R1/\x.R1<(W.IF.length:Int))(v0:0<=x.v)(v1:x.v<=K')(hs:0<=x.sum/\x.sum<=S/\0<=x.IV/\x.IV<=S):TW K' S (J' W t x):=
 ⟨(h.sw.mono hk).J' t0 t1 hx v0 v1,h.rb.J' h.sw.a.t t0 t1 hs,h.i,h.nw⟩
def z5c(h:RB S W)(c:Int):RB S (Rc W c):=h.sum (D3 W c) (QH.refl _) E'
def zzb(h:RB S W)(hl:W.IJ.length=12){t:Int}(t0:0<=t)(t1:t<12)(g c:Int):RB S (Uj W t g c):=by
 have h1:RB S (J' W t (M2 W t g c)):=h.J' hl t0 t1 (x:=M2 W t g c) (h.t t t0 t1);unfold Uj;split
 ·exact z5c h1 c
 ·exact h1
def zzc(h:RB S W)(hl:W.IJ.length=12):∀k:Nat,k<=12->RB S (Jr W k)/\(Jr W k).IJ.length=12
 |0,_=>⟨h,hl⟩
 |k+1,hk=>by
  obtain⟨a,b⟩:=zzc h hl k Qo;simp only[Jr];split
  ·exact⟨zzb a b Qo Qo _ _,(zq7 _ _ _ _).2.2.1.trans b⟩
  ·exact⟨a,b⟩
def TW.rel(h:TW K S W)(hk:K+Qh<=K'):TW K' S (G0 W):=
 h.of (zli W 12) (G1 (h.sw.sf.mono (I2 _) (by simp only[Qh] at hk;omega)) hk).1.w (zzc h.rb h.sw.a.t 12 (I7 _)).1
def TW.put(h:TW K S W)(hk:K+Qh<=K'){t g c:Int}(t0:0<=t)(t1:t<12)(hg:Q6 W.IE g)(c0:0<=c)(c1:c<(W.IF.length:Int)):TW K' S (Uj W t g c):=
 h.of (zsl W t g c) (Bm (h.sw.sf.mono (I2 _) (by simp only[Qh] at hk;omega)) hk t0 t1 hg c0 c1).2.w (zzb h.rb h.sw.a.t t0 t1 g c)
def TW.leave(h:TW K S W){t:Int}(t0:0<=t)(t1:t<12)(n:(Q8 W t).state≠0):TW K S (Z6 W t):=by
 unfold Z6;split
 ·exact h.Rc (h.sw.t t t0 t1 n).2.1 (h.sw.t t t0 t1 n).2.2
 ·exact h
def zmn(W:Q7){g:Int}{x:ZD}(h1:x.sum=(gi W.IE g).sum)(h2:x.IH=(gi W.IE g).IH):JY W (R3 W g x):=
 ⟨rfl,rfl,λi d=>Z7 (f:=λG:ZD=>(gi G.IH d).sum) W.IE g (x:=x) (by rw[h2]) i,λi=>Z7 (f:=ZD.sum) W.IE g (x:=x) h1 i,λ_=>rfl,λ_=>rfl,λ_=>rfl,λ_=>.inl rfl⟩
def zj7(W:Q7)(g c x:Int):JY W (KL W g c x):=by
 unfold KL;split
 ·exact JY.refl _
 ·split
  ·exact(zmo W (g:=g) (c:=c) (s:=An W g c x) rfl).trans (D3 _ _)
  ·exact zmo W (g:=g) (c:=c) (s:=An W g c x) rfl
def zj6(W:Q7)(g x:Int):∀c:Nat,JY W (GP W g x c)
 |0=>JY.refl _
 |c+1=>(zj6 W g x c).trans (zj7 _ _ _ _)
def Ai(W:Q7)(c:Int):∀k:Nat,JY W (Tg W c k)
 |0=>JY.refl _
 |k+1=>by
  simp only[Tg];split
  ·exact(Ai W c k).trans (zj7 _ _ _ _)
  ·exact Ai W c k
def TW.RO(h:TW K S W){c:Int}(c0:0<=c)(c1:c<(W.IF.length:Int)){x:PP}(hu:JG (W.IF.set c.toNat x)≠0)(hc:x.cur=(gi W.IF c).cur)(hr:x.SX=(gi W.IF c).SX)(hb:x.busy=(gi W.IF c).busy)(hi:x.idle=(gi W.IF c).idle):TW K S (RO W c x):=by
 have vY:=h.sw.cu c c0 c1;have hrb:=h.rb.c c c0 c1;refine h.of ⟨rfl,E',λd=>Z7 (f:=PP.idle) W.IF c (x:=x) hi d⟩ (h.sw.RO c0 c1 hu (by rw[hc];exact vY.1) (by rw[hc];exact vY.2)) (h.rb.RO c0 c1 ?_);rw[hb,hi,hr];exact hrb
end
def Up(W V:Q7):Prop:=∀K S:Int,0<=K->0<=S->S<=10000000000000000->TW K S W->D9 W->TW (K+80000000000000) (S+200000) V/\D9 V
def TP{K K1 S S1:Int}{X:Q7}(h:TW K1 S1 X)(k0:0<=K1)(hk:K1<=K)(hs:S1<=S):TW K S (Qb X)/\D9 (Qb X):=⟨(h.settle k0).mono hk hs,G7 h.sw k0⟩
section
variable {W V:Q7}
def Up.refl(W:Q7):Up W W:=λ_ _ _ _ _ h g=>⟨h.mono Qo Qo,g⟩
def z5j{c:Int}(c0:0<=c)(c1:c<(W.IF.length:Int)):Up W (Rc W c):=λ_ _ _ _ _ h g=>⟨(h.Rc c0 c1).mono Qo Qo,z1k g c⟩
def zi6{K S:Int}(hK:0<=K)(hS:0<=S)(h:TW K S W){g n x:Int}(hW:Qr W)(hb:T2 W g n x=0):TW K S (FJ W g n x)/\D9 (FJ W g n x):=by
 have hf:=zlc hW hb;have hs:=h.sw.s g (KW W g x) hf.u hf.c0 hf.c1;have s1:=h.tk (I2 K) hf.f0 hf.f1 (x:=KX W g n x) (λ_=>⟨hf.u,hf.c0,hf.c1⟩) hs.1 hs.2.1 (by simp only[KX];omega);exact TP (s1.Rc hf.c0 hf.c1) hK (I2 _) (I2 _)
def z23{g n x:Int}(hW:Qr W)(hb:T2 W g n x=0):Up W (FJ W g n x):=λK S hK hS _ h _=>by
 have:=zi6 hK hS h hW hb;exact⟨this.1.mono Qo Qo,this.2⟩
def z0a{t:Int}(hW:Qr W)(hb:VD W t=0):Up W (zck W t):=λK S hK hS _ h g0=>by
 obtain⟨h1,_⟩:=zcl hW hb;obtain⟨t0,t1,n⟩:=Y7 h1;have hl:=h.sw.a.t;have hv:=h.sw.tv t t0 Qo;exact TP ((h.tk (I2 K) t0 Qo (x:={ Q8 W t with state:=2 }) (λ_=>h.sw.t t t0 Qo n) hv.1 hv.2 (h.rb.t t t0 Qo))) hK Qo Qo
def z26{t:Int}(hW:Qr W)(hb:MX W t=0):Up W (BB W t):=λK S hK hS _ h g0=>by
 obtain⟨h1,_,_,_,c0,c1⟩:=zmx hW hb;obtain⟨t0,t1,n⟩:=Y7 h1;have hl:=h.sw.a.t;have hu:=(h.sw.t t t0 Qo n).1;have hv:=zmd (K:=K+Qh) (h.sw.sf.mono (I2 _) (by simp only[Qh];omega)) (I2 _) (t:=t) hu c0 c1;have s1:=h.tk (K':=K+Qh) (by simp only[Qh];omega) t0 Qo (x:=T7 W t (PO W t)) (λ_=>⟨hu,c0,c1⟩) hv.1 hv.2 (h.rb.t t t0 Qo);exact TP ((s1.Rc c0 c1)) (by simp only[Qh];omega) (by simp only[Qh];omega) Qo
def z22{t:Int}(hW:Qr W)(hb:Oh W t=0):Up W (FH W t):=λK S hK hS _ h g0=>by
 obtain⟨h1,_⟩:=za5 hW hb;obtain⟨t0,t1,n⟩:=Y7 h1;have hl:=h.sw.a.t;have s1:=(h.leave t0 Qo n).tk (I2 K) t0 Qo (x:=BF) (λh=>Ir rfl h) (by show (0:Int)<=0;decide) (by show (0:Int)<=K;exact hK) (by simp only[BF];omega);exact TP s1 hK Qo Qo
def z24{t n:Int}(hW:Qr W)(hb:Pg W t n=0):Up W (Lg W t n):=λK S hK hS _ h g0=>by
 have hN:=zl5 hW hb;obtain⟨t0,t1,tn⟩:=Y7 hN.th;have hl:=h.sw.a.t;have hg:=h.sw.t t t0 Qo tn;have hv:=h.sw.tv t t0 Qo;have hf:=h.sw.s _ _ hg.1 hg.2.1 hg.2.2;have lc:=ZF ((Q8 W t).v-(Qa W (Q8 W t).II (Q8 W t).R1).IM) (Qf n);have lm:=ZN (Qf n)
 have f1:0<=(XI W t n).v/\(XI W t n).v<=K+Qh:=by
  unfold XI
  dsimp only
  split
  ·unfold Ke;simp only[Qh];omega
  ·simp only[Qh];omega
 have s1:=h.tk (K':=K+Qh) (by simp only[Qh];omega) t0 Qo (x:=XI W t n) (λ_=>hg) f1.1 f1.2 (h.rb.t t t0 Qo);have k0:0<=K+Qh:=by simp only[Qh];omega
 unfold Lg;split
 ·exact TP ((s1.leave t0 Qo (by rw[HB t0 t1];exact tn))) k0 (by simp only[Qh];omega) Qo
 ·exact TP s1 k0 (by simp only[Qh];omega) Qo
def zbh{K S:Int}(hK:0<=K)(h:TW K S V):TW (K+80000000000000) (S+200000) (Qb (G0 V))/\D9 (Qb (G0 V)):=
 TP ((h.rel (I2 _))) (by simp only[Qh];omega) (by simp only[Qh];omega) Qo
def z5o{t x:Int}(hW:Qr W)(hb:Dx W t x=0):Up W (zvj W t x):=λK S hK hS _ h g0=>by
 obtain⟨h1,_⟩:=zq2 hW hb;obtain⟨t0,t1,n⟩:=Y7 h1;have hl:=h.sw.a.t;have hv:=h.sw.tv t t0 Qo;exact zbh hK (h.tk (I2 K) t0 Qo (x:=zoj W t x) (λ_=>h.sw.t t t0 Qo n) hv.1 hv.2 (h.rb.t t t0 Qo))
def z5m{t g:Int}(iv:Xo W)(hb:NM W t g=0):Up W (zaa W t g):=λK S hK hS kW h g0=>by
 unfold NM at hb
 split at hb
 ·cases hb
 ·rename_i h1
  split at hb
  ·cases hb
  ·have hth:Yn W t:=by cases h:Yn W t with|true=>rfl|false=>exact Ir (.inl h) h1
   have hu:Q6 W.IE g:=by cases h:Q6 W.IE g with|true=>rfl|false=>exact Ir (.inr h) h1
   obtain⟨t0,t1,n⟩:=Y7 hth;have hl:=h.sw.a.t;unfold zaa;split
   ·exact Up.refl W K S hK hS kW h g0
   ·obtain⟨m0,m1,_⟩:=zl0 iv.wp (g:=g) t0 Qo n;have hlen:=(zuo W t).l;exact TP (((h.leave t0 Qo n).put (I2 _) t0 Qo (by rw[zyl];exact hu) m0 (by rw[hlen];exact m1))) (by simp only[Qh];omega) (by simp only[Qh];omega) Qo
def zsp{K S:Int}(hK:0<=K)(hS:0<=S)(h:TW K S W)(g0:D9 W)(iv:Xo W){a p:Int}{name:ByteArray}(hm:AK W a p name):TW K S (O5 W a p name)/\D9 (O5 W a p name):=by
 have ha:=iv.wp.a;refine⟨?_,z4m iv.wp hm g0⟩;refine⟨⟨(zqg iv hm).wp.a,λt x y n=>?_,h.sw.tv,λk c u x y=>?_,h.sw.cu⟩,⟨h.rb.n,h.rb.t,λk c u x y=>?_,λk u=>?_,h.rb.c⟩,h.i,h.nw⟩
 ·have:=h.sw.t t x y n;exact⟨(OX ha hm).2 (.inl this.1),this.2⟩
 ·rcases (OX ha hm).1 u with e|e
  ·rw[MI ha hm e];exact h.sw.s k c e x y
  ·rw[e,zbd ha hm x y];simp only[B6];omega
 ·rcases (OX ha hm).1 u with e|e
  ·rw[MI ha hm e];exact h.rb.s k c e x y
  ·rw[e,zbd ha hm x y];simp only[B6];omega
 ·rcases (OX ha hm).1 u with e|e
  ·rw[LO ha hm e];exact h.rb.g k e
  ·rw[e,KF ha hm];simp only[Pf];omega
def z62(iv:Xo W){a p:Int}{name:ByteArray}(hm:AK W a p name):Up W (O5 W a p name):=λK S hK hS _ h g0=>by
 have:=zsp hK hS h g0 iv hm;exact⟨this.1.mono Qo Qo,this.2⟩
def z5i(iv:Xo W){g:Int}(hd:zfz W g):Up W (XT W g):=λK S hK hS _ h g0=>by
 have ha:=iv.wp.a;refine⟨?_,z1j iv.wp hd g0⟩;refine TW.mono (K:=K) (S:=S) ⟨⟨(zsm iv hd).wp.a,λt x y n=>?_,h.sw.tv,λk c u x y=>?_,h.sw.cu⟩,⟨h.rb.n,h.rb.t,λk c u x y=>?_,λk u=>?_,h.rb.c⟩,h.i,h.nw⟩ Qo Qo
 ·have:=h.sw.t t x y n;exact⟨(PU ha hd).2 ⟨this.1,hd.nt t x y n⟩,this.2⟩
 ·obtain⟨e,e2⟩:=(PU ha hd).1 u;rw[Mf ha hd e e2];exact h.sw.s k c e x y
 ·obtain⟨e,e2⟩:=(PU ha hd).1 u;rw[Mf ha hd e e2];exact h.rb.s k c e x y
 ·obtain⟨e,e2⟩:=(PU ha hd).1 u;rw[LE ha hd e e2];exact h.rb.g k e
def z5q{g x:Int}(hW:Qr W)(hb:zm0 W g x=0):Up W (zv5 W g x):=λK S hK hS _ h g0=>by
 obtain⟨h1,h2,h3,_,_,_,h6,h7⟩:=zru hW hb;have hx:=Qu.1 h1;obtain⟨u0,u1,hg⟩:=h.sw.a.u h3;have s1:=h.sw.R3 (x:=MY W g x) h3 rfl rfl rfl rfl ⟨hx.1,hx.2,hg.m,hg.m0,hg.s,hg.len,λh=>Ir h h2,hg.none,hg.IL⟩;obtain⟨a,b,_⟩:=zbj (K:=K+Qh) (s1.sf.mono (I2 _) (by simp only[Qh];omega)) (I2 _) h6 (g:=g) (x:=x) (by rw[h7.aO];exact h3) h2 hx.1 hx.2 W.IF.length (I7 _);have k:=h.sum ((zmn W (g:=g) (x:=MY W g x) rfl rfl).trans (zj6 (R3 W g (MY W g x)) g x W.IF.length)) (h7.trans b.g) b.c a.w;exact TP k (by simp only[Qh];omega) (by simp only[Qh];omega) Qo
def z5k{g x:Int}(hW:Qr W)(hb:zlg W g x=0):Up W (zun W g x):=λK S hK hS _ h g0=>by
 obtain⟨h1,h2,h3,h4⟩:=za7 hb;obtain⟨u0,u1,hg⟩:=h.sw.a.u h3;simp only[A',It,ne_eq] at h1;have s1:=h.sw.R3 (x:=zdi W g x) h3 rfl rfl rfl rfl ⟨hg.w1,hg.w2,h1.1,h1.2,hg.s,hg.len,λh=>Ir h h2,hg.none,hg.IL⟩;exact zbh hK (h.sum (zmn W (g:=g) (x:=zdi W g x) rfl rfl) (XZ u0 (Q2.1 h3).2.1 rfl rfl rfl) rfl s1)
def z5l{g q p:Int}(hW:Qr W)(hb:zlu W g q p=0):Up W (zym W g q p):=λK S hK hS _ h g0=>by
 obtain⟨h1,_,_,_,_,h2⟩:=zqq hW hb;obtain⟨u0,u1,_⟩:=Q2.1 h1;have hl:=zec (W:=W) (g:=g) (q:=q) (p:=p);have hT:QH W.IE (R3 W g (PC W g q p)).IE:=XZ u0 u1 hl.1 hl.2.1 hl.2.2.1
 have es:∀k c:Int,0<=k->Qa (R3 W g (PC W g q p)) k c=Qa W k c:=λk c k0=>by
  unfold Qa;rw[Ym u0 u1 k0];split
  ·rename_i e;subst e;rw[hl.2.2.2.1]
  ·rfl
 have s1:SW K (R3 W g (PC W g q p)):=⟨h2.a,λt a b n=>by rw[hT.aO];exact h.sw.t t a b n,h.sw.tv,λk c u a b=>by
  rw[hT.aO] at u;rw[es k c (Q2.1 u).1];exact h.sw.s k c u a b,h.sw.cu⟩
 exact TP ((h.sum (zmn W (g:=g) (x:=PC W g q p) hl.2.2.2.2.2.2 hl.2.2.2.1) hT rfl s1)) hK Qo Qo
def zsb{S:Int}(h:RB S W)(hl:W.IJ.length=12):∀k:Nat,k<=12->RB S (O3 W k)
 |0,_=>h
 |k+1,hk=>by
  have ih:=zsb h hl k Qo;have hv:=ih.t (k:Int) Qo Qo;exact ih.J' ((za4 W k).2.2.2.trans hl) Qo Qo (x:=zct (Q8 (O3 W k) (k:Int))) ⟨hv.1,hv.2.1,by show (0:Int)<=0;decide,by show (0:Int)<=S;omega⟩
def z25{n:Int}(hW:Qr W)(hb:Lp W n=0):Up W (zfv W n):=λK S hK hS kW h g0=>by
 obtain⟨h1,_⟩:=zmq hW hb;have hi:=Qu.1 h1;have hl:=h.sw.a.gl;have hnw:=h.nw;have s1:=zoh (n:=n.toNat) h.sw Qo;obtain⟨l1,l2,l3,l4⟩:=T4 W n.toNat 8;have hT:QH W.IE (Zw W n.toNat).IE:=LY W n.toNat 8 Qo
 have e:∀i:Int,0<=i->i<8->gi (Zw W n.toNat).IE i=XR W.now n.toNat (gi W.IE i):=λi a b=>by
  have:=MJ W n.toNat 8 Qo i a
  rwa[C' (show i<((8:Nat):Int) by omega)] at this
 have et:∀t:Int,Q8 (Zw W n.toNat) t=Q8 W t:=λt=>by unfold Q8;rw[show (Zw W n.toNat).IJ=W.IJ from l4]
 have ec:(Zw W n.toNat).IF=W.IF:=l3;have en:(Zw W n.toNat).now=W.now+(n.toNat:Int):=l2
 have r1:RB S (Zw W n.toNat):=⟨by rw[en];omega,λt a b=>by rw[et];exact h.rb.t t a b,λk c u a b=>by
  rw[hT.aO] at u;rw[ec] at b;obtain⟨k0,k1,_⟩:=Q2.1 u;unfold Qa;rw[e k k0 Qo,(Kf W.now n.toNat (gi W.IE k)).2.2.2.1];exact h.rb.s k c u a b,λk u=>by
  rw[hT.aO] at u;obtain⟨k0,k1,_⟩:=Q2.1 u;rw[e k k0 Qo,(Kf W.now n.toNat (gi W.IE k)).2.2.2.2.2.2.1];exact h.rb.g k u,λc a b=>by rw[ec] at b ⊢;exact h.rb.c c a b⟩
 have hd:=za4 (Zw W n.toNat) 12
 have l2':TW K (S+1000) (O3 (Zw W n.toNat) 12):=⟨zkz s1 12 (I7 _),(zsb r1 s1.a.t 12 (I7 _)).mono Qo,λc a b=>by
  rw[hd.2.2.1,ec] at b ⊢;exact IC (h.i c a b) Qo,by rw[hd.2.1,en];omega⟩
 exact TP l2' hK Qo Qo
def zr7{K:Int}(hs:SW K W)(wp:XQ W){c:Int}(c0:0<=c)(c1:c<(W.IF.length:Int)):∀k:Nat,k<=8->SF K (K+Qh) (Tg W c k)/\Fr W (Tg W c k)/\D8 (Tg W c k)
 |0,_=>⟨hs.sf.mono (I2 _) (by simp only[Qh];omega),Fr.refl _,zky wp⟩
 |k+1,hk=>by
  obtain⟨ih,fr,cu⟩:=zr7 hs wp c0 c1 k Qo;simp only[Tg];split
  ·rename_i h;have hl:=ih.w.a.gl;have hu:Q6 (Tg W c k).IE (k:Int):=Q2.2 ⟨Qo,Qo,h.2⟩;have oM:c<((Tg W c k).IF.length:Int):=by rw[fr.c];exact c1
   have hs:=zfm ih.w.tu hu c0 oM;obtain⟨a,b,d⟩:=zmz ih (I2 _) cu hu Qo c0 oM hs.1 hs.2;exact⟨a,fr.trans b,d⟩
  ·exact⟨ih,fr,cu⟩
def z5h{c:Int}(hW:Qr W)(hb:Ec W c=0):Up W (zci W c):=λK S hK hS _ h g0=>by
 obtain⟨c0,c1,_,_,_,fV⟩:=za2 hW hb;have wp:=Qm.1 hW;obtain⟨a,f,_⟩:=zr7 h.sw wp c0 c1 8 (I7 _);have k0:0<=K+Qh:=by simp only[Qh];omega
 have s1:TW (K+Qh) S (Ve W c):=(h.sum (Ai W c 8) f.g f.c a.w).settle k0;unfold zci;split
 ·exact⟨s1.mono (by simp only[Qh];omega) Qo,G7 a.w k0⟩
 ·rename_i hp;obtain⟨p0,p1,ps,pu,_⟩:=zkr hW hb hp;exact TP ((s1.put (I2 _) p0 p1 pu c0 (by rw[fV.c];exact c1))) (by simp only[Qh];omega) (by simp only[Qh];omega) Qo
def z64{c:Int}(hW:Qr W)(hb:V6 W c false 0=0):Up W (z5x W c):=λK S hK hS _ h g0=>by
 obtain⟨c0,c1,_,hs⟩:=zy4 hW hb;exact zbh hK (h.RO c0 c1 (x:=Lr (gi W.IF c) true) hs.w.a.ups rfl rfl rfl rfl)
def z5n{c:Int}(hW:Qr W)(hb:V6 W c true (GC W)=0):Up W (zu9 W c):=λK S hK hS _ h g0=>by
 obtain⟨c0,c1,_,hs⟩:=zqx hW hb;have hl:(RO W c (Lr (gi W.IF c) false)).IF.length=W.IF.length:=E';exact zbh hK ((h.RO c0 c1 (x:=Lr (gi W.IF c) false) hs.w.a.ups rfl rfl rfl rfl).Rc c0 (by rw[hl];exact c1))
def z2a{K S:Int}{f:Nat}{c left:Int}{W0:Q7}(h:TW K S W)(hK:0<=K)(hS:S+500<=50000000000000000)(hI:Md (f+1) c W0 W left)(hl:0<left)(hp:¬Qe W c<0):TW (K+5*Qh) (S+500) (Uk W c left).1:=by
 have hR:=TO hI hl hp;have c0:=hI.c0;have c1:=hI.c1;have t0:=hR.line.t0;have t1:=hR.line.t1;have uG:=hI.l1;have hlg:0<=Qh:=Qd;obtain⟨s1,r1,u1,B37,_,l1⟩:=Ki h.sw h.rb c0 c1 hI.up t0 t1;obtain⟨tk,_,_⟩:=zrp c0 (QV W (Qe W c)) s1 (by rw[l1];exact c1) hR.pin hR.dr;have eW:(Zl W c).1=(DW c (QV W (Qe W c)) (ZX W c (Qe W c))).1:=rfl;rw[<-eW] at tk;have eC:(Zl W c).1.IF=(ZX W c (Qe W c)).IF:=tk.o.c;have rT:RB S (Zl W c).1:=r1.sum tk.su tk.o.g (by rw[eC]);have lT:(Zl W c).1.IF.length=W.IF.length:=by rw[eC,l1]
 have eT:(Zl W c).1.IJ=W.IJ:=tk.o.t
 have bB:∀d:Int,(gi (Zl W c).1.IF d).idle=(gi W.IF d).idle:=λd=>by
  rw[eC];exact Z7 (f:=PP.idle) W.IF c (x:=Yf W c (Qe W c)) (by unfold Yf;split <;> rfl) d
 have iT:zpo W (Zl W c).1:=⟨tk.o.n,lT,bB⟩;have hT:TW K S (Zl W c).1:=h.of iT tk.sw rT;unfold Uk
 by_cases ht:(Zl W c).2=true
 ·rw[C' ht];have hm:=hR.m ht;have upT:(gi (Zl W c).1.IF c).up:=by rw[eC];exact u1
  have AN3:(gi (Zl W c).1.IF c).SX<50:=by rw[eC];exact B37
  have uT:Q6 (Zl W c).1.IE (Q8 (Zl W c).1 (Qe W c)).II:=by rw[tk.o.g.aO,YE eT];exact hR.us
  have hx:=Ee (t:=Qe W c) (n:=ZV W c left) tk.sw rT Qo c0 (by rw[lT];exact c1) upT AN3 t0 t1 uT Qo Qo;have kH:(DD c (ZV W c left) (QV (Zl W c).1 (Qe W c)) (J' (Zl W c).1 (Qe W c) (Tb (Zl W c).1 (Qe W c) (ZV W c left)))).IF=(Zl W c).1.IF:=hx.2.2.2.2.2.2.2.2.cp
  have Cx8:∀d:Int,(gi (Ui (Zl W c).1 c (Qe W c) (ZV W c left)).IF d).idle=(gi (Zl W c).1.IF d).idle:=λd=>by
   show (gi ((DD c (ZV W c left) (QV (Zl W c).1 (Qe W c)) (J' (Zl W c).1 (Qe W c) (Tb (Zl W c).1 (Qe W c) (ZV W c left)))).IF.set c.toNat (Fp (Zl W c).1 c (ZV W c left))) d).idle=_;rw[kH];exact Z7 (f:=PP.idle) (Zl W c).1.IF c (x:=Fp (Zl W c).1 c (ZV W c left)) rfl d
  have k:TW (K+5*Qh) (S+500) (Ui (Zl W c).1 c (Qe W c) (ZV W c left)):=(hT.mono (I2 _) Qo).of ⟨hx.2.2.2.1,hx.2.2.2.2.1,Cx8⟩ hx.1 hx.2.1;exact k.settle Qo
 ·rw[B' ht];exact((hT.Rc c0 (by rw[lT];exact c1)).settle hK).mono Qo Qo
def zeg{c:Int}{W0:Q7}:∀(f:Nat) {K S left:Int} {W:Q7},TW K S W->0<=K->0<=S->S+(f:Int)*500+1000<=50000000000000000->Md f c W0 W left->TW (K+(f:Int)*(5*Qh)) (S+(f:Int)*500) (PD c f W left)/\D9 (PD c f W left)
 |0,K,S,left,W,_,_,_,_,hI=>by have:=hI.f1;have:=hI.l0;omega
 |f+1,K,S,left,W,h,hK,hS,kW,hI=>by
  have hlg:Qh=34686091440:=Qd;have hB:((f+1:Nat):Int)*(5*Qh)=(f:Int)*(5*Qh)+173430457200:=by rw[hlg];omega
  have hB0:0<=(f:Int)*(5*Qh):=by rw[hlg];omega
  have c0:=hI.c0;have c1:=hI.c1;have l0:=hI.l0;have l1:=hI.l1;simp only[PD];split
  ·exact TP h hK Qo Qo
  ·rename_i hl;split
   ·have vY:=h.sw.cu c c0 c1;have hr:=h.rb.c c c0 c1;have hri:=h.i c c0 c1;have hlen:(RO W c (OL W c left)).IF.length=W.IF.length:=E';have hg:∀d:Int,0<=d->gi (RO W c (OL W c left)).IF d=if c=d then OL W c left else gi W.IF d:=λd d0=>Qx _ _ c0 c1 d0
    have s1:TW K (S+100) (RO W c (OL W c left)):=by
     refine⟨h.sw.RO c0 c1 (EQ (c:=c) (by rw[E'];exact h.sw.a.c2) c0 (by rw[E'];exact c1) (by rw[show gi (W.IF.set c.toNat (OL W c left)) c=OL W c left from (Qx _ _ c0 c1 c0).trans (C' rfl)];exact hI.up)) vY.1 vY.2,(h.rb.mono Qo).RO c0 c1 ⟨hr.1,by show (gi W.IF c).busy<=_;omega,by show 0<=(gi W.IF c).idle+left;omega,by show (gi W.IF c).idle+left<=_;omega,hr.2.2.2.2.1,hr.2.2.2.2.2⟩,λd a b=>?_,by have:=h.nw;show W.now<=S+100;omega⟩;rw[hlen] at b;rw[hg d a];split
     ·show (gi W.IF c).idle+left<=_;omega
     ·have:=h.i d a b;omega
    exact TP (s1.Rc c0 (by rw[hlen];exact c1)) hK Qo Qo
   ·rename_i hp;have h1:=z2a h hK Qo hI Qo hp;have h2:=zeg f h1 Qo Qo Qo (TO hI Qo hp).nx;exact⟨h2.1.mono Qo Qo,h2.2⟩
def z5p{c n:Int}(hW:Qr W)(hb:X9 W c n=0):Up W (J9 W c n):=λK S hK hS kW h g0=>by
 have hlg:Qh=34686091440:=Qd;have hr:=zeg 400 h hK hS Qo (G4 hW hb).2.2.2.2;exact⟨hr.1.mono Qo Qo,hr.2⟩
end
def zpq(n:Nat)(W:Q7):Prop:=TW ((n:Int)*8000000000000) ((n:Int)*20000) W/\D9 W
section
variable {n m:Nat}{W V:Q7}
def zpq.mono(h:zpq n W)(hm:n<=m):zpq m W:=⟨TW.mono h.1 Qo Qo,h.2⟩
def zpq.up(h:zpq n W)(hn:n<=10000)(u:Up W V):zpq (n+10) V:=by
 have:=u _ _ Qo Qo Qo h.1 h.2;exact⟨this.1.mono Qo Qo,this.2⟩
def zpq.fork(h:zpq n W){g q x:Int}(hW:Qr W)(hb:T2 W g q x=0):zpq n (FJ W g q x):=zi6 Qo Qo h.1 hW hb
def zpq.mk(h:zpq n W)(iv:Xo W){a p:Int}{name:ByteArray}(hm:AK W a p name):zpq n (O5 W a p name):=zsp Qo Qo h.1 h.2 iv hm
def z19{k:Nat}(n0:1<=k)(n1:k<=4):zpq n (Jp k):=by
 have hl:(Jp k).IF.length=k:=by simp[Jp]
 have wp:=(zll n0 n1).wp;refine zpq.mono (n:=0) ⟨?_,z1l n0 n1⟩ (Ic n);refine⟨⟨wp.a,λt a b h=>?_,λt a b=>?_,λk c u a b=>?_,λc a b=>?_⟩,⟨by show (0:Int)<=_;decide,λt a b=>?_,λk c u a b=>?_,λk u=>?_,λc a b=>?_⟩,λc a b=>?_,I2 _⟩
 ·rw[zeq t a b] at h;exact Ir rfl h
 ·rw[zeq t a b];exact⟨I2 _,I2 _⟩
 ·rw[(zl4 k).1 u,zqw c a Qo];simp only[B6];decide
 ·rw[zep c a Qo];simp only[];decide
 ·rw[zeq t a b];simp only[T8];decide
 ·rw[(zl4 k).1 u,zqw c a Qo];simp only[B6];decide
 ·rw[(zl4 k).1 u,KG 0 Qd Qd,C' rfl];simp only[Pf];decide
 ·rw[zep c a Qo];simp only[];decide
 ·rw[zep c a Qo];exact I2 _
end
def z63{W V:Q7}(iv:Xo W)(h:XS W V):Up W V:=by
 have hW:Qr W:=Qm.2 iv.wp
 cases h with
 |same=>exact Up.refl W
 |run c n hb=>exact z5p hW hb
 |yld c hb=>exact z5j (UF (zry hb).1).1 (UF (zry hb).1).2
 |fork g n x hb=>exact z23 hW hb
 |block t hb=>exact z0a hW hb
 |Cf6 t hb=>exact z26 hW hb
 |exit t hb=>exact z22 hW hb
 |nice t n hb=>exact z24 hW hb
 |pin t x hb=>exact z5o hW hb
 |mov t g hb=>exact z5m iv hb
 |mak a p name hm=>exact z62 iv hm
 |drp g hd=>exact z5i iv hd
 |wgh g x hb=>exact z5q hW hb
 |gpn g x hb=>exact z5k hW hb
 |lim g q p hb=>exact z5l hW hb
 |time n hb=>exact z25 hW hb
 |bal c hb=>exact z5h hW hb
 |off c hb=>exact z5n hW hb
 |on c hb=>exact z64 hW hb
def z7j:Mb zpq:=⟨λhm h=>h.mono hm,λa b=>z19 a b,λiv h hb=>h.fork (Qm.2 iv.wp) hb,λiv h hm=>h.mk iv hm,λhn iv h hd=>h.up hn (z63 iv hd)⟩
section
variable {W:Q7}{c d n:Int}
def zje{K S:Int}(iv:Xo W)(h:TW K S W)(hK:K<=10000000000000000)(hS:S<=40000000)(S0:0<=S):QO W:=h.room iv.wp (by simp only[Ql];omega) (by simp only[Ql];omega) S0
def z2b{K S:Int}(hW:Qr W)(h:TW K S W)(hK:0<=K)(hS:0<=S)(kW:S<=10000000000000000)(hb:X9 W c n=0):TW (K+80000000000000) (S+200000) (J9 W c n):=by
 have hlg:Qh=34686091440:=Qd;have hr:=zeg 400 h hK hS Qo (G4 hW hb).2.2.2.2;exact hr.1.mono Qo Qo
def z2r(hr:QO W)(c0:0<=c)(c1:c<(W.IF.length:Int))(n0:1<=n)(n1:n<=100):X9 W c n=if (gi W.IF c).up=false then 6 else 0:=by
 have h1:YY n 1 100:=Qu.2 ⟨n0,n1⟩;have h2:Xd W c:=Qu.2 Qo;unfold X9;rw[h1,h2,hr];simp
def zmg(hW:Qr W)(hr:QO W)(c0:0<=c)(c1:c<(W.IF.length:Int))(n0:1<=n)(n1:n<=100) :
  (gi W.IF c).up=false/\Yz W (X9 W c n) (J9 W c n)=(W,6)\/(gi W.IF c).up/\X9 W c n=0/\Yz W (X9 W c n) (J9 W c n)=(J9 W c n,0):=by
 have hb:=z2r hr c0 c1 n0 n1
 cases h:(gi W.IF c).up with
 |false=>
  rw[h,C' rfl] at hb;exact .inl ⟨rfl,by rw[za0 hW (by rw[hb];decide),hb]⟩
 |true=>
  rw[h,B' Qd] at hb;exact .inr ⟨rfl,hb,zkn hW hb⟩
def zny(iv:Xo W):Xo (Yz W (X9 W c n) (J9 W c n)).1:=by
 have hW:Qr W:=Qm.2 iv.wp
 by_cases h:X9 W c n=0
 ·rw[zkn hW h];exact za9 iv h
 ·rw[za0 hW h];exact iv
end
section
variable {W:Q7}{c:Int}
def z0c(W:Q7)(c:Int):Prop:=∀k:Int,Q6 W.IE k->k≠0->aK W c k
def AG(ha:WA W)(h:z0c W c)(c0:0<=c){d:Int}(d1:1<=d):∀k:Nat,k<=8->Z9 W c d k=W
 |0,_=>rfl
 |k+1,hk=>by
  have ih:=AG ha h c0 d1 k Qo;simp only[Z9];rw[ih];split
  ·rename_i hq;have hl:=ha.gl;have hu:Q6 W.IE (k:Int):=Q2.2 ⟨Qo,Qo,hq.1⟩
   have hz:(k:Int)≠0:=λe=>by
    have:=hq.2;rw[e,ZR] at this;omega
   have ho:=h _ hu hz;unfold aK at ho
   have:ZH W (k:Int) c=Qa W (k:Int) c:=by
    unfold ZH;rw[<-ho,B' (λq=>by rw[q.1] at q;exact Ir q.2 Qd)]
   rw[this,ztj W Qo c0]
  ·rfl
def Bs(ha:WA W)(h:z0c W c)(c0:0<=c):QF W c=W:=by
 have key:∀j:Nat,j<=3->Yh W c j=W:=λj=>by
  induction j with
  |zero=>intro _;rfl
  |succ j ih=>
   intro hj;simp only[Yh];rw[ih Qo];exact AG ha h c0 Qo 8 (I7 _)
 exact key 3 (I7 _)
def G8(ha:WA W)(h:∀d:Int,0<=d->d<(W.IF.length:Int)->z0c W d):∀k:Nat,k<=W.IF.length->Z2 W k=W
 |0,_=>rfl
 |k+1,hk=>by
  simp only[Z2];rw[G8 ha h k Qo];exact Bs ha (h _ Qo Qo) Qo
def AE(g:D9 W){k:Int}(hu:Q6 W.IE k)(hq:(gi W.IE k).IL.I'≠0):∀c:Nat,c<=W.IF.length->Ze W k c=W
 |0,_=>rfl
 |c+1,hc=>by
  simp only[Ze];rw[AE g hu hq c Qo,B'];rintro⟨h1,h2⟩;rw[g k c hu hq Qo Qo h1] at h2;cases h2
def Hv(hl:W.IE.length=8)(g:D9 W):∀k:Nat,k<=8->Zv W k=W
 |0,_=>rfl
 |k+1,hk=>by
  simp only[Zv];rw[Hv hl g k Qo];split
  ·rename_i h;exact AE g (Q2.2 ⟨Qo,Qo,h.1⟩) h.2 _ (I7 _)
  ·rfl
def Bt(ha:WA W)(h:∀d:Int,0<=d->d<(W.IF.length:Int)->Sd W d):∀k:Nat,k<=W.IF.length->YB W k=W
 |0,_=>rfl
 |k+1,hk=>by
  simp only[YB];rw[Bt ha h k Qo];exact EM ha (h _ Qo Qo) Qo
def zfj(iv:Xo W)(g:D9 W):Qb W=W:=by
 have ha:=iv.wp.a;have hs:∀d:Int,0<=d->d<(W.IF.length:Int)->Sd W d:=λd a b=>zzp iv a b
 unfold Qb;rw[G8 ha (λd a b=>(hs d a b).on) _ (I7 _),show PK W=W from Hv ha.gl g 8 (I7 _)];exact Bt ha hs _ (I7 _)
structure Sx (W:Q7) (c:Int):Prop where
 oth:∀d:Int,0<=d->d<(W.IF.length:Int)->d≠c->Sd W d
 on:z0c W c
 cu:0<=(gi W.IF c).cur->(Q8 W (gi W.IF c).cur).R1=c/\Zf W (gi W.IF c).cur=true
 gv:D9 W
def z16{V:Q7}(f:FC c W V)(ha:WA W)(li:∀t:Int,(Q8 W t).state=1->Q6 W.IE (Q8 W t).II){t:Int}(a:(Q8 W t).R1=c)(c0:0<=c):Zf V t=Zf W t:=by
 unfold Zf;rw[YE f.o.t]
 cases hs:((Q8 W t).state==1) with
 |false=>rfl
 |true=>
  rw[Bool.true_and,Bool.true_and,a];unfold JR;rw[Jc f.o.g];have hus:=li _ (Iz hs);exact zcf λx hx=>f.on x c (Q2.1 (Yv ha.tree _ hus x hx).1).1 c0
def zvx(ha:WA W){V:Q7}(hV:Xs W c=V)(aV:WA V)(oV:HG c W V)(li:∀t:Int,(Q8 W t).state=1->Q6 W.IE (Q8 W t).II)(h:∀d:Int,0<=d->d<(W.IF.length:Int)->d≠c->Sd W d)(c0:0<=c)(c1:c<(W.IF.length:Int)):YB W W.IF.length=V:=by
 have e:((c.toNat:Nat):Int)=c:=Qo;have:=zj1 (c:=c.toNat) ha aV (by rw[e];exact oV) (by rw[e];exact hV) li (λd d1 dn=>h (d:Int) Qo Qo Qo) W.IF.length (I7 _)
 rwa[C' Qo] at this
def zvr{K:Int}(sw:SW K W)(hK:0<=K)(c0:0<=c)(c1:c<(W.IF.length:Int))(h:Sx W c):Qb W=Z4 W c:=by
 have ha:=sw.a
 have hon:∀d:Int,0<=d->d<(W.IF.length:Int)->z0c W d:=λd a b=>by
  by_cases e:d=c
  ·subst e;exact h.on
  ·exact(h.oth d a b e).on
 have C02:=hon;have li:=zqp ha λt t0 t1 n=>(sw.t t t0 t1 n).1
 obtain⟨f,_,_⟩:=KU ha c0 c1 8 (I7 _);have f:FC c W (Z4 W c):=f
 have kE:Xs W c=Z4 W c:=by
  unfold Xs;rw[Bs ha h.on c0,B'];intro hg;unfold P9 at hg;rw[f.cs,YE f.o.t] at hg;simp only[A',Ij,Iu,It,ID] at hg;obtain⟨h0,h1⟩:=hg;obtain⟨a,b⟩:=h.cu h0;have e:=z16 f ha li a c0;rcases h1 with h1|h1
  ·exact h1 a
  ·rw[e,b] at h1;cases h1
 clear f hon;have aS:=(zo7 sw hK c0 c1).1.a;have oS:=(Br sw c0 c1).1;have key:=zvx ha rfl aS oS li h.oth c0 c1;unfold Qb;rw[G8 ha C02 _ (I7 _),show PK W=W from Hv ha.gl h.gv 8 (I7 _),key];exact kE
end
structure Tq (c:Int) (P:Int->Prop) (A B:Q7):Prop where
 tl:B.IJ.length=A.IJ.length
 ts:∀i:Int,(Q8 B i).state=(Q8 A i).state/\(Q8 B i).II=(Q8 A i).II/\(Q8 B i).R1=(Q8 A i).R1
 tv:∀i:Int,(Q8 A i).R1≠c->(Q8 B i).v=(Q8 A i).v
 g:QH A.IE B.IE
 cl:B.IF.length=A.IF.length
 cp:∀d:Int,0<=d->d≠c->gi B.IF d=gi A.IF d
 on:∀k d:Int,0<=k->0<=d->(Qa B k d).on=(Qa A k d).on
 sh:∀k d:Int,0<=k->0<=d->d≠c->Qa B k d=Qa A k d
 dr:∀k d:Int,0<=k->0<=d->Xu B k d=Xu A k d
 q:∀k:Int,0<=k->(gi B.IE k).IL.I'=(gi A.IE k).IL.I'
 lo:∀k d:Int,0<=k->0<=d->gi (gi B.IE k).IL.locals d>0->gi (gi A.IE k).IL.locals d>0\/(d=c/\P k)
def Tq.refl(c:Int)(P:Int->Prop)(W:Q7):Tq c P W W:=⟨rfl,λ_=>⟨rfl,rfl,rfl⟩,λ_ _=>rfl,QH.refl _,rfl,λ_ _ _=>rfl,λ_ _ _ _=>rfl,λ_ _ _ _ _=>rfl,λ_ _ _ _=>rfl,λ_ _=>rfl,λ_ _ _ _ h=>.inl h⟩
def Tq.trans{c:Int}{P:Int->Prop}{A B C:Q7}(h:Tq c P A B)(k:Tq c P B C):Tq c P A C:=
 ⟨k.tl.trans h.tl,λi=>⟨(k.ts i).1.trans (h.ts i).1,(k.ts i).2.1.trans (h.ts i).2.1,(k.ts i).2.2.trans (h.ts i).2.2⟩,λi hi=>(k.tv i (by rw[(h.ts i).2.2];exact hi)).trans (h.tv i hi),h.g.trans k.g,k.cl.trans h.cl,
  λd a b=>(k.cp d a b).trans (h.cp d a b),λi d a b=>(k.on i d a b).trans (h.on i d a b),λi d a b e=>(k.sh i d a b e).trans (h.sh i d a b e),λi d a b=>(k.dr i d a b).trans (h.dr i d a b),λi a=>(k.q i a).trans (h.q i a),λi d a b e=>by
   rcases k.lo i d a b e with e1|e1
   ·exact h.lo i d a b e1
   ·exact .inr e1⟩
section
variable {c d:Int}{P:Int->Prop}{A B:Q7}
def Tq.act(h:Tq c P A B)(d0:0<=d)(k:Int):Qv B k d=Qv A k d:=by
 have e:Xb B k d=Xb A k d:=funext λj=>by
  unfold Xb;rw[h.g.u,h.g.p,h.on (j:Int) d Qo d0]
 have e2:Ug B k d=Ug A k d:=funext λj=>by
  have:=h.ts (j:Int);show ((((Q8 B (j:Int)).state==1)&&((Q8 B (j:Int)).II==k))&&((Q8 B (j:Int)).R1==d))=((((Q8 A (j:Int)).state==1)&&((Q8 A (j:Int)).II==k))&&((Q8 A (j:Int)).R1==d));rw[this.1,this.2.1,this.2.2]
 unfold Qv;rw[h.tl,h.g.len,e,e2]
def Tq.aK(h:Tq c P A B)(d0:0<=d){k:Int}(k0:0<=k)(o:YtjinkcmkgnofjaaGreatDoor.aK A d k):YtjinkcmkgnofjaaGreatDoor.aK B d k:=by
 unfold YtjinkcmkgnofjaaGreatDoor.aK at o ⊢;rw[h.on k d k0 d0,h.act d0,h.dr k d k0 d0];exact o
def Tq.onC(h:Tq c P A B)(d0:0<=d)(o:z0c A d):z0c B d:=λk hu hz=>by
 rw[h.g.aO] at hu;exact h.aK d0 (Q2.1 hu).1 (o k hu hz)
def Tq.line(h:Tq c P A B)(ha:WA A)(li:∀t:Int,(Q8 A t).state=1->Q6 A.IE (Q8 A t).II){t:Int}(t0:0<=(Q8 A t).R1):Zf B t=Zf A t:=by
 obtain⟨h1,h2,h3⟩:=h.ts t;unfold Zf;rw[h1,h2,h3]
 cases hs:((Q8 A t).state==1) with
 |false=>rfl
 |true=>
  rw[Bool.true_and,Bool.true_and];unfold JR;rw[Jc h.g];exact zcf λx hx=>h.on x _ (Q2.1 (Yv ha.tree _ (li t (Iz hs)) x hx).1).1 t0
def Tq.mem(h:Tq c P A B)(d0:0<=d)(k:Int):Z3 B k d=Z3 A k d:=by
 funext i
 unfold Z3;split
 ·have:=h.ts (i:Int);show ((((Q8 B (i:Int)).state==1)&&((Q8 B (i:Int)).II==k))&&((Q8 B (i:Int)).R1==d))=((((Q8 A (i:Int)).state==1)&&((Q8 A (i:Int)).II==k))&&((Q8 A (i:Int)).R1==d));rw[this.1,this.2.1,this.2.2]
 ·unfold Xb;rw[h.g.u,h.g.p,h.on _ d Qo d0]
def Tq.aJ(h:Tq c P A B)(d0:0<=d)(hd:d≠c)(k:Int):Za B k d 20=Za A k d 20/\QZ B k d 20=QZ A k d 20:=by
 have hv:∀j:Nat,Z3 A k d j->Z1 B d j=Z1 A d j:=λj hp=>by
  unfold Z1;split
  ·rename_i hj;rw[Jn hj] at hp;unfold Ug at hp;simp only[A',Is] at hp;exact h.tv (j:Int) (λe=>hd (hp.2.symm.trans e))
  ·rw[h.sh _ d Qo d0 hd]
 have e:QU (Z3 B k d) (Z1 B d) 20=QU (Z3 A k d) (Z1 A d) 20:=Pb (λj _=>by rw[h.mem d0]) λj _ hp=>hv j (by rwa[h.mem d0] at hp)
 unfold Za QZ;rw[e];refine⟨rfl,?_⟩;split
 ·rfl
 ·rcases Zg (Z3 A k d) (Z1 A d) 20 with ⟨h1,_⟩|⟨_,_,h3,_⟩
  ·omega
  ·exact hv _ h3
def Tq.sd(h:Tq c P A B)(ha:WA A)(li:∀t:Int,(Q8 A t).state=1->Q6 A.IE (Q8 A t).II)(d0:0<=d)(hd:d≠c)(s:Sd A d):Sd B d:=by
 refine⟨h.onC d0 s.on,λk hu hb=>?_,λh0=>?_⟩
 ·rw[h.g.aO] at hu;obtain⟨e1,e2⟩:=h.aJ d0 hd k;rw[e1] at hb;rw[e2,h.sh k d (Q2.1 hu).1 d0 hd];exact s.fl k hu hb
 ·rw[h.cp d d0 hd] at h0 ⊢;obtain⟨a,b⟩:=s.cu h0;rw[(h.ts _).2.2,h.line ha li (by rw[a];exact d0)];exact⟨a,b⟩
def Tq.gvn(h:Tq c P A B)(hp:∀k:Int,Q6 A.IE k->(gi A.IE k).IL.I'≠0->P k->0<=c->Qv A k c)(g:D9 A):D9 B:=λk d hu hq d0 d1 hl=>by
 rw[h.g.aO] at hu;have k0:=(Q2.1 hu).1;rw[h.q k k0] at hq;rw[h.cl] at d1;rw[h.act d0];rcases h.lo k d k0 d0 hl with e|⟨e,hk⟩
 ·exact g k d hu hq d0 d1 e
 ·subst e;exact hp k hu hq hk d0
end
section
variable {W:Q7}{c:Int}{P:Int->Prop}
def z3w{g:Int}{b:Um}(g0:0<=g)(g1:g<(W.IE.length:Int))(hP:P g)(hq:b.I'=(gi W.IE g).IL.I')(hd:∀d:Int,0<=d->gi b.Ry d=gi (gi W.IE g).IL.Ry d)(hl:∀d:Int,0<=d->gi b.locals d>0->gi (gi W.IE g).IL.locals d>0\/d=c):Tq c P W (RF W g b):=by
 have e:∀{i:Int},0<=i->gi (RF W g b).IE i=if g=i then { gi W.IE g with IL:=b } else gi W.IE i:=λhi=>Ym g0 g1 hi
 have sh:∀i d:Int,0<=i->Qa (RF W g b) i d=Qa W i d:=λi d i0=>by
  unfold Qa;rw[e i0];split
  ·rename_i h;rw[<-h]
  ·rfl
 refine⟨rfl,λ_=>⟨rfl,rfl,rfl⟩,λ_ _=>rfl,⟨E',λi=>Z7 (f:=ZD.IV) W.IE g (x:={ gi W.IE g with IL:=b }) rfl i,λi=>Z7 (f:=ZD.IG) W.IE g (x:={ gi W.IE g with IL:=b }) rfl i,λi=>Z7 (f:=ZD.name) W.IE g (x:={ gi W.IE g with IL:=b }) rfl i⟩,rfl,λ_ _ _=>rfl,λk d k0 _=>by rw[sh k d k0],λk d k0 _ _=>sh k d k0,λk d k0 d0=>?_,λk k0=>?_,λk d k0 d0 h=>?_⟩
 ·unfold Xu;rw[e k0];split
  ·rename_i h;subst h;show (decide (b.I'>0)&&gi b.Ry d)=_;rw[hq,hd d d0]
  ·rfl
 ·rw[e k0];split
  ·rename_i h;subst h;exact hq
  ·rfl
 ·rw[e k0] at h
  split at h
  ·rename_i h';subst h';rcases hl d d0 h with h|h
   ·exact .inl h
   ·exact .inr ⟨h,hP⟩
  ·exact .inl h
def z5f{K:Int}(sw:SW K W)(c0:0<=c){g:Int}(hu:Q6 W.IE g)(hP:P g)(hd:(gi W.IE g).IL.I'≠0->gi (gi W.IE g).IL.Ry c=false)(h2:(K5 W c g).2):Tq c P W (K5 W c g).1:=by
 obtain⟨g0,g1,_⟩:=Q2.1 hu;unfold K5 at h2 ⊢;split
 ·exact Tq.refl _ _ _
 ·rename_i hq;rw[B' hq] at h2;have h2:=Ot h2;have hd:=hd hq;show Tq c P W (RF W g (ZL (gi W.IE g).IL c).1);unfold ZL at h2 ⊢;split
  ·exact z3w g0 g1 hP rfl (λ_ _=>rfl) λ_ _ h=>.inl h
  ·rename_i hn;rw[B' hn] at h2;have hm:Zr 20 (gi W.IE g).IL.RH≠0:=λe=>h2 (C' e)
   refine z3w g0 g1 hP rfl (λd d0=>?_) λd d0 h=>?_
   ·show gi ((gi W.IE g).IL.Ry.set c.toNat (Zr 20 (gi W.IE g).IL.RH==0)) d=_;rw[beq_false_of_ne hm];rcases Er (gi W.IE g).IL.Ry c d false with ⟨a,b⟩|a
    ·rw[a,b,hd]
    ·exact a
   ·by_cases e:d=c
    ·exact .inr e
    ·exact .inl (by rwa[show gi _ d=gi (gi W.IE g).IL.locals d from KZ _ _ c0 d0 e] at h)
def zz6{K:Int}(c0:0<=c):∀(l:List Int) {W:Q7},SW K W->c<(W.IF.length:Int)->(∀g∈l,Q6 W.IE g/\P g)->(∀g∈l,(gi W.IE g).IL.I'≠0->gi (gi W.IE g).IL.Ry c=false)->(DW c l W).2->Tq c P W (DW c l W).1
 |[],W,_,_,_,_,_=>Tq.refl _ _ _
 |g::l,W,sw,c1,hu,hd,h2=>by
  obtain⟨a,b,_⟩:=zmr sw c0 c1 (hu g I9).1 (hd g I9);simp only[DW] at h2 ⊢
  by_cases h3:(K5 W c g).2=true
  ·rw[C' h3] at h2 ⊢;obtain⟨b1,b2⟩:=b h3;have h0:∀x∈l,0<=x:=λx hx=>(Q2.1 (hu x (I1 _ hx)).1).1
   exact(z5f sw c0 (hu g I9).1 (hu g I9).2 (hd g I9) h3).trans (zz6 c0 l (W:=(K5 W c g).1) a.sw (by rw[a.o.c];exact c1) (λx hx=>by rw[a.o.g.aO];exact hu x (I1 _ hx)) (λx hx hq=>by
    rw[a.q x (h0 x hx)] at hq;exact b2 x (h0 x hx) (hd x (I1 _ hx)) hq) h2)
  ·rw[B' h3] at h2;cases h2
def z20(W:Q7)(c0:0<=c)(t:Int):Tq c P W (ZX W c t):=
 ⟨rfl,λ_=>⟨rfl,rfl,rfl⟩,λ_ _=>rfl,QH.refl _,E',λ_ d0 hd=>KZ _ _ c0 d0 hd,λ_ _ _ _=>rfl,λ_ _ _ _ _=>rfl,λ_ _ _ _=>rfl,λ_ _=>rfl,λ_ _ _ _ h=>.inl h⟩
def z3f(W:Q7)(c n k:Int):ZD:={ gi W.IE k with IH:=(gi W.IE k).IH.set c.toNat (Gg W c n k),sum:=(gi W.IE k).sum+n,IL:=MZ W c n k }
def zt8{V:Q7}{n k:Int}(h:gi V.IE k=gi W.IE k):z3f V c n k=z3f W c n k:=by
 unfold z3f Gg MZ Qa;rw[h]
def z37{n g k:Int}(g0:0<=g)(g1:g<(W.IE.length:Int))(k0:0<=k):gi (GQ W c n g).IE k=if g=k then z3f W c n g else gi W.IE k:=by
 have e1:∀{i:Int},0<=i->gi (PJ W c n g).IE i=if g=i then { gi W.IE g with IH:=(gi W.IE g).IH.set c.toNat (Gg W c n g) } else gi W.IE i:=λhi=>Ym g0 g1 hi
 have l1:(PJ W c n g).IE.length=W.IE.length:=E';have e2:∀{i:Int},0<=i->gi (R3 (PJ W c n g) g (KN W c n g)).IE i=if g=i then KN W c n g else gi (PJ W c n g).IE i:=λhi=>Ym g0 (by rw[l1];exact g1) hi
 have l2:(R3 (PJ W c n g) g (KN W c n g)).IE.length=W.IE.length:=E'.trans l1;have e3:gi (GQ W c n g).IE k=if g=k then { gi (R3 (PJ W c n g) g (KN W c n g)).IE g with IL:=MZ W c n g } else gi (R3 (PJ W c n g) g (KN W c n g)).IE k:=Ym g0 (by rw[l2];exact g1) k0;rw[e3];split
 ·rw[e2 g0,C' rfl];unfold KN;rw[e1 g0,C' rfl];rfl
 ·rename_i h;rw[e2 k0,B' h,e1 k0,B' h]
def zsa(W:Q7)(c n g:Int):(GQ W c n g).IE.length=W.IE.length:=E'.trans (E'.trans E')
def zxa{n k:Int}(k0:0<=k):∀(l:List Int) {W:Q7},l.Nodup->(∀g∈l,0<=g/\g<(W.IE.length:Int))->gi (DD c n l W).IE k=if k∈l then z3f W c n k else gi W.IE k
 |[],W,_,_=>by simp[DD]
 |g::l,W,nd,hg=>by
  obtain⟨hn,ndl⟩:=List.nodup_cons.1 nd;have h:=hg g I9;have ih:=zxa (n:=n) k0 l (W:=GQ W c n g) ndl λx hx=>by rw[zsa];exact hg x (I1 _ hx)
  have e:=z37 (W:=W) (c:=c) (n:=n) h.1 h.2 k0;show gi (DD c n l (GQ W c n g)).IE k=_;rw[ih]
  by_cases hk:k∈l
  ·have cU:g≠k:=λe=>hn (e▸hk)
   rw[B' cU] at e;rw[C' hk,C' (I1 _ hk)];exact zt8 e
  ·rw[B' hk,e]
   by_cases he:g=k
   ·subst he;rw[C' rfl,C' I9]
   ·rw[B' he,B'];intro hm;rcases Ii.1 hm with e|e
    ·exact he e.symm
    ·exact hk e
def zw9(c n:Int):∀(l:List Int) (W:Q7),(DD c n l W).now=W.now/\(DD c n l W).IF=W.IF/\(DD c n l W).IJ=W.IJ/\(DD c n l W).IE.length=W.IE.length
 |[],_=>⟨rfl,rfl,rfl,rfl⟩
 |g::l,W=>by
  obtain⟨a,b,d,e⟩:=zw9 c n l (GQ W c n g);exact⟨a,b,d,e.trans (zsa _ _ _ _)⟩
def HK(W:Q7)(c n k:Int):(MZ W c n k).Ry=(gi W.IE k).IL.Ry/\(MZ W c n k).I'=(gi W.IE k).IL.I'/\∀d:Int,gi (MZ W c n k).locals d>0->0<=n->gi (gi W.IE k).IL.locals d>0:=by
 unfold MZ;split
 ·unfold ZP;rw[B' (show ¬(2:Int)=4 by decide)];split
  ·exact⟨rfl,rfl,λ_ h _=>h⟩
  ·rw[B' (show ¬(2:Int)=1 by decide),C' rfl];unfold Y6;split
   ·exact⟨rfl,rfl,λ_ h _=>h⟩
   ·refine⟨rfl,rfl,λd h n0=>?_⟩;have h:gi ((gi W.IE k).IL.locals.set c.toNat (gi (gi W.IE k).IL.locals c-n)) d>0:=h;rcases Er (gi W.IE k).IL.locals c d (gi (gi W.IE k).IL.locals c-n) with ⟨a,b⟩|a
    ·rw[a] at h;rw[b];omega
    ·rwa[a] at h
 ·exact⟨rfl,rfl,λ_ h _=>h⟩
end
structure zpj (T:Q7) (c t n:Int) (A:Q7):Prop where
 gr:∀k:Int,0<=k->gi A.IE k=if k∈QV T t then z3f T c n k else gi T.IE k
 gl:A.IE.length=T.IE.length
 tk:A.IJ=T.IJ.set t.toNat (Tb T t n)
 cp:A.IF=T.IF.set c.toNat (Fp T c n)
 nw:A.now=T.now
section
variable {T A:Q7}{c t n:Int}
def z7g(nd:(QV T t).Nodup)(hg:∀g∈QV T t,0<=g/\g<(T.IE.length:Int)):zpj T c t n (Ui T c t n):=by
 obtain⟨f1,f2,f3,f4⟩:=zw9 c n (QV T t) (J' T t (Tb T t n));refine⟨λk k0=>?_,f4,f3,?_,f1⟩
 ·exact zxa k0 (QV T t) (W:=J' T t (Tb T t n)) nd hg
 ·show (DD c n (QV T t) (J' T t (Tb T t n))).IF.set c.toNat (Fp T c n)=_;rw[f2];rfl
def zpj.sh(h:zpj T c t n A){k d:Int}(k0:0<=k):Qa A k d=if k∈QV T t then gi ((gi T.IE k).IH.set c.toNat (Gg T c n k)) d else Qa T k d:=by
 unfold Qa;rw[h.gr k k0]
 split <;> rfl
def zpj.on(h:zpj T c t n A){k d:Int}(k0:0<=k):(Qa A k d).on=(Qa T k d).on:=by
 rw[h.sh k0];split
 ·exact Z7 (f:=KM.on) (gi T.IE k).IH c (x:=Gg T c n k) rfl d
 ·rfl
def zpj.oth(h:zpj T c t n A)(c0:0<=c){k d:Int}(k0:0<=k)(d0:0<=d)(hd:d≠c):Qa A k d=Qa T k d:=by
 rw[h.sh k0];split
 ·exact KZ _ _ c0 d0 hd
 ·rfl
def zpj.tq(h:zpj T c t n A)(c0:0<=c)(n0:0<=n)(hc:(Q8 T t).R1=c)(hT:QH T.IE A.IE):Tq c (λ_=>False) T A:=by
 have tk:∀i:Int,Q8 A i=gi (T.IJ.set t.toNat (Tb T t n)) i:=λi=>by unfold Q8;rw[h.tk]
 refine⟨by rw[h.tk];exact E',λi=>?_,λi hi=>?_,hT,by rw[h.cp];exact E',λd d0 hd=>by rw[h.cp];exact KZ _ _ c0 d0 hd,λk d k0 _=>h.on k0,λk d k0 d0 hd=>h.oth c0 k0 d0 hd,λk d k0 _=>?_,λk k0=>?_,λk d k0 _ hl=>?_⟩
 ·rw[tk];exact⟨Z7 (f:=PS.state) T.IJ t (x:=Tb T t n) rfl i,Z7 (f:=PS.II) T.IJ t (x:=Tb T t n) rfl i,Z7 (f:=PS.R1) T.IJ t (x:=Tb T t n) rfl i⟩
 ·rw[tk];rcases Er T.IJ t i (Tb T t n) with ⟨_,b⟩|a
  ·exact Ir ((congrArg PS.R1 (show Q8 T i=Q8 T t from b)).trans hc) hi
  ·rw[a];rfl
 ·unfold Xu;rw[h.gr k k0];split
  ·show (decide ((MZ T c n k).I'>0)&&gi (MZ T c n k).Ry d)=_;rw[(HK T c n k).1,(HK T c n k).2.1]
  ·rfl
 ·rw[h.gr k k0];split
  ·exact(HK T c n k).2.1
  ·rfl
 ·rw[h.gr k k0] at hl
  split at hl
  ·exact .inl ((HK T c n k).2.2 d hl n0)
  ·exact .inl hl
end
def QH.symm{a b:List ZD}(h:QH a b):QH b a:=⟨h.len.symm,λi=>(h.u i).symm,λi=>(h.p i).symm,λi=>(h.n i).symm⟩
structure z51 (c:Int) (W V:Q7):Prop where
 f:FC c W V
 r:Rf c W V
 s:JY W V
 l:∀g:Int,Q6 W.IE g->Za W g c 20->QZ W g c 20<=(Qa V g c).IM
def z7i{W:Q7}{c:Int}(ha:WA W)(c0:0<=c)(c1:c<(W.IF.length:Int)):z51 c W (Z4 W c):=by
 obtain⟨f,_,h⟩:=KU ha c0 c1 8 (I7 _);exact⟨f,A8 W c0 8,G9 W c 8,λg hu hb=>h g hu (by have:=(Q2.1 hu).2.1;have:=ha.gl;omega) hb⟩
def HH{W:Q7}{g c:Int}:Za W g c 20=true↔∃j:Nat,j<20/\Z3 W g c j:=by
 constructor
 ·intro h;unfold Za at h;have h:=Ot h;rcases Zg (Z3 W g c) (Z1 W c) 20 with ⟨h1,_⟩|⟨h1,h2,h3,_⟩
  ·omega
  ·exact⟨_,Qo,h3⟩
 ·rintro⟨j,hj,hp⟩;exact(za3 hj hp).1
def zt3{A B:Q7}{g c:Int}(hp:Z3 B g c=Z3 A g c)(hv:∀j:Nat,Z1 A c j<=Z1 B c j)(hb:Za B g c 20):QZ A g c 20<=QZ B g c 20:=by
 unfold Za at hb;have h:=Ot hb;rcases Zg (Z3 B g c) (Z1 B c) 20 with ⟨h1,_⟩|⟨h1,h2,h3,_⟩
 ·omega
 ·have e:QZ B g c 20=Z1 B c (QU (Z3 B g c) (Z1 B c) 20).toNat:=by
   unfold QZ;rw[B' Qo]
  rw[e];rw[hp] at h3;have h4:=(za3 (W:=A) (g:=g) (c:=c) (j:=(QU (Z3 B g c) (Z1 B c) 20).toNat) Qo (by rw[hp];exact h3)).2;exact IC h4 (hv _)
def zvv{b:Um}{c l m:Int}(c0:0<=c)(c1:c<(b.locals.length:Int))(l1:1<=l)(m1:1<=m)(h:l+m<=gi b.locals c):(Y6 (Y6 b c l).1 c m).1=(Y6 b c (l+m)).1:=by
 have e1:(Y6 b c l).1={ b with So:=b.So+l,locals:=b.locals.set c.toNat (gi b.locals c-l) }:=by
  unfold Y6;rw[B' Qo]
 have e2:(Y6 b c (l+m)).1={ b with So:=b.So+(l+m),locals:=b.locals.set c.toNat (gi b.locals c-(l+m)) }:=by
  unfold Y6;rw[B' Qo]
 have e3:gi (b.locals.set c.toNat (gi b.locals c-l)) c=gi b.locals c-l:=(Qx _ _ c0 c1 c0).trans (C' rfl);rw[e1,e2];unfold Y6
 dsimp only
 rw[e3,B' Qo,List.set_set];simp only[Um.mk.injEq,true_and,and_true];exact⟨Qo,by rw[show gi b.locals c-l-m=gi b.locals c-(l+m) by omega]⟩
def PH{b:Um}{c n:Int}(c0:0<=c)(c1:c<(b.locals.length:Int)):ZP b ⟨2,c,n⟩=Y6 b c n:=by
 unfold ZP;rw[B' (show ¬(2:Int)=4 by decide),B' (by rw[Qu.2 (by show 0<=c/\c<=_;omega)];decide),B' (show ¬(2:Int)=1 by decide),C' rfl]
def z01{T S:Q7}{c l m k:Int}(c0:0<=c)(l1:1<=l)(m1:1<=m)(hb:(gi S.IE k).IL=MZ T c l k)(h:(gi T.IE k).IL.I'>0->c<((gi T.IE k).IL.locals.length:Int)/\l+m<=gi (gi T.IE k).IL.locals c):MZ S c m k=MZ T c (l+m) k:=by
 unfold MZ;rw[hb,(HK T c l k).2.1];split
 ·rename_i hq;obtain⟨h1,h2⟩:=h hq
  have e:MZ T c l k=(Y6 (gi T.IE k).IL c l).1:=by
   unfold MZ;rw[C' hq,PH c0 h1]
  have hl:(MZ T c l k).locals.length=(gi T.IE k).IL.locals.length:=by
   rw[e];unfold Y6;split
   ·rfl
   ·exact E'
  rw[PH c0 (by rw[hl];exact h1),PH c0 h1,e];exact zvv c0 h1 l1 m1 h2
 ·rename_i hq;unfold MZ;rw[B' hq]
def z2t{a b:KM}(h1:a.IM=b.IM)(h2:a.on=b.on)(h3:a.v=b.v)(h4:a.w=b.w)(h5:a.sum=b.sum):a=b:=by
 cases a;cases b
 simp only at h1 h2 h3 h4 h5;subst h1 h2 h3 h4 h5;rfl
def zpj.nJ{T A:Q7}{c t n k:Int}(h:zpj T c t n A)(k0:0<=k)(c0:0<=c)(c1:c<((gi T.IE k).IH.length:Int)):Qa A k c=if k∈QV T t then Gg T c n k else Qa T k c:=by
 rw[h.sh k0];split
 ·exact(Qx _ _ c0 c1 c0).trans (C' rfl)
 ·rfl
section
variable {T A1 S A B X Y:Q7}{c t l m:Int}
def z4v{K:Int}(sw:SW K T)(c0:0<=c)(c1:c<(T.IF.length:Int))(t0:0<=t)(t1:t<12)(hc:(Q8 T t).R1=c)(hw:1<=Qf (Q8 T t).nice)(hpu:∀k∈QV T t,Q6 T.IE k)(l1:1<=l)(m1:1<=m)(lm:l+m<=100)(h1:zpj T c t l A1)(hS:z51 c A1 S)(hB:zpj S c t m B)(hY:z51 c B Y)(hA:zpj T c t (l+m) A)(hX:z51 c A X)(g1:QH T.IE A1.IE)(gB:QH S.IE B.IE)(gA:QH T.IE A.IE)(hq:∀k∈QV T t,(gi T.IE k).IL.I'>0->c<((gi T.IE k).IL.locals.length:Int)/\l+m<=gi (gi T.IE k).IL.locals c):Y=X:=by
 have ha:=sw.a;have bU:=ha.gl;have jF:=ha.t;have wt:=(Xa (Q8 T t).nice).2;have gS:QH T.IE S.IE:=g1.trans hS.f.o.g;have eS:S.IJ=T.IJ.set t.toNat (Tb T t l):=hS.f.o.t.trans h1.tk
 have tS:Q8 S t=Tb T t l:=by
  unfold Q8;rw[eS];exact(Qx _ _ t0 Qo t0).trans (C' rfl)
 have pS:QV S t=QV T t:=by
  unfold QV;rw[tS,Jc gS];rfl
 have eT:Tb S t m=Tb T t (l+m):=by
  unfold Tb;rw[tS];unfold Tb;simp only[PS.mk.injEq,true_and,and_true];refine⟨?_,Qo,Qo⟩;rw[Lt Qo Qo Qo hw wt];omega
 have tB:B.IJ=A.IJ:=by rw[hB.tk,hA.tk,eS,eT,List.set_set]
 have eC:S.IF=T.IF.set c.toNat (Fp T c l):=hS.f.cs.trans h1.cp
 have cS:gi S.IF c=Fp T c l:=by
  rw[eC];exact(Qx _ _ c0 c1 c0).trans (C' rfl)
 have eC2:Fp S c m=Fp T c (l+m):=by
  unfold Fp;rw[cS];unfold Fp;simp only[PP.mk.injEq,true_and,and_true];exact⟨Qo,Qo⟩
 have cB:B.IF=A.IF:=by rw[hB.cp,hA.cp,eC,eC2,List.set_set]
 have inn:∀k:Int,Q6 T.IE k->c<((gi T.IE k).IH.length:Int):=λk hu=>by rw[ha.sl hu];exact c1
 have slS:∀k:Int,0<=k->(gi S.IE k).IH.length=(gi T.IE k).IH.length:=λk k0=>by
  rw[hS.r.sl k,h1.gr k k0];split
  ·exact E'
  ·rfl
 have on1:∀k d:Int,0<=k->0<=d->(Qa B k d).on=(Qa A k d).on:=λk d k0 d0=>by rw[hB.on k0,hA.on k0,hS.f.on k d k0 d0,h1.on k0]
 have pc:∀k:Int,0<=k->(Qa B k c).v=(Qa A k c).v/\(Qa B k c).w=(Qa A k c).w/\(Qa B k c).sum=(Qa A k c).sum/\(Qa A1 k c).v<=(Qa A k c).v/\(Qa B k c).IM=(Qa S k c).IM/\(Qa A k c).IM=(Qa T k c).IM/\(Qa A1 k c).IM=(Qa T k c).IM:=λk k0=>by
  have hv:=hS.f.v k c k0 c0;have hw:=hS.f.w k c k0 c0;have hs:=hS.f.s k c k0 c0
  by_cases hp:k∈QV T t
  ·have hu:=hpu k hp;have jJ:=sw.s k c hu c0 c1;have eA:=hA.nJ k0 c0 (inn k hu);have e1:=h1.nJ k0 c0 (inn k hu);have eB:=hB.nJ k0 c0 (by rw[slS k k0];exact inn k hu);rw[pS,C' hp] at eB;rw[C' hp] at eA e1;rw[e1] at hv hw hs;rw[eA,eB,e1];have w1:(Gg T c l k).w=(Qa T k c).w:=rfl;have s1:(Gg T c l k).sum=(Qa T k c).sum+l:=rfl;have va:=Lt (a:=l) (b:=m) (w:=(Qa T k c).w) Qo Qo Qo jJ.2.2.2.2.1 jJ.2.2.2.2.2;have vm:=(Pl m (Qa T k c).w).1;refine⟨?_,?_,?_,?_,rfl,rfl,rfl⟩
   ·show (if k≠0 then (Qa S k c).v+QS m (Qa S k c).w else (Qa S k c).v)=if k≠0 then (Qa T k c).v+QS (l+m) (Qa T k c).w else (Qa T k c).v;rw[hv,hw,w1];show (if k≠0 then (if k≠0 then (Qa T k c).v+QS l (Qa T k c).w else (Qa T k c).v)+QS m (Qa T k c).w else (if k≠0 then (Qa T k c).v+QS l (Qa T k c).w else (Qa T k c).v))=_
    by_cases hz:k≠0
    ·simp only[C' hz];omega
    ·simp only[B' hz]
   ·exact hw
   ·show (Qa S k c).sum+m=(Qa T k c).sum+(l+m);rw[hs,s1];omega
   ·show (if k≠0 then (Qa T k c).v+QS l (Qa T k c).w else (Qa T k c).v)<=if k≠0 then (Qa T k c).v+QS (l+m) (Qa T k c).w else (Qa T k c).v
    split <;> omega
  ·have eA:=hA.sh (d:=c) k0;have e1:=h1.sh (d:=c) k0;have eB:=hB.sh (d:=c) k0;rw[pS,B' hp] at eB;rw[B' hp] at eA e1;rw[eA,eB,e1];rw[e1] at hv hw hs;exact⟨hv,hw,hs,I2 _,rfl,rfl,rfl⟩
 have q1:Tq c (λ_=>False) T A1:=h1.tq c0 Qo hc g1;have qA:Tq c (λ_=>False) T A:=hA.tq c0 Qo hc gA;have gAB:QH A.IE B.IE:=gA.symm.trans (gS.trans gB);have bc:=HI (d:=c) tB gAB (by rw[gA.len];exact bU) (λk k0=>on1 k c k0 c0) (λk k0=>(pc k k0).1);have hmp:∀k:Int,Z3 A k c=Z3 A1 k c:=λk=>(qA.mem c0 k).trans (q1.mem c0 k).symm
 have hmv:∀j:Nat,Z1 A1 c j<=Z1 A c j:=λj=>by
  unfold Z1;split
  ·unfold Q8;rw[h1.tk,hA.tk,Qx _ _ t0 Qo Qo,Qx _ _ t0 Qo Qo];split
   ·show (Q8 T t).v+QS l _<=(Q8 T t).v+QS (l+m) _;have va:=Lt (a:=l) (b:=m) (w:=Qf (Q8 T t).nice) Qo Qo Qo hw wt;have vm:=(Pl m (Qf (Q8 T t).nice)).1;omega
   ·exact I2 _
  ·exact(pc _ Qo).2.2.2.1
 have fl:∀k:Int,Q6 T.IE k->(Qa Y k c).IM=(Qa X k c).IM:=λk hu=>by
  have k0:=(Q2.1 hu).1;obtain⟨_,_,_,_,f1,f2,f3⟩:=pc k k0;have x1:=hX.f.fl k k0;have x2:=hX.f.up k c k0 c0;have y1:=hY.f.fl k k0;have y2:=hY.f.up k c k0 c0;have s1:=hS.f.fl k k0;have s2:=hS.f.up k c k0 c0;have bb:=bc k;rw[bb.1,bb.2] at y1
  by_cases hb:Za A k c 20=true
  ·have x3:=hX.l k (by rw[gA.aO];exact hu) hb;have y3:=hY.l k (by rw[gB.aO,gS.aO];exact hu) (by rw[bb.1];exact hb);rw[bb.2] at y3
   have bY:Za A1 k c 20:=by
    obtain⟨j,hj,hp⟩:=HH.1 hb;exact HH.2 ⟨j,hj,by rw[<-hmp];exact hp⟩
   have s3:=hS.l k (by rw[g1.aO];exact hu) bY;have bm:=zt3 (hmp k) hmv hb;rcases x1 with x1|⟨_,x1⟩ <;> rcases y1 with y1|⟨_,y1⟩ <;> rcases s1 with s1|⟨_,s1⟩ <;> omega
  ·have bY:¬Za A1 k c 20:=λh=>by
    obtain⟨j,hj,hp⟩:=HH.1 h;exact hb (HH.2 ⟨j,hj,by rw[hmp];exact hp⟩)
   rcases x1 with x1|⟨x0,_⟩
   ·rcases y1 with y1|⟨y0,_⟩
    ·rcases s1 with s1|⟨s0,_⟩
     ·omega
     ·exact Ir s0 bY
    ·exact Ir y0 hb
   ·exact Ir x0 hb
 have grp:∀k:Int,0<=k->k<8->gi Y.IE k=gi X.IE k:=λk k0 k1=>by
  have cA1:K8 (gi S.IE k)=K8 (gi A1.IE k):=hS.r.co k;refine zx2 ((hY.r.co k).trans (Eq.trans ?_ (hX.r.co k).symm)) ((hY.s.g k).trans (Eq.trans ?_ (hX.s.g k).symm)) (zsh ((hY.r.sl k).trans (Eq.trans ?_ (hX.r.sl k).symm)) λd d0 d1=>?_)
  ·rw[hB.gr k k0,hA.gr k k0,pS];rw[h1.gr k k0] at cA1
   by_cases hp:k∈QV T t
   ·rw[C' hp] at cA1 ⊢;rw[C' hp]
    have hb:(gi S.IE k).IL=MZ T c l k:=by
     rw[hS.f.o.b k k0,h1.gr k k0,C' hp];rfl
    have e:=z01 c0 l1 m1 hb (hq k hp);have e1:K8 (z3f S c m k)={ K8 (gi S.IE k) with IL:=MZ S c m k }:=rfl;have e2:K8 (z3f T c l k)={ K8 (gi T.IE k) with IL:=MZ T c l k }:=rfl;rw[e1,cA1,e2,e];rfl
   ·rw[B' hp] at cA1 ⊢;rw[B' hp];exact cA1
  ·have sS:=hS.s.g k;rw[hB.gr k k0,hA.gr k k0,pS];rw[h1.gr k k0] at sS
   by_cases hp:k∈QV T t
   ·rw[C' hp] at sS ⊢;rw[C' hp];show (gi S.IE k).sum+m=(gi T.IE k).sum+(l+m);rw[sS];show (gi T.IE k).sum+l+m=_;omega
   ·rw[B' hp] at sS ⊢;rw[B' hp];exact sS
  ·have slk:=slS k k0;rw[hB.gr k k0,hA.gr k k0,pS]
   by_cases hp:k∈QV T t
   ·rw[C' hp,C' hp];exact E'.trans (slk.trans E'.symm)
   ·rw[B' hp,B' hp];exact slk
  ·have lY:(gi Y.IE k).IH.length=(gi T.IE k).IH.length:=by
    rw[hY.r.sl k,hB.gr k k0,pS];split
    ·exact E'.trans (slS k k0)
    ·exact slS k k0
   have hu:Q6 T.IE k:=by
    cases hh:(gi T.IE k).IV with
    |true=>exact Q2.2 ⟨k0,Qo,hh⟩
    |false=>
     have:=((ha.grp k k0 k1).1 hh).l;omega
   show Qa Y k d=Qa X k d
   by_cases e:d=c
   ·subst e;obtain⟨p1,p2,p3,_⟩:=pc k k0;exact z2t (fl k hu) (by rw[hY.f.on k d k0 d0,hX.f.on k d k0 d0,on1 k d k0 d0]) (by rw[hY.f.v k d k0 d0,hX.f.v k d k0 d0,p1]) (by rw[hY.f.w k d k0 d0,hX.f.w k d k0 d0,p2]) (by rw[hY.f.s k d k0 d0,hX.f.s k d k0 d0,p3])
   ·rw[hY.r.e k d d0 e,hX.r.e k d d0 e,hB.oth c0 k0 d0 e,hA.oth c0 k0 d0 e,hS.r.e k d d0 e,h1.oth c0 k0 d0 e]
 have e1:Y.now=X.now:=by rw[hY.r.n,hX.r.n,hB.nw,hA.nw,hS.r.n,h1.nw]
 have e2:Y.IF=X.IF:=by rw[hY.f.cs,hX.f.cs,cB]
 have e3:Y.IJ=X.IJ:=by rw[hY.f.o.t,hX.f.o.t,tB]
 have e4:Y.IE=X.IE:=zsh (by rw[hY.r.gl,hX.r.gl,hB.gl,hA.gl,hS.r.gl,h1.gl]) λk k0 k1=>grp k k0 (by rw[hY.r.gl,hB.gl,hS.r.gl,h1.gl] at k1;omega)
 cases X;cases Y
 simp only at e1 e2 e3 e4;subst e1 e2 e3 e4;rfl
end
def z2g(a b:Int):Zr a b<=a/\Zr a b<=b/\(Zr a b=a\/Zr a b=b):=by
 unfold Zr
 split <;> omega
section
variable {W S T:Q7}{c:Int}
def zqv:∀(l:List Int) (n:Int),J8 W c l n<=n/\∀g∈l,(gi W.IE g).IL.I'>0->J8 W c l n<=gi (gi W.IE g).IL.locals c
 |[],n=>⟨I2 _,λg hg=>by cases hg⟩
 |g::l,n=>by
  obtain⟨h1,h2⟩:=zqv l (TM W c g n)
  have hm:TM W c g n<=n/\((gi W.IE g).IL.I'>0->TM W c g n<=gi (gi W.IE g).IL.locals c):=by
   unfold TM;split
   ·have:=z2g n (gi (gi W.IE g).IL.locals c);exact⟨this.1,λ_=>this.2.1⟩
   ·rename_i h;exact⟨I2 _,λk=>Ir k h⟩
  simp only[J8];refine⟨Qo,λx hx hq=>?_⟩;rcases Ii.1 hx with e|e
  ·subst e;have:=hm.2 hq;omega
  ·exact h2 x e hq
def zob:∀(l:List Int) (n:Int),J8 W c l n=n\/∀n':Int,n<=n'->J8 W c l n'=J8 W c l n
 |[],n=>.inl rfl
 |g::l,n=>by
  have ih:=zob l (TM W c g n)
  have hm:TM W c g n=n/\(∀n':Int,n<=n'->n<=TM W c g n')\/∀n':Int,n<=n'->TM W c g n'=TM W c g n:=by
   unfold TM;split
   ·unfold Zr
    by_cases h:n<=gi (gi W.IE g).IL.locals c
    ·refine .inl ⟨by split <;> omega,λn' hn=>by split <;> omega⟩
    ·refine .inr λn' hn=>by
      split <;> split <;> omega
   ·exact .inl ⟨rfl,λ_ h=>h⟩
  simp only[J8];rcases hm with ⟨e,hm⟩|hm
  ·rw[e] at ih ⊢;rcases ih with h|h
   ·exact .inl h
   ·exact .inr λn' hn=>h _ (hm n' hn)
  ·exact .inr λn' hn=>by rw[hm n' hn]
def zsy{a:Int}:∀(l:List Int) (n:Int),(∀g∈l,(gi S.IE g).IL.I'=(gi T.IE g).IL.I'/\((gi T.IE g).IL.I'>0->gi (gi S.IE g).IL.locals c=gi (gi T.IE g).IL.locals c-a))->J8 T c l (a+n)=a+J8 S c l n
 |[],n,_=>rfl
 |g::l,n,h=>by
  have hg:=h g I9
  have e:TM T c g (a+n)=a+TM S c g n:=by
   unfold TM;rw[hg.1];split
   ·rename_i hq;rw[hg.2 hq];unfold Zr
    split <;> split <;> omega
   ·rfl
  simp only[J8];rw[e];exact zsy l _ λx hx=>h x (I1 _ hx)
def zyz:∀(l:List Int) (n:Int),0<=n->(∀g∈l,(gi W.IE g).IL.I'>0->0<=gi (gi W.IE g).IL.locals c)->0<=J8 W c l n
 |[],n,h,_=>h
 |g::l,n,h,hl=>by
  simp only[J8];refine zyz l _ ?_ λx hx=>hl x (I1 _ hx)
  unfold TM;split
  ·rename_i hq;have:=hl g I9 hq;unfold Zr
   split <;> omega
  ·exact h
def z0v(W:Q7){g:Int}(g0:0<=g):RF W g (gi W.IE g).IL=W:=by
 show { W with IE:=W.IE.set g.toNat (gi W.IE g) }=W;rw[zqn _ g0]
def zpb:∀l:List Int,(∀g∈l,0<=g/\((gi W.IE g).IL.I'≠0->gi (gi W.IE g).IL.locals c>0))->DW c l W=(W,true)
 |[],_=>rfl
 |g::l,h=>by
  have hg:=h g I9
  have e:K5 W c g=(W,true):=by
   unfold K5;split
   ·rfl
   ·rename_i hq
    have e2:ZL (gi W.IE g).IL c=((gi W.IE g).IL,0):=by
     unfold ZL;rw[C' (hg.2 hq)]
    rw[e2,z0v W hg.1];rfl
  simp only[DW];rw[e,C' rfl];exact zpb l λx hx=>h x (I1 _ hx)
end
def HZ{c:Int}:∀(f:Nat) {f':Nat} {W0 W1 V:Q7} {a:Int},Md f c W0 V a->Md f' c W1 V a->PD c f V a=PD c f' V a
 |0,f',W0,W1,V,a,h,_=>by have:=h.f1;have:=h.l0;omega
 |f+1,0,W0,W1,V,a,_,h=>by have:=h.f1;have:=h.l0;omega
 |f+1,f'+1,W0,W1,V,a,h,k=>by
  by_cases hl:a<=0
  ·rw[Ph hl,Ph hl]
  ·by_cases hp:Qe V c<0
   ·rw[OP hl hp,OP hl hp]
   ·rw[UT hl hp,UT hl hp];exact HZ f (TO h Qo hp).nx (TO k Qo hp).nx
section
variable {W0 V:Q7}{c:Int}
def z3v{A B:Q7}{P:Int->Prop}(ha:WA A)(li:∀t:Int,(Q8 A t).state=1->Q6 A.IE (Q8 A t).II)(h:Tq c P A B)(c0:0<=c)(oth:∀d:Int,0<=d->d<(A.IF.length:Int)->d≠c->Sd A d)(on:z0c A c)(gv:D9 A)(hp:∀k:Int,Q6 A.IE k->(gi A.IE k).IL.I'≠0->P k->0<=c->Qv A k c)(cu:(Q8 A (gi B.IF c).cur).R1=c/\Zf A (gi B.IF c).cur):Sx B c:=
 ⟨λd d0 d1 hd=>h.sd ha li d0 hd (oth d d0 (by rw[h.cl] at d1;exact d1) hd),h.onC c0 on,λ_=>⟨(h.ts _).2.2.trans cu.1,(h.line ha li (by rw[cu.1];exact c0)).trans cu.2⟩,h.gvn hp gv⟩
structure z7o (V T:Q7) (c t:Int) (K S:Int):Prop where
 sw:SW K T
 rb:RB S T
 K0:0<=K
 S0:S+500<=100000000000000000
 c0:0<=c
 c1:c<(T.IF.length:Int)
 up:(gi T.IF c).up=true
 SX:(gi T.IF c).SX<50
 cur:(gi T.IF c).cur=t
 t0:0<=t
 t1:t<12
 us:Q6 T.IE (Q8 T t).II=true
 R1:(Q8 T t).R1=c
 line:Zf T t=true
 wt:1<=Qf (Q8 T t).nice
 oth:∀d:Int,0<=d->d<(T.IF.length:Int)->d≠c->Sd T d
 on:z0c T c
 gv:D9 T
def z6y{W:Q7}(wp:XQ W){t:Int}(t0:0<=t)(t1:t<12)(n:(Q8 W t).state≠0):1<=Qf (Q8 W t).nice:=by
 have h:=(Xa (Q8 W t).nice).1;rcases wp.t t t0 t1 with ⟨a,_⟩|⟨_,p⟩
 ·exact Ir a n
 ·have:=p.n;omega
def zzd{f:Nat}{a:Int}(h:Md (f+1) c W0 V a)(iv:Xo V)(gv:D9 V)(ha:0<a)(hp:¬Qe V c<0)(h2:(Zl V c).2):z7o V (Zl V c).1 c (Qe V c) (EH (f+1)) (Dy (f+1)):=by
 have hR:=TO h ha hp;have c0:=h.c0;have c1:=h.c1;have t0:=hR.line.t0;have t1:=hR.line.t1;have hK:=M3 h.f2;have hSu:=Bn h.f2;have hh0:(0:Int)<=Ql:=Qd;have wa:=iv.wp.a;obtain⟨q1,q2,q3,q4,q5,q6⟩:=Ki h.sw h.rb c0 c1 h.up t0 t1;have eC:(Zl V c).1.IF=(ZX V c (Qe V c)).IF:=hR.tk.o.c;have lT:(Zl V c).1.IF.length=V.IF.length:=by rw[eC];exact q6
 have rT:RB (Dy (f+1)) (Zl V c).1:=hR.r1.sum hR.tk.su hR.tk.o.g (by rw[eC]);have eT:(Zl V c).1.IJ=V.IJ:=hR.tk.o.t;have eG:QH V.IE (Zl V c).1.IE:=hR.tk.o.g;have li:=zqp wa λt t0 t1 n=>(h.sw.t t t0 t1 n).1
 have tq:Tq c (λg=>g∈QV V (Qe V c)) V (Zl V c).1:=(z20 V c0 (Qe V c)).trans (zz6 c0 (QV V (Qe V c)) hR.s1 (by rw[q6];exact c1) (λg hg=>⟨hR.pin g hg,hg⟩) hR.dr h2);have oth:∀d:Int,0<=d->d<(V.IF.length:Int)->d≠c->Sd V d:=λd d0 d1 _=>zzp iv d0 d1
 have on:z0c V c:=(zzp iv c0 c1).on
 have kK:Zf V (Qe V c):=by
  unfold Zf JR;rw[hR.line.st,hR.line.R1,List.all_eq_true.2 λx hx=>hR.line.on x hx];rfl
 have hP:∀k:Int,Q6 V.IE k->(gi V.IE k).IL.I'≠0->k∈QV V (Qe V c)->0<=c->Qv V k c:=λk hu hq hk _=>by
  have hz:k≠0:=λe=>by
   subst e;exact hq ((wa.u wa.root).2.2.root rfl).2.2
  rcases Im.1 hk with e|e
  ·have h1:=on k hu hz;unfold aK at h1;rw[hR.line.on k e] at h1;have h1:=h1.symm;rw[A'] at h1;exact h1.1
  ·exact Ir (IA.1 e) hz
 have A35:(gi (Zl V c).1.IF c).cur=Qe V c:=by rw[eC];exact q5
 have sx:=z3v wa li tq c0 oth on gv hP (by rw[A35];exact⟨hR.line.R1,kK⟩);have cu:=sx.cu (by rw[A35];exact t0);rw[A35] at cu;exact⟨hR.tk.sw,rT,Qo,Qo,c0,by rw[lT];exact c1,by rw[eC];exact q3,by rw[eC];exact hR.SX,A35,t0,t1,by rw[eG.aO,YE eT];exact hR.us,cu.1,cu.2,by rw[YE eT];exact z6y iv.wp t0 t1 (by rw[hR.line.st];decide),λd d0 d1 hd=>sx.oth d d0 d1 hd,sx.on,sx.gv⟩
structure z71 (T A:Q7) (c t n:Int):Prop where
 f:zpj T c t n A
 g:QH T.IE A.IE
 a:WA A
 c1:c<(A.IF.length:Int)
 s:Qb A=Z4 A c
 nd:(QV T t).Nodup
 pu:∀k∈QV T t,Q6 T.IE k=true
def zq9{T:Q7}{t n K S:Int}(h:z7o V T c t K S)(n0:0<=n)(n1:n<=100):z71 T (Ui T c t n) c t n:=by
 have hx:=Ee (t:=t) (n:=n) h.sw h.rb h.S0 h.c0 h.c1 h.up h.SX h.t0 h.t1 h.us n0 n1;have wa:=h.sw.a;have hp1:=(HY wa h.us).1;have nd:(QV T t).Nodup:=zs4 wa.tree _ h.us;have hf:zpj T c t n (Ui T c t n):=z7g nd λg hg=>⟨(Q2.1 (hp1 g hg)).1,(Q2.1 (hp1 g hg)).2.1⟩
 have hg:QH T.IE (Ui T c t n).IE:=hx.2.2.2.2.2.2.2.2.g;have li:=zqp wa λt t0 t1 n=>(h.sw.t t t0 t1 n).1
 have tq:=hf.tq h.c0 n0 h.R1 hg;have c1:c<((Ui T c t n).IF.length:Int):=by rw[tq.cl];exact h.c1
 have A35:(gi (Ui T c t n).IF c).cur=t:=by
  rw[hf.cp];exact(Z7 (f:=PP.cur) T.IF c (x:=Fp T c n) rfl c).trans h.cur
 have sx:=z3v wa li tq h.c0 h.oth h.on h.gv (λ_ _ _ h _=>h.elim) (by rw[A35];exact⟨h.R1,h.line⟩);refine⟨hf,hg,hx.1.a,c1,zvr hx.1 (by have:=h.K0;simp only[Qh];omega) h.c0 c1 sx,nd,hp1⟩
end
def z00{T:Q7}{c n k:Int}(c0:0<=c)(hq:(gi T.IE k).IL.I'>0)(h1:c<((gi T.IE k).IL.locals.length:Int))(n1:1<=n)(h:n<=gi (gi T.IE k).IL.locals c):gi (MZ T c n k).locals c=gi (gi T.IE k).IL.locals c-n:=by
 unfold MZ;rw[C' hq,PH c0 h1];unfold Y6;rw[B' Qo];exact(Qx _ _ c0 h1 c0).trans (C' rfl)
section
variable {W0 W1 V R:Q7}{c:Int}
def zzf{f f3:Nat}{a b:Int}(h:Md (f+1) c W0 V a)(iv:Xo V)(gv:D9 V)(ha:0<a)(hp:¬Qe V c<0)(h2:(Zl V c).2)(hM:ZV V c a=a)(hb:1<=b)(hab:a+b<=100)(hR:R=Qb (Ui (Zl V c).1 c (Qe V c) a))(ivR:Xo R)(gvR:D9 R)(C12:(gi R.IF c).SX<50)(k:Md (f3+1) c W1 R b) :
  Uk V c (a+b)=(R,b)\/(¬Qe R c<0/\Uk V c (a+b)=Uk R c b):=by
 have r1:=zzd h iv gv ha hp h2;have hk:=TO h ha hp;have hL:QV V (Qe V c)=QV (Zl V c).1 (Qe V c):=(Bl (W:=V) (W':=(Zl V c).1) hk.tk.o.t hk.tk.o.g _).symm
 have hW:∀n:Int,Uk V c n=(Qb (Ui (Zl V c).1 c (Qe V c) (ZV V c n)),n-ZV V c n):=λn=>by
  unfold Uk;rw[C' h2]
 have hMs:∀n:Int,ZV V c n=J8 (Zl V c).1 c (QV (Zl V c).1 (Qe V c)) n:=λn=>by
  unfold ZV;rw[hL]
 have c0:=r1.c0;have t0:=r1.t0;have t1:=r1.t1;clear hk hL h;generalize (Zl V c).1=T at *;generalize Qe V c=t at *;have wa:=r1.sw.a;have jF:=wa.t;have d1:=zq9 r1 (n:=a) Qo Qo
 have fl:z51 c (Ui T c t a) R:=by
  rw[hR,d1.s];exact z7i d1.a c0 d1.c1
 have pu:=d1.pu;have eS:R.IJ=T.IJ.set t.toNat (Tb T t a):=fl.f.o.t.trans d1.f.tk
 have tS:Q8 R t=Tb T t a:=by
  unfold Q8;rw[eS];exact(Qx _ _ t0 Qo t0).trans (C' rfl)
 have gS:QH T.IE R.IE:=d1.g.trans fl.f.o.g
 have pS:QV R t=QV T t:=by
  unfold QV;rw[tS,Jc gS];rfl
 have CR1:(gi R.IF c).cur=t:=by
  rw[fl.f.cs,d1.f.cp];exact(Z7 (f:=PP.cur) T.IF c (x:=Fp T c a) rfl c).trans r1.cur
 have lU:=(zqv (W:=T) (c:=c) (QV T t) a).2;rw[<-hMs a,hM] at lU
 have hlen:∀g∈QV T t,(gi T.IE g).IL.I'>0->c<((gi T.IE g).IL.locals.length:Int):=λg hg hq=>by
  rw[(wa.dl (pu g hg) Qo).2];exact r1.c1
 have bR:∀g∈QV T t,(gi R.IE g).IL=MZ T c a g:=λg hg=>by
  have g0:=(Q2.1 (pu g hg)).1;rw[fl.f.o.b g g0,d1.f.gr g g0,C' hg];rfl
 have kE:∀g∈QV T t,(gi R.IE g).IL.I'=(gi T.IE g).IL.I'/\((gi T.IE g).IL.I'>0->gi (gi R.IE g).IL.locals c=gi (gi T.IE g).IL.locals c-a):=λg hg=>by
  rw[bR g hg];exact⟨(HK T c a g).2.1,λhq=>z00 c0 hq (hlen g hg hq) Qo (lU g hg hq)⟩
 have h2M:=zsy (S:=R) (T:=T) (c:=c) (a:=a) (QV T t) b kE;rw[<-hMs (a+b)] at h2M;have hMb:=zqv (W:=R) (c:=c) (QV T t) b
 have hMn:0<=J8 R c (QV T t) b:=zyz _ _ Qo λg hg hq=>by
  have hs:=kE g hg;rw[hs.1] at hq;rw[hs.2 hq];have:=lU g hg hq;omega
 by_cases hm:1<=J8 R c (QV T t) b
 ·refine .inr ?_
  have BU9:Qe R c=t:=by
   unfold Qe;rw[C' ⟨Qo,C12⟩];exact CR1
  have hpR:¬Qe R c<0:=Qo;have c1R:=k.c1
  have Cf3:ZX R c t=R:=by
   unfold ZX Yf RO;rw[B',Ab c0 c1R];rintro (e|e)
   ·exact e CR1.symm
   ·omega
  have tkR:Zl R c=(R,true):=by
   unfold Zl;rw[BU9,pS,Cf3];refine zpb _ λg hg=>⟨(Q2.1 (pu g hg)).1,λhq=>?_⟩
   have hs:=kE g hg;have hq1:=((wa.u (pu g hg)).2.2.IL (by rw[<-hs.1];exact hq)).1.q1;have:=hMb.2 g hg (by rw[hs.1];omega);omega
  have hMR:ZV R c b=J8 R c (QV T t) b:=by
   unfold ZV;rw[tkR,BU9,pS]
  have r2:=zzd k ivR gvR Qo hpR (by rw[tkR]);rw[tkR,BU9] at r2;have dA:=zq9 r1 (n:=a+J8 R c (QV T t) b) Qo Qo;have dB:=zq9 r2 (n:=J8 R c (QV T t) b) Qo Qo
  have key:=z4v r1.sw c0 r1.c1 t0 t1 r1.R1 r1.wt pu (l:=a) (m:=J8 R c (QV T t) b) Qo hm Qo d1.f fl dB.f (z7i dB.a c0 dB.c1) dA.f (z7i dA.a c0 dA.c1) d1.g dB.g dA.g λg hg hq=>⟨hlen g hg hq,by
   have hs:=kE g hg;have:=hMb.2 g hg (by rw[hs.1];exact hq);rw[hs.2 hq] at this;omega⟩
  refine⟨hpR,?_⟩;rw[hW,h2M];unfold Uk;rw[C' (by rw[tkR]),hMR,tkR,BU9];have e1:Qb (Ui T c t (a+J8 R c (QV T t) b))=Qb (Ui R c t (J8 R c (QV T t) b)):=by rw[dA.s,dB.s,key]
  have e2:a+b-(a+J8 R c (QV T t) b)=b-J8 R c (QV T t) b:=Qo;rw[e1,e2]
 ·refine .inl ?_;have e:ZV V c (a+b)=a:=Qo;rw[hW,e,<-hR,show a+b-a=b by omega]
def z1b{X:Q7}(c0:0<=c)(c1:c<(X.IF.length:Int)):(gi (Qb (Rc X c)).IF c).cur = -1:=by
 have e:(gi (Rc X c).IF c).cur = -1:=by
  show (gi (X.IF.set c.toNat (XA (gi X.IF c))) c).cur = -1;rw[Qx _ _ c0 c1 c0,C' rfl];rfl
 rcases (zuc (Rc X c)).k c with h|h
 ·rw[h,e]
 ·exact h
def A5{b:Int}(hb:1<=b):∀(f:Nat) {f' f3:Nat} {W0 W1 W2 V:Q7} {a:Int},Md f c W0 V a->Xo V->D9 V->a+b<=100->Md f' c W1 V (a+b)->0<=(gi (PD c f V a).IF c).cur->(gi (PD c f V a).IF c).SX<50->Md f3 c W2 (PD c f V a) b->PD c f' V (a+b)=PD c f3 (PD c f V a) b
 |0,_,_,_,_,_,V,a,h,_,_,_,_,_,_,_=>by have:=h.f1;have:=h.l0;omega
 |f+1,f',f3,W0,W1,W2,V,a,h,iv,gv,hab,h',hc,hr,h3=>by
  have hK:=M3 h.f2;have hh0:(0:Int)<=Ql:=Qd;have a0:=h.l0;have c0:=h.c0;have c1:=h.c1
  by_cases hl:a<=0
  ·have e:a=0:=Qo;subst e;rw[Ph (I2 0),zfj iv gv] at h3 ⊢;rw[Int.zero_add] at h' ⊢;exact HZ f' h' h3
  ·by_cases hp:Qe V c<0
   ·rw[OP hl hp] at hc;have hlen:(RO V c (OL V c a)).IF.length=V.IF.length:=E';rw[z1b c0 (by rw[hlen];exact c1)] at hc;omega
   ·rw[UT hl hp] at hc hr h3 ⊢;have hR:=TO h Qo hp;have ivR:=ztd h iv Qo hp;obtain⟨f1,rfl⟩:∃f1,f'=f1+1:=⟨f'-1,by have:=h'.f1;omega⟩;have hR':=TO h' Qo hp;rw[UT Qo hp];have nx:=hR.nx;have nx':=hR'.nx
    by_cases h2:(Zl V c).2=true
    ·obtain⟨m1,m2⟩:=hR.m h2;have eW:Uk V c a=(Qb (Ui (Zl V c).1 c (Qe V c) (ZV V c a)),a-ZV V c a):=by unfold Uk;rw[C' h2]
     have eW':Uk V c (a+b)=(Qb (Ui (Zl V c).1 c (Qe V c) (ZV V c (a+b))),a+b-ZV V c (a+b)):=by unfold Uk;rw[C' h2]
     have gvR:D9 (Qb (Ui (Zl V c).1 c (Qe V c) (ZV V c a))):=G7 (hR.ch h2).1 (by simp only[Qh];omega);rcases zob (W:=(Zl V c).1) (c:=c) (QV V (Qe V c)) a with e|e
     ·have e:ZV V c a=a:=e;rw[eW,e] at nx ivR hc hr h3 ⊢;rw[e] at gvR;obtain⟨f2,rfl⟩:∃f2,f=f2+1:=⟨f-1,by have:=nx.f1;have:=nx.l0;omega⟩
      dsimp only at nx ivR hc hr h3 ⊢
      have eX:PD c (f2+1) (Qb (Ui (Zl V c).1 c (Qe V c) a)) (a-a)=Qb (Ui (Zl V c).1 c (Qe V c) a):=by
       rw[Ph Qo,zfj ivR gvR]
      rw[eX] at hc hr h3 ⊢;obtain⟨f4,rfl⟩:∃f4,f3=f4+1:=⟨f3-1,by have:=h3.f1;have:=h3.l0;omega⟩;rcases zzf h iv gv Qo hp h2 e hb hab rfl ivR gvR hr h3 with sR|⟨hpR,sR⟩
      ·rw[sR] at nx' ⊢;exact HZ f1 nx' h3
      ·rw[sR] at nx' ⊢;rw[UT Qo hpR];exact HZ f1 nx' (TO h3 Qo hpR).nx
     ·have e:ZV V c (a+b)=ZV V c a:=e (a+b) Qo;rw[eW',e] at nx' ⊢;rw[eW] at nx ivR hc hr h3 ⊢
      dsimp only at nx nx' ivR hc hr h3 ⊢
      rw[show a+b-ZV V c a=(a-ZV V c a)+b by omega] at nx' ⊢;exact A5 hb f nx ivR gvR Qo nx' hc hr h3
    ·have eW:∀n:Int,Uk V c n=(Qb (Rc (Zl V c).1 c),n):=λn=>by unfold Uk;rw[B' h2]
     rw[eW] at nx nx' ivR hc hr h3 ⊢;rw[eW]
     have gvR:D9 (Qb (Rc (Zl V c).1 c)):=by
      have lT:(Zl V c).1.IF.length=V.IF.length:=by
       rw[hR.tk.o.c];exact E'
      exact G7 (hR.tk.sw.Rc c0 (by rw[lT];exact c1)) Qo
     exact A5 hb f nx ivR gvR hab nx' hc hr h3
end
def zvd{W:Q7}{c n m:Int}(iv:Xo W)(gv:D9 W)(m1:1<=m)(hnm:n+m<=100)(h1:X9 W c n=0)(hc:0<=(gi (J9 W c n).IF c).cur)(hr:(gi (J9 W c n).IF c).SX<50)(h2:X9 (J9 W c n) c m=0)(h3:X9 W c (n+m)=0):J9 (J9 W c n) c m=J9 W c (n+m):=by
 have hW:Qr W:=Qm.2 iv.wp;exact(A5 m1 400 (G4 hW h1).2.2.2.2 iv gv hnm (G4 hW h3).2.2.2.2 hc hr (G4 (Qm.2 (za9 iv h1).wp) h2).2.2.2.2).symm
def zjr{c:Int}{W0:Q7}:∀(f:Nat) {V:Q7} {left:Int},Md f c W0 V left->(PD c f V left).IF.length=W0.IF.length
 |0,V,left,h=>by
  have:=h.f1;have:=h.l0;omega
 |f+1,V,left,h=>by
  have hK:=M3 h.f2;have hh0:(0:Int)<=Ql:=Qd
  by_cases hl:left<=0
  ·rw[Ph hl,(JF h.sw Qo).2.c];exact h.len
  ·by_cases hp:Qe V c<0
   ·rw[OP hl hp,(JF (zlj h).1 Qo).2.c];show (((V.IF.set c.toNat _).set c.toNat _).length)=_;rw[E',E'];exact h.len
   ·rw[UT hl hp];exact zjr f (TO h Qo hp).nx
def zvc{W:Q7}{c n m:Int}(iv:Xo W)(gv:D9 W)(lw:TW 9000000000000000 30000000 W)(c0:0<=c)(c1:c<(W.IF.length:Int))(n0:1<=n)(n1:n<=60)(m0:1<=m)(m1:m<=40){A:Q7×Int}(hA:A=Yz W (X9 W c n) (J9 W c n)) :
  A.1.IF.length=W.IF.length/\(A.2=0->0<=(gi A.1.IF c).cur->(gi A.1.IF c).SX<50->Yz A.1 (X9 A.1 c m) (J9 A.1 c m)=Yz W (X9 W c (n+m)) (J9 W c (n+m))):=by
 have hW:Qr W:=Qm.2 iv.wp;have rm:=zje iv lw Qo Qo Qo;rcases zmg hW rm c0 c1 n0 Qo with ⟨u,e⟩|⟨u,k,e⟩
 ·rw[e] at hA;subst hA;exact⟨rfl,λh=>Ir (show (6:Int)=0 from h) Qd⟩
 ·rw[e] at hA;subst hA;have ivX:=za9 iv k;have hlen:(J9 W c n).IF.length=W.IF.length:=zjr 400 (G4 hW k).2.2.2.2;refine⟨hlen,λ_ hc hr=>?_⟩;have lwX:=z2b hW lw Qo Qo Qo k;have rX:=zje ivX lwX Qo Qo Qo;have c1X:c<((J9 W c n).IF.length:Int):=by rw[hlen];exact c1
  have hWX:Qr (J9 W c n):=Qm.2 ivX.wp;have upX:=((ivX.wp.c c c0 c1X).yes hc).1;rcases zmg hW rm c0 c1 (n:=n+m) Qo Qo with ⟨u3,_⟩|⟨_,k3,e3⟩
  ·rw[u] at u3;cases u3
  ·rcases zmg hWX rX c0 c1X m0 Qo with ⟨u2,_⟩|⟨_,k2,e2⟩
   ·have upX:(gi (J9 W c n).IF c).up:=upX;rw[upX] at u2;cases u2
   ·rw[e3];show Yz (J9 W c n) (X9 (J9 W c n) c m) (J9 (J9 W c n) c m)=_;rw[e2,zvd iv gv m0 Qo k hc hr k2 k3]
def k_FnParts{a p:OA}{La Ca Lb Cb:Nat}{w:Wo}(ha:DB a La w)(hca:La<=Ca)(hp:DB p Lb w)(_:Lb<=Cb)(hg:K6 w) :
  Cz Gh #[.slice a La Ca,.slice p Lb Cb] w λe w'=>e=.returned (.bool true)/\Q0 [] w w':=by
 refine(zc2 a La Ca p Lb Cb (R:=λv w'=>v=.bool true/\Q0 [] w w') ?_).mono λe w' ⟨v,he,hv,h3⟩=>⟨by rw[he,hv],h3⟩
 obtain⟨f,hf⟩:=z36 hp;refine⟨λ_ wr hx=>⟨rfl,hx⟩,λ_ R5 S9 _=>?_⟩;refine(Nz z7j (ha.ext S9) hca).mono ?_;rintro e wv ⟨W,m,he,⟨iv,lw⟩,hM,Rk⟩;have hX0:Q0 [] w wv:=S9.trans Rk;have r0:XV [] wv W m:=hM.rd Qs;have s0:=Sc.start wv;have hl:=iv.len;have sR:=iv.wp.a.c1;have hG:∀{bs:List Nat} {w':Wo},Sc wv bs w'->K6 w':=λs=>hg.ext (hX0.trans s.ext)
 have hi0:=zw0 hf (show (0:Int)<=0 by decide);have hi1:=zw0 hf (show (0:Int)<=1 by decide);have hi2:=zw0 hf (show (0:Int)<=2 by decide);obtain⟨c0,c1⟩:=zz5 hi0.1 (show (0:Int)<((W.IF.length:Nat):Int) by omega);have n1:=zz5 hi1.1 (show (0:Int)<60 by decide);have n2:=zz5 hi2.1 (show (0:Int)<40 by decide);have hB:=hf.ext hX0;refine⟨_,_,_,_,_,_,_,_,_,_,he,Xm,λb hb=>⟨bD Lb f 0,KC hB Qo Qo,Qo,bD Lb f 1,KC hB Qo Qo,Qd,⟨Qo,Qo⟩,bD Lb f 2,KC hB Qo Qo,Qd,⟨Qo,Qo⟩,?_⟩⟩;generalize Int.tmod (bD Lb f 0) ((W.IF.length:Nat):Int)=c at c0 c1 ⊢;have i0:1<=1+Int.tmod (bD Lb f 1) 60/\1+Int.tmod (bD Lb f 1) 60<=60:=Qo;have j0:1<=1+Int.tmod (bD Lb f 2) 40/\1+Int.tmod (bD Lb f 2) 40<=40:=Qo;generalize 1+Int.tmod (bD Lb f 1) 60=i at i0 ⊢;generalize 1+Int.tmod (bD Lb f 2) 40=j at j0 ⊢;clear hi0 hi1 hi2 n1 n2 hB;intro R6 hxb V';have s1:=s0.put hxb hb;have law:=zvc (A:=Yz W (X9 W c i) (J9 W c i)) iv lw.2 (lw.1.mono Qo Qo) c0 c1 i0.1 i0.2 j0.1 j0.2 rfl;have iA:Xo (Yz W (X9 W c i) (J9 W c i)).1:=zny iv;have iZ:Xo (Yz W (X9 W c (i+j)) (J9 W c (i+j))).1:=zny iv;have kS:=λ{w':Wo} (h:XV [] w' W m)=>Gl (c:=c) (n:=i) h hl
 refine(Py (c:=c) (n:=i) (r0.sc0 s1) hl (hG s1)).mono ?_;rintro e1 Rb ⟨v,kB,nA,mA,hv,hA,cW⟩;subst hv;have s2:=s1.R7 cW;have A2:=OW.of hA V';generalize Yz W (X9 W c i) (J9 W c i)=A at *;refine⟨_,_,_,_,_,_,_,_,_,_,_,kB,Qi cW V',λb1 bY RD Rl fY=>?_⟩;have s3:=s2.put Rl bY;have A3:=A2.put Rl bY;refine(kS (r0.sc0 s3)).mono ?_;rintro e2 RI ⟨v,bH,nB,mB,hv,Wz,SQ⟩;subst hv;have s4:=s3.R7 SQ;have A4:=A3.R7 SQ;have B4:=OW.of Wz fY;have cA:c<(A.1.IF.length:Int):=by rw[law.1];exact c1
 refine⟨_,_,_,_,_,_,_,_,_,_,_,bH,Qi SQ fY,λb2 cD=>⟨true,λ_=>DM A4.rd B4.rd (zxq iA.wp.a),λq=>by simp at q,λ_=>⟨λ_=>A4.rd.c.ix Y1 c0 cA,_,λ_=>A4.rd.c.f c0 cA (j:=1) rfl,λ_=>A4.rd.c.ix Y1 c0 cA,_,λ_=>A4.rd.c.f c0 cA (j:=2) rfl,λ_ RQ Su=>⟨rfl,hX0.trans (s4.step Su).ext⟩,λq Sj bE hs6=>?_⟩⟩⟩;simp only[H',bne_eq_false_iff_eq,decide_eq_false_iff_not] at q;have q0:0<=(gi A.1.IF c).cur:=Int.not_lt.1 q.1.2;have q2:(gi A.1.IF c).SX<50:=Int.not_le.1 q.2;have key:=law.2 q.1.1 q0 q2;have s7:=s4.put bE cD;have A7:=A4.put bE cD;have kY:=Py (c:=c) (n:=j) A7.rd0 iA.len (hG s7);rw[key] at kY;refine kY.mono ?_;clear kY key law q q0 q2;rintro e3 S3 ⟨v,gD,nY,mY,hv,fX,eD⟩;subst hv;have s8:=s7.R7 eD;have Y8:=OW.of fX hs6;refine⟨_,_,_,_,_,_,_,_,_,_,_,gD,Qi eD hs6,λb3 qS=>⟨⟨Qo,Qo⟩,λSw eQ sH=>?_⟩⟩;have s9:=s8.put eQ qS;have Y9:=Y8.put eQ qS;refine(Py (c:=c) (n:=i+j) (r0.sc0 s9) hl (hG s9)).mono ?_;rintro e4 bG ⟨v,he4,nZ,mZ,hv,cM,iD⟩;subst hv;have s10:=s9.R7 iD;have Y10:=Y9.R7 iD;have Z10:=OW.of cM sH;refine⟨_,_,_,_,_,_,_,_,_,_,_,he4,Qi iD sH,λb4 _=>⟨true,λ_=>DM Y10.rd Z10.rd (zxq iZ.wp.a),λSZ sV=>⟨Qs,hX0.trans (s10.step sV).ext⟩⟩⟩
end Go.Proofs.YtjinkcmkgnofjaaGreatDoor
