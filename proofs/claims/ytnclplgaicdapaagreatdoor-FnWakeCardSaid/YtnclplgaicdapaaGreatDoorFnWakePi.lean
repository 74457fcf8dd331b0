/- Part 9 of what the law FnWake needs. -/
import Derived.Test.YtnclplgaicdapaaGreatDoorFnWakePh
set_option linter.unusedVariables false
set_option linter.unusedSimpArgs false
set_option maxRecDepth 100000
set_option maxHeartbeats 8000000
namespace Go.Proofs.YtnclplgaicdapaaGreatDoor
open Go.RowKit
theorem zwv{F K:Int}{W:Q8}(h:SF F K W)(hk:F+Qj<=K){k c d:Int}(hu:Q7 W.IC k=true)(hd:dep 3 W.IC k=d)(d1:1<=d)(c0:0<=c)(c1:c<(W.ID.length:Int)):SF F K (RF W k c (ZZ W k c)):=by
 have hz:k≠0:=λe=>by subst e; rw[Y6] at hd; omega
 have hp:=h.w.a.up hu hz;have s1:=h.w.s k c hu c0 c1;have s2:=h.w.s _ c hp c0 c1;have f1:=h.f k c hu c0 c1;have f2:=h.f _ c hp c0 c1;have lc:=ZY ((Qc W k c).v-(Qc W (gi W.IC k).parent c).floor) (Qc W k c).w;have lm:=Yb (Qc W k c).w;refine h.RF hu c0 c1 s1.1 f1 (by show (Qc W k c).floor<=K; omega) ?_ ?_ s1.2.2.2.2.1 s1.2.2.2.2.2
 ·simp only[ZZ]; split <;> omega
 ·simp only[ZZ]; simp only[Qj] at hk; split <;> omega
structure UH (W W':Q8):Prop where
 n:W'.now=W.now
 c:W'.ID=W.ID
 t:W'.tasks=W.tasks
 g:Z7 W.IC W'.IC
 b:∀i:Int,0<=i->(gi W'.IC i).IS=(gi W.IC i).IS
 l:∀i:Int,0<=i->(gi W'.IC i).IE.length=(gi W.IC i).IE.length
theorem UH.refl(W:Q8):UH W W:=⟨rfl,rfl,rfl,Z7.refl _,λ_ _=>rfl,λ_ _=>rfl⟩
theorem UH.trans{A B C:Q8}(h:UH A B)(k:UH B C):UH A C:=⟨k.n.trans h.n,k.c.trans h.c,k.t.trans h.t,h.g.trans k.g,λi hi=>(k.b i hi).trans (h.b i hi),λi hi=>(k.l i hi).trans (h.l i hi)⟩
theorem Tm{W:Q8}{g c:Int}{s:GO}(h0:0<=g)(h1:g<(W.IC.length:Int)):UH W (RF W g c s):=⟨rfl,rfl,rfl,Jm h0 h1,λ_ hi=>zi4 h0 h1 hi,λ_ hi=>zj4 h0 h1 hi⟩
theorem Bz{F K:Int}{W:Q8}(h:SF F K W)(hk:F+Qj<=K){c d:Int}(d1:1<=d)(c0:0<=c)(c1:c<(W.ID.length:Int)):∀k:Nat,k<=8->SF F K (Zq W c d k)/\UH W (Zq W c d k)
 | 0,_=>⟨h,UH.refl _⟩
 | k+1,hk8=>by
  obtain⟨ih,io⟩:=Bz h hk (d:=d) d1 c0 c1 k Qo;have hl:=ih.w.a.gl;simp only[Zq];split
  ·rename_i hc;have hu:Q7 (Zq W c d k).IC (k:Int)=true:=Q4.2 ⟨Qo,Qo,hc.1⟩;exact⟨zwv ih hk hu hc.2 d1 c0 (by rw[io.c]; exact c1),io.trans (Tm Qo Qo)⟩
  ·exact⟨ih,io⟩
theorem Dd{F K:Int}{W:Q8}(h:SF F K W)(hk:F+Qj<=K){c:Int}(c0:0<=c)(c1:c<(W.ID.length:Int)):∀j:Nat,j<=3->SF F K (Xd W c j)/\UH W (Xd W c j)
 | 0,_=>⟨h,UH.refl _⟩
 | j+1,hj=>by
  obtain⟨a1,b1⟩:=Dd h hk c0 c1 j Qo;obtain⟨a2,b2⟩:=Bz a1 hk (c:=c) (d:=3-(j:Int)) Qo c0 (by rw[b1.c]; exact c1) 8 Qo;exact⟨a2,b1.trans b2⟩
theorem Dc{F K:Int}{W:Q8}(h:SF F K W)(hk:F+Qj<=K){c:Int}(c0:0<=c)(c1:c<(W.ID.length:Int)):SF F K (QJ W c)/\UH W (QJ W c):=Dd h hk c0 c1 3 (I7 _)
def Yl(W:Q8):Nat->Q8
 | 0=>W
 | c+1=>QJ (Yl W c) (c:Int)
theorem OV{F K:Int}{W:Q8}(h:SF F K W)(hk:F+Qj<=K):∀c:Nat,c<=W.ID.length->SF F K (Yl W c)/\UH W (Yl W c)
 | 0,_=>⟨h,UH.refl _⟩
 | c+1,hc=>by
  obtain⟨a,b⟩:=OV h hk c Qo;obtain⟨a2,b2⟩:=Dc a hk (c:=(c:Int)) Qo (by rw[b.c]; omega);exact⟨a2,b.trans b2⟩
def YG(b:Vv)(c:Int):Vv:={ b with Rx:=b.Rx+gi b.locals c,locals:=b.locals.set c.toNat 0,Rz:=if b.Rx+gi b.locals c>0 then List.replicate b.Rz.length false else b.Rz }
theorem N4(l:List Int)(c:Int)(x:Int)(c0:0<=c)(c1:c<(l.length:Int)):∀k:Nat,VH (l.set c.toNat x) k=VH l k+if c<(k:Int) then x-gi l c else 0
 | 0=>by simp only[VH]; rw[B' Qo]; omega
 | k+1=>by
  simp only[VH];rw[N4 l c x c0 c1 k,QO _ _ c0 c1 Qo]
  by_cases e:c=(k:Int)
  ·subst e;rw[B' Qo,C' rfl,C' Qo]; omega
  ·rw[B' e]
   by_cases h:c<(k:Int)
   ·rw[C' h,C' Qo]; omega
   ·rw[B' h,B' Qo]; omega
theorem zmt{l:List Int}(h:∀c:Int,0<=c->c<(l.length:Int)->0<=gi l c){c:Int}(c0:0<=c):∀k:Nat,k<=l.length->0<=VH l k/\(c<(k:Int)->gi l c<=VH l k)
 | 0,_=>by simp only[VH]; exact⟨Qo,λh=>by omega⟩
 | k+1,hk=>by
  have ih:=zmt h c0 k Qo;have:=h (k:Int) Qo Qo;simp only[VH];refine⟨Qo,λhc=>?_⟩
  by_cases e:c=(k:Int)
  ·subst e; omega
  ·have:=ih.2 Qo; omega
theorem MV{α:Type}[Inhabited α](n:Nat)(x:α){i:Int}(h0:0<=i)(h1:i<(n:Int)):gi (List.replicate n x) i=x:=by
 obtain⟨k,rfl⟩:=Int.eq_ofNat_of_zero_le h0;rw[Tj (by simp; omega)]; simp
theorem zwe{b:Vv}(h:Pg b){c:Int}(c0:0<=c)(c1:c<(b.locals.length:Int))(hp:0<gi b.locals c):Pg (YG b c)/\(YG b c).locals.length=b.locals.length/\(YG b c).IX=b.IX:=by
 have hs:=N4 b.locals c 0 c0 c1 b.locals.length;rw[C' c1] at hs;have hn:=zmt (λd d0 d1=>(h.each d d0 d1).1) c0 b.locals.length (I7 _);have hn2:=hn.2 c1;have p1:=h.p1;have s1:=h.s1;have su:=h.sum;have Bh3:b.Rx+gi b.locals c>0:=Qo;refine⟨⟨h.q1,h.q2,?_,?_,?_,?_,?_,h.s1,h.s2,λd d0 d1=>?_,?_⟩,by simp[YG],rfl⟩
 ·simp only[YG,E']; exact h.l1
 ·simp only[YG,E']; exact h.l2
 ·simp only[YG]; rw[C' Bh3]; simp[h.dl]
 ·simp only[YG]; omega
 ·simp only[YG]; omega
 ·simp only[YG,E'] at d1 ⊢;have hd:=h.dl;have he:=h.each d d0 d1;rw[C' Bh3,MV _ _ d0 Qo,QO _ _ c0 c1 d0];have:=h.q1;refine⟨?_,?_,λh=>by cases h⟩
  ·split <;> omega
  ·split <;> omega
 ·simp only[YG,E'];rw[hs]; omega
def ZV(W:Q8)(k:Int):Nat->Q8
 | 0=>W
 | c+1=>if gi (gi (ZV W k c).IC k).IS.locals (c:Int)>0/\QX (ZV W k c) k (c:Int)=false then RL (ZV W k c) k (YG (gi (ZV W k c).IC k).IS (c:Int)) else ZV W k c
def Yg(W:Q8):Nat->Q8
 | 0=>W
 | k+1=>if (gi (Yg W k).IC (k:Int)).used=true/\(gi (Yg W k).IC (k:Int)).IS.IX≠0 then ZV (Yg W k) (k:Int) (Yg W k).ID.length else Yg W k
def Gc(W:Q8):Q8:=Yg W 8
structure Tv (W W':Q8):Prop where
 n:W'.now=W.now
 c:W'.ID=W.ID
 t:W'.tasks=W.tasks
 g:Z7 W.IC W'.IC
 s:∀i:Int,0<=i->(gi W'.IC i).IE=(gi W.IC i).IE
theorem Tv.refl(W:Q8):Tv W W:=⟨rfl,rfl,rfl,Z7.refl _,λ_ _=>rfl⟩
theorem Tv.trans{A B C:Q8}(h:Tv A B)(k:Tv B C):Tv A C:=⟨k.n.trans h.n,k.c.trans h.c,k.t.trans h.t,h.g.trans k.g,λi hi=>(k.s i hi).trans (h.s i hi)⟩
theorem Aj{W:Q8}{g:Int}{b:Vv}(h0:0<=g)(h1:g<(W.IC.length:Int)):Tv W (RL W g b):=⟨rfl,rfl,rfl,Uj h0 h1 rfl rfl rfl,λi hi=>by
 unfold RL;rw[Xo h0 h1 hi];split
 ·rename_i e; subst e; rfl
 ·rfl⟩
theorem SF.A21{F K:Int}{W W':Q8}(h:SF F K W)(ho:Tv W W')(ha:WA W'):SF F K W':=by
 have e:∀k c:Int,Q7 W'.IC k=true->Qc W' k c=Qc W k c:=λk c hu=>by unfold Qc; rw[ho.s k (Q4.1 hu).1]
 have et:∀t:Int,Q6 W' t=Q6 W t:=λt=>by unfold Q6; rw[ho.t]
 refine⟨⟨ha,λt a b n=>?_,λt a b=>by rw[et]; exact h.w.tv t a b,λk c u a b=>?_,λc a b=>?_⟩,λk c u a b=>?_⟩
 ·rw[et] at n ⊢; rw[ho.g.eB,ho.c]; exact h.w.t t a b n
 ·rw[e k c u]; rw[ho.g.eB] at u; rw[ho.c] at b; exact h.w.s k c u a b
 ·rw[ho.c] at b ⊢; exact h.w.cu c a b
 ·rw[e k c u]; rw[ho.g.eB] at u; rw[ho.c] at b; exact h.f k c u a b
theorem WA.RL{W:Q8}(ha:WA W){g:Int}{b:Vv}(hu:Q7 W.IC g=true)(hq:(gi W.IC g).IS.IX≠0)(hb:Pg b)(hl:b.locals.length=W.ID.length)(he:b.IX=(gi W.IC g).IS.IX):WA (RL W g b):=by
 obtain⟨u0,u1,hg⟩:=ha.u hu;have hb0:=hg.IS hq;refine ha.set u0 u1 rfl rfl rfl (λhn=>?_) λ_=>⟨hg.w1,hg.w2,hg.m,hg.m0,hg.s,hg.len,λh=>⟨(hg.root h).1,(hg.root h).2.1,by show b.IX=0; rw[he]; exact(hg.root h).2.2⟩,λh=>Ir (he.symm.trans h) hq,λ_=>⟨hb,hl,hb0.2.2⟩⟩
 have:(gi W.IC g).used=false:=hn;rw[(Q4.1 hu).2.2] at this;cases this
theorem Hi{F K:Int}{W:Q8}(h:SF F K W){k:Int}(hu:Q7 W.IC k=true)(hq:(gi W.IC k).IS.IX≠0):∀c:Nat,c<=W.ID.length->SF F K (ZV W k c)/\Tv W (ZV W k c)/\(gi (ZV W k c).IC k).IS.IX≠0
 | 0,_=>⟨h,Tv.refl _,hq⟩
 | c+1,hc=>by
  obtain⟨a,b,q⟩:=Hi h hu hq c Qo;simp only[ZV];split
  ·rename_i uH;have hu':Q7 (ZV W k c).IC k=true:=by rw[b.g.eB]; exact hu
   obtain⟨u0,u1,hg⟩:=a.w.a.u hu';have hb:=hg.IS q;have hl:=a.w.a.gl;have tL:(ZV W k c).ID.length=W.ID.length:=by rw[b.c]
   obtain⟨g1,g2,g3⟩:=zwe hb.1 (c:=(c:Int)) Qo Qo uH.1;have ho:=Aj (W:=ZV W k c) (b:=YG (gi (ZV W k c).IC k).IS (c:Int)) u0 Qo;refine⟨a.A21 ho (a.w.a.RL hu' q g1 (by rw[g2,hb.2.1]) g3),b.trans ho,?_⟩;show (gi (Rm _ k _).IC k).IS.IX≠0;rw[Xo u0 Qo u0,C' rfl];exact λe=>q (by rw[<-g3]; exact e)
  ·exact⟨a,b,q⟩
theorem TW{F K:Int}{W:Q8}(h:SF F K W):∀k:Nat,k<=8->SF F K (Yg W k)/\Tv W (Yg W k)
 | 0,_=>⟨h,Tv.refl _⟩
 | k+1,hk=>by
  obtain⟨a,b⟩:=TW h k Qo;simp only[Yg];split
  ·rename_i hc;have hl:=a.w.a.gl;obtain⟨a2,b2,_⟩:=Hi a (k:=(k:Int)) (Q4.2 ⟨Qo,Qo,hc.1⟩) hc.2 _ (I7 _);exact⟨a2,b.trans b2⟩
  ·exact⟨a,b⟩
def ER(W:Q8)(k c:Int):GO:={ Qc W k c with floor:=Z6 W k c 20 }
def QT(W:Q8)(c:Int):Nat->Q8
 | 0=>W
 | k+1=>if (gi (QT W c k).IC (k:Int)).used=true/\Zy (QT W c k) (k:Int) c 20=true/\Z6 (QT W c k) (k:Int) c 20>(Qc (QT W c k) (k:Int) c).floor then RF (QT W c k) (k:Int) c (ER (QT W c k) (k:Int) c) else QT W c k
def Zc(W:Q8)(c:Int):Q8:=QT W c 8
theorem zc2{K:Int}{W:Q8}(h:SW K W){k c:Int}(c0:0<=c)(c1:c<(W.ID.length:Int))(hK:0<=K):0<=Z6 W k c 20/\Z6 W k c 20<=K:=by
 unfold Z6;split
 ·omega
 ·rename_i hn;have hl:=h.a.gl;rcases Zv (Zr W k c) (Zl W c) 20 with h1 | h1
  ·omega
  ·obtain⟨j,hj⟩:∃j:Nat,Z0 (Zr W k c) (Zl W c) 20=(j:Int):=⟨(Z0 (Zr W k c) (Zl W c) 20).toNat,Qo⟩;rw[hj,Ig] at h1 ⊢;have hp:=h1.2.2.1;unfold Zl
   by_cases h12:j<12
   ·rw[C' h12];exact h.tv (j:Int) Qo Qo
   ·rw[B' h12];unfold Zr at hp;rw[B' h12] at hp;unfold Jy at hp;simp only[A'] at hp;have hu:Q7 W.IC ((j-12:Nat):Int)=true:=Q4.2 ⟨Qo,Qo,hp.1.2.1⟩;have:=h.s _ c hu c0 c1;omega
theorem Mw{K:Int}{W:Q8}(h:SW K W)(hK:0<=K){c:Int}(c0:0<=c)(c1:c<(W.ID.length:Int)):∀k:Nat,k<=8->SW K (QT W c k)/\UH W (QT W c k)
 | 0,_=>⟨h,UH.refl _⟩
 | k+1,hk=>by
  obtain⟨a,b⟩:=Mw h hK c0 c1 k Qo;have hl:=a.a.gl;have tU:c<((QT W c k).ID.length:Int):=by rw[b.c]; exact c1
  simp only[QT];split
  ·rename_i hc;have hu:Q7 (QT W c k).IC (k:Int)=true:=Q4.2 ⟨Qo,Qo,hc.1⟩;have s1:=a.s _ c hu c0 tU;have br:=zc2 a (k:=(k:Int)) c0 tU hK;exact⟨(a.sf.RF (s:=ER (QT W c k) (k:Int) c) hu c0 tU br.1 br.2 br.2 s1.2.2.1 s1.2.2.2.1 s1.2.2.2.2.1 s1.2.2.2.2.2).w,b.trans (Tm Qo Qo)⟩
  ·exact⟨a,b⟩
def Js(x:KV):KV:={ x with cur := -1,WV:=0 }
def Rp(W:Q8)(c:Int):Q8:=Se W c (Js (gi W.ID c))
theorem zs4{cs mL:List KV}:∀k:Nat,(∀j:Nat,j<k->(gi mL (j:Int)).up=(gi cs (j:Int)).up)->VI mL k=VI cs k
 | 0,_=>rfl
 | k+1,h=>by simp only[VI]; rw[zs4 k λj hj=>h j Qo,h k Qo]
theorem zmv{cs mL:List KV}(hl:mL.length=cs.length)(h:∀j:Nat,j<cs.length->(gi mL (j:Int)).up=(gi cs (j:Int)).up):Ue mL=Ue cs:=by
 unfold Ue;rw[hl];exact zs4 _ h
theorem WA.cp{W:Q8}(ha:WA W){cs:List KV}(hl:cs.length=W.ID.length)(hu:Ue cs≠0):WA { W with ID:=cs }:=
 ⟨ha.n1,ha.n2,by show 1<=cs.length; rw[hl]; exact ha.c1,by show cs.length<=4; rw[hl]; exact ha.c2,ha.t,ha.tree,hu,λk a b=>by
  have:=ha.grp k a b;refine⟨this.1,λhu=>?_⟩;have hg:=this.2 hu
  exact⟨hg.w1,hg.w2,hg.m,hg.m0,hg.s,by show (gi W.IC k).IE.length=cs.length; rw[hl]; exact hg.len,hg.root,hg.none,λq=>by
   have:=hg.IS q;exact⟨this.1,by show (gi W.IC k).IS.locals.length=cs.length; rw[hl]; exact this.2.1,this.2.2⟩⟩⟩
theorem SW.Rp{K:Int}{W:Q8}(h:SW K W){c:Int}(c0:0<=c)(c1:c<(W.ID.length:Int)):SW K (Rp W c):=by
 have hl:(W.ID.set c.toNat (Js (gi W.ID c))).length=W.ID.length:=E';have hg:∀d:Int,0<=d->gi (W.ID.set c.toNat (Js (gi W.ID c))) d=if c=d then Js (gi W.ID c) else gi W.ID d:=λd d0=>QO _ _ c0 c1 d0
 refine⟨h.a.cp hl ?_,λt a b n=>?_,h.tv,λk d u a b=>?_,λd a b=>?_⟩
 ·rw[zmv hl λj hj=>?_]
  ·exact h.a.ups
  ·rw[hg _ Qo];split
   ·rename_i e; rw[e]; rfl
   ·rfl
 ·show _/\_/\_<(((W.ID.set c.toNat (Js (gi W.ID c))).length:Nat):Int);rw[hl];exact h.t t a b n
 ·have b:d<(((W.ID.set c.toNat (Js (gi W.ID c))).length:Nat):Int):=b;rw[hl] at b;exact h.s k d u a b
 ·have b:d<(((W.ID.set c.toNat (Js (gi W.ID c))).length:Nat):Int):=b;rw[hl] at b;show _<=(gi (W.ID.set c.toNat (Js (gi W.ID c))) d).cur/\_;rw[show (gi (YtnclplgaicdapaaGreatDoor.Rp W c).ID d).cur=(gi (W.ID.set c.toNat (Js (gi W.ID c))) d).cur from rfl,hg _ a];split
  ·exact⟨I2 _,show (-1:Int)<12 by decide⟩
  ·exact h.cu d a b
def MX(W:Q8)(c:Int):Bool:=decide ((gi W.ID c).cur>=0)&&(((Q6 W (gi W.ID c).cur).J' != c) || !ZL W (gi W.ID c).cur)
def VG(W:Q8)(c:Int):Q8:=if MX (Zc (QJ W c) c) c=true then Rp (Zc (QJ W c) c) c else Zc (QJ W c) c
def Jg(W:Q8):Nat->Q8
 | 0=>W
 | c+1=>VG (Jg W c) (c:Int)
def Qh(W:Q8):Q8:=Jg (Gc (Yl W W.ID.length)) W.ID.length
structure Fr (W W':Q8):Prop where
 n:W'.now=W.now
 c:W'.ID.length=W.ID.length
 t:W'.tasks=W.tasks
 g:Z7 W.IC W'.IC
theorem Fr.refl(W:Q8):Fr W W:=⟨rfl,rfl,rfl,Z7.refl _⟩
theorem Fr.trans{A B C:Q8}(h:Fr A B)(k:Fr B C):Fr A C:=⟨k.n.trans h.n,k.c.trans h.c,k.t.trans h.t,h.g.trans k.g⟩
theorem UH.fr{W W':Q8}(h:UH W W'):Fr W W':=⟨h.n,by rw[h.c],h.t,h.g⟩
theorem Tv.fr{W W':Q8}(h:Tv W W'):Fr W W':=⟨h.n,by rw[h.c],h.t,h.g⟩
theorem zdv(W:Q8)(c:Int):Fr W (Rp W c):=⟨rfl,E',rfl,Z7.refl _⟩
theorem zx2{K:Int}{W:Q8}(h:SW K W)(hK:0<=K){c:Int}(c0:0<=c)(c1:c<(W.ID.length:Int)):SW (K+Qj) (VG W c)/\Fr W (VG W c):=by
 obtain⟨a1,b1⟩:=Dc (F:=K) (K:=K+Qj) (h.sf.mono (I2 _) (by simp only[Qj]; omega)) (I2 _) c0 c1;obtain⟨a2,b2⟩:=Mw a1.w (by simp only[Qj]; omega) c0 (c:=c) (by rw[b1.c]; exact c1) 8 Qo;have hf:=b1.fr.trans b2.fr;unfold VG;split
 ·exact⟨SW.Rp a2 c0 (by show c<((QT (QJ W c) c 8).ID.length:Int); rw[hf.c]; exact c1),hf.trans (zdv _ _)⟩
 ·exact⟨a2,hf⟩
theorem Lu{K:Int}{W:Q8}(h:SW K W)(hK:0<=K):∀c:Nat,c<=W.ID.length->SW (K+(c:Int)*Qj) (Jg W c)/\Fr W (Jg W c)
 | 0,_=>⟨h.mono Qs,Fr.refl _⟩
 | c+1,hc=>by
  obtain⟨a,b⟩:=Lu h hK c Qo;obtain⟨a2,b2⟩:=zx2 a (by simp only[Qj]; omega) (c:=(c:Int)) Qo (by rw[b.c]; omega);exact⟨a2.mono (by simp only[Qj]; omega),b.trans b2⟩
abbrev Vu:Int:=5*Qj
theorem P2{K:Int}{W:Q8}(h:SW K W)(hK:0<=K):SW (K+Vu) (Qh W)/\Fr W (Qh W):=by
 obtain⟨a1,b1⟩:=OV (F:=K) (K:=K+Qj) (h.sf.mono (I2 _) (by simp only[Qj]; omega)) (I2 _) W.ID.length (I7 _);obtain⟨a2,b2⟩:=TW a1 8 Qo;have hf:=b1.fr.trans b2.fr;obtain⟨a3,b3⟩:=Lu a2.w (by simp only[Qj]; omega) W.ID.length (by show W.ID.length<=(Yg (Yl W W.ID.length) 8).ID.length; rw[hf.c]; exact I7 _);have:=h.a.c2;exact⟨a3.mono (by simp only[Qj,Vu]; omega),hf.trans b3⟩
abbrev Qq:Int:=50000000000000000
structure Ga (W:Q8):Prop where
 n:W.now<=Qq
 c:∀c:Int,0<=c->c<(W.ID.length:Int)->(gi W.ID c).busy<=Qq/\(gi W.ID c).idle<=Qq
 t:∀t:Int,0<=t->t<(W.tasks.length:Int)->(gi W.tasks t).v<=Qq/\(gi W.tasks t).sum<=Qq/\(gi W.tasks t).used<=Qq
 g:∀k:Int,0<=k->k<(W.IC.length:Int)->(gi W.IC k).sum<=Qq
 s:∀k c:Int,0<=k->k<(W.IC.length:Int)->0<=c->c<((gi W.IC k).IE.length:Int)->(Qc W k c).floor<=Qq/\(Qc W k c).v<=Qq/\(Qc W k c).sum<=Qq
noncomputable def QK(W:Q8):Bool:=Ul (Ga W)
theorem Mi{W:Q8}(wp:Jq W)(r:Ga W):SW Qq W:=by
 have ht:=wp.a.t;have hg:=wp.a.gl;refine⟨wp.a,λt t0 t1 n=>?_,λt t0 t1=>?_,λk c u c0 c1=>?_,λc c0 c1=>?_⟩
 ·rcases wp.t t t0 t1 with h | h
  ·exact Ir h.1 n
  ·exact⟨h.2.g,KE wp.a h.2.c⟩
 ·refine⟨?_,(r.t t t0 Qo).1⟩;rcases wp.t t t0 t1 with h | h
  ·rw[h.2]; exact I2 _
  ·exact(YV.1 h.2.v).1
 ·obtain⟨u0,u1,_⟩:=Q4.1 u;have hl:=wp.a.sl u;have hs:=wp.s k c u0 Qo c0 Qo;have hr:=r.s k c u0 u1 c0 Qo;exact⟨(YV.1 hs.f).1,hr.1,(YV.1 hs.v).1,hr.2.1,hs.w1,hs.w2⟩
 ·have hc:=wp.c c c0 c1;have h1:=hc.c1;have h2:=hc.c2;omega
theorem WA.tk{W:Q8}(ha:WA W){ts:List KW}(hl:ts.length=W.tasks.length):WA { W with tasks:=ts }:=
 ⟨ha.n1,ha.n2,ha.c1,ha.c2,by show ts.length=12; rw[hl]; exact ha.t,ha.tree,ha.ups,λk a b=>by
  have:=ha.grp k a b;refine⟨this.1,λhu=>?_⟩;have hg:=this.2 hu;exact⟨hg.w1,hg.w2,hg.m,hg.m0,hg.s,hg.len,hg.root,hg.none,hg.IS⟩⟩
theorem SW.IM{K:Int}{W:Q8}(h:SW K W){t:Int}(t0:0<=t)(t1:t<12){x:KW}(hx:x.state≠0->Q7 W.IC x.group=true/\0<=x.J'/\x.J'<(W.ID.length:Int))(v0:0<=x.v)(v1:x.v<=K):SW K (IM W t x):=by
 have hl:=h.a.t;have e:∀i:Int,0<=i->Q6 (YtnclplgaicdapaaGreatDoor.IM W t x) i=if t=i then x else Q6 W i:=λi i0=>QO _ _ t0 Qo i0
 refine⟨h.a.tk E',λi a b n=>?_,λi a b=>?_,h.s,h.cu⟩
 ·rw[e i a] at n ⊢;split
  ·rename_i he; rw[C' he] at n; exact hx n
  ·rename_i he; rw[B' he] at n; exact h.t i a b n
 ·rw[e i a];split
  ·exact⟨v0,v1⟩
  ·exact h.tv i a b
def Kw:Q8:=⟨0,[],[],[]⟩
def zym:MW:=⟨none,0,none,0,none,0,λ_=>⟨none,0,none,0,none,0⟩⟩
noncomputable def Yv(W:Q8)(bar:Int)(W':Q8):Q8×Int:=if QB W=false then (Kw,1) else if bar≠0 then (W,bar) else (W',0)
theorem zku{W W':Q8}{bar:Int}(h:QB W=false):Yv W bar W'=(Kw,1):=C' h
theorem zbl{W W':Q8}{bar:Int}(h:QB W=true)(hb:bar≠0):Yv W bar W'=(W,bar):=by unfold Yv; rw[B' (by rw[h]; decide),C' hb]
theorem zkv{W W':Q8}{bar:Int}(h:QB W=true)(hb:bar=0):Yv W bar W'=(W',0):=by unfold Yv; rw[B' (by rw[h]; decide),B' (by simpa using hb)]
def Z4(W:Q8)(t:Int):Bool:=X6 t 0 ((W.tasks.length:Int)-1)&&((Q6 W t).state != 0)
theorem Y0{W:Q8}{t:Int}(h:Z4 W t=true):0<=t/\t<(W.tasks.length:Int)/\(Q6 W t).state≠0:=by
 unfold Z4 at h;simp only[A',It,ne_eq] at h;have:=Qx.1 h.1;exact⟨Qo,Qo,h.2⟩
noncomputable def Tx(W:Q8)(t:Int):Int:=if Z4 W t=false then 2 else if (Q6 W t).state≠1 then 6 else if QK W=false then 10 else 0
def zk2(W:Q8)(t:Int):Q8:=Qh (IM W t { Q6 W t with state:=2 })
theorem zm7{W:Q8}{t:Int}(hW:QB W=true)(hb:Tx W t=0):Z4 W t=true/\(Q6 W t).state=1/\SW Qq W/\SW Qq (IM W t { Q6 W t with state:=2 }):=by
 have wp:=Qm.1 hW;unfold Tx at hb
 split at hb
 ·cases hb
 ·rename_i h1
  split at hb
  ·cases hb
  ·rename_i h2
   split at hb
   ·cases hb
   ·rename_i h3;have h1:Z4 W t=true:=by simpa using h1
    have h2:(Q6 W t).state=1:=by simpa using h2
    have h3:QK W=true:=by simpa using h3
    have sw:=Mi wp (Qm.1 h3);obtain⟨t0,t1,n⟩:=Y0 h1;have hl:=wp.a.t;have hv:=sw.tv t t0 Qo;exact⟨h1,h2,sw,sw.IM t0 Qo (λ_=>sw.t t t0 Qo n) hv.1 hv.2⟩
theorem Vi.same{α:Type}{enc:α->List Va}{z:Nat}{ty:TypeId}{base:Nat}{w:Wo}{o:OA}{cap:Nat}{l l':List α}(h:Vi enc z ty base w o cap l)(he:l'.flatMap enc=l.flatMap enc)(hl:l'.length=l.length):Vi enc z ty base w o cap l':=by
 rcases h with ⟨h1,rfl,h3⟩ | ⟨b,sp,rfl,h1,h2,h3,h4⟩
 ·exact .inl ⟨h1,List.eq_nil_of_length_eq_zero hl,h3⟩
 ·exact .inr ⟨b,sp,rfl,h1,by rw[he]; exact h2,by rw[he]; exact h3,Qo⟩
theorem E7{α:Type}{enc:α->List Va}:∀(l:List α) (i:Nat) (x:α),(∀y,l[i]? = some y->enc x=enc y)->(l.set i x).flatMap enc=l.flatMap enc
 | [],_,_,_=>rfl
 | y::r,0,x,h=>by simp only[List.set_cons_zero,List.flatMap_cons]; rw[h y rfl]
 | y::r,i+1,x,h=>by
  simp only[List.set_cons_succ,List.flatMap_cons];rw[E7 r i x λz hz=>h z (by simpa using hz)]
theorem z1y{α:Type}[Inhabited α]{l:List α}{i:Int}(h0:0<=i)(hi:i<(l.length:Int)):l[i.toNat]? = some (gi l i):=by
 obtain⟨k,rfl⟩:=Int.eq_ofNat_of_zero_le h0;rw[Ig];exact zzd Qo
section
variable {base:Nat}{w w':Wo}{o:OA}{cap:Nat}{ps:List (ZX×MG)}
theorem LA.BH9{α:Type}{enc:α->List Va}{z:Nat}{ty:TypeId}{aH rW:Nat}{o':OA}{l:List α}(h:LA base w o cap ps)(h':Vi enc z ty aH w o' rW l)(n1:QW≠ty)(n2:Qa≠ty)(n3:Yd≠ty)(n4:X5≠ty)(hx:Q0 (QM o') w w'):LA base w' o cap ps:=
 ⟨h.row.ext hx (h.row.SU h' n1),λi a b=>(h.each i a b).ext hx λx hm=>by
  simp only[Qv,Im] at hm;rcases hm with (hm | hm) | hm
  ·exact(h.each i a b).loc.SU h' n2 x hm
  ·exact(h.each i a b).Rz.SU h' n3 x hm
  ·exact(h.each i a b).shl.SU h' n4 x hm,h.dj⟩
theorem LA.R5(h:LA base w o cap ps){i:Int}(h0:0<=i)(hi:i<(ps.length:Int)){p:ZX×MG}(hp:Mj base w p)(hd:∀j:Int,0<=j->j<(ps.length:Int)->i≠j->∀b∈Qv (gi ps j).2,b∉Qv p.2){j:Nat}{vs:List Va}(he:Oz p=(Oz (gi ps i)).take j++vs++(Oz (gi ps i)).drop (j+vs.length))(hj:j+vs.length<=14):LA base (YtnclplgaicdapaaGreatDoor.R5 w o (Int.toNat i*14+j) vs) o cap (ps.set i.toNat p):=by
 have hx:=h.row.sV (Int.toNat i*14+j) vs;have hlen:(ps.set i.toNat p).length=ps.length:=E';refine⟨h.row.R5 Yy.len h0 hi he hj,λk hk tY=>?_,λa k ha hal hk tY hak b hb iO=>?_⟩
 ·rw[hlen] at tY;rw[QO _ _ h0 hi hk];split
  ·exact hp.ext hx (JQ h.row hp)
  ·exact(h.each k hk tY).ext hx (JQ h.row (h.each k hk tY))
 ·rw[hlen] at hal tY;rw[QO _ _ h0 hi ha] at hb;rw[QO _ _ h0 hi hk] at iO
  by_cases e1:i=a
  ·rw[C' e1] at hb
   by_cases e2:i=k
   ·omega
   ·rw[B' e2] at iO;exact hd k hk tY e2 b iO hb
  ·rw[B' e1] at hb
   by_cases e2:i=k
   ·rw[C' e2] at iO;exact hd a ha hal e1 b hb iO
   ·rw[B' e2] at iO;exact h.dj a k ha hal hk tY hak b hb iO
theorem LA.in(h:LA base w o cap ps){i:Int}(h0:0<=i)(hi:i<(ps.length:Int)){p:ZX×MG}{bs:List Nat}(hx:Q0 bs w w')(hb:∀x∈bs,x∈Qv (gi ps i).2)(hp:Mj base w' p)(hm:p.2=(gi ps i).2)(he:Oz p=Oz (gi ps i)):LA base w' o cap (ps.set i.toNat p):=by
 have hlen:(ps.set i.toNat p).length=ps.length:=E';refine⟨?_,λk hk tY=>?_,λa k ha hal hk tY hak b fQ iO=>?_⟩
 ·refine(h.row.ext hx λb fQ bR=>JQ h.row (h.each i h0 hi) b (hb b bR) fQ).same (E7 _ _ _ λy hy=>?_) hlen;rw[z1y h0 hi] at hy;cases hy;exact he
 ·rw[hlen] at tY;rw[QO _ _ h0 hi hk];split
  ·exact hp
  ·rename_i fI;exact(h.each k hk tY).ext hx λb fQ bR=>h.dj i k h0 hi hk tY fI b (hb b bR) fQ
 ·rw[hlen] at hal tY;rw[QO _ _ h0 hi ha] at fQ;rw[QO _ _ h0 hi hk] at iO
  have e1:b∈Qv (gi ps a).2:=by
   by_cases e:i=a
   ·rw[C' e,hm,e] at fQ; exact fQ
   ·rw[B' e] at fQ; exact fQ
  have e2:b∈Qv (gi ps k).2:=by
   by_cases e:i=k
   ·rw[C' e,hm,e] at iO; exact iO
   ·rw[B' e] at iO; exact iO
  exact h.dj a k ha hal hk tY hak b e1 e2
end
def zsk(W:Q8)(m:MW):List (ZX×MG):=(List.range W.IC.length).map λ(k:Nat)=>(gi W.IC (k:Int),m.ms k)
theorem UA(W:Q8)(m:MW):(zsk W m).length=W.IC.length:=by simp[zsk]
theorem K9{W:Q8}{m:MW}{i:Int}(h0:0<=i)(hi:i<(W.IC.length:Int)):gi (zsk W m) i=(gi W.IC i,m.ms i.toNat):=by
 obtain⟨k,rfl⟩:=Int.eq_ofNat_of_zero_le h0;rw[Tj (by rw[UA]; omega)];simp[zsk]
def QR(n:Nat)(m:MW):List Nat:=QM m.cO++QM m.tO++QM m.gO++(List.range n).flatMap λ(k:Nat)=>Qv (m.ms k)
structure Zj (n base:Nat) (w:Wo) (W:Q8) (m:MW):Prop where
 c:Vi DJ 5 ZB base w m.cO m.cC W.ID
 t:Vi Xq 9 QS base w m.tO m.tC W.tasks
 g:LA base w m.gO m.gC (zsk W m)
 len:W.IC.length=n
section
variable {n base:Nat}{w w':Wo}{W:Q8}{m:MW}{bs:List Nat}
theorem zev{x:Nat}(h:x∈QM m.cO):x∈QR n m:=by simp[QR,h]
theorem zex{x:Nat}(h:x∈QM m.tO):x∈QR n m:=by simp[QR,h]
theorem zew{x:Nat}(h:x∈QM m.gO):x∈QR n m:=by simp[QR,h]
theorem UV{x k:Nat}(hk:k<n)(h:x∈Qv (m.ms k)):x∈QR n m:=by
 unfold QR;exact Iw _ (List.mem_flatMap.2 ⟨k,List.mem_range.2 hk,h⟩)
theorem C1{x:Nat}(h:x∈QR n m):x∈QM m.cO\/x∈QM m.tO\/x∈QM m.gO\/∃k,k<n/\x∈Qv (m.ms k):=by
 unfold QR at h;simp only[Im,List.mem_flatMap,List.mem_range] at h;rcases h with ((h | h) | h) | ⟨k,hk,h⟩
 ·exact .inl h
 ·exact .inr (.inl h)
 ·exact .inr (.inr (.inl h))
 ·exact .inr (.inr (.inr ⟨k,hk,h⟩))
theorem Zj.each(h:Zj n base w W m){i:Int}(h0:0<=i)(hi:i<(n:Int)):Mj base w (gi W.IC i,m.ms i.toNat):=by
 have:=h.g.each i h0 (by rw[UA,h.len]; exact hi)
 rwa[K9 h0 (by rw[h.len]; exact hi)] at this
theorem Zj.lt(h:Zj n base w W m):∀x∈QR n m,base<=x/\x<w.heap.size:=λx hx=>by
 rcases C1 hx with hx | hx | hx | ⟨k,hk,hx⟩
 ·exact h.c.lt x hx
 ·exact h.t.lt x hx
 ·exact h.g.row.lt x hx
 ·exact(h.each (i:=(k:Int)) Qo Qo).lt x (by simpa using hx)
theorem Zj.ext(h:Zj n base w W m)(hx:Q0 bs w w')(hd:∀x∈QR n m,x∉bs):Zj n base w' W m:=
 ⟨h.c.ext hx λb hb=>hd b (zev hb),h.t.ext hx λb hb=>hd b (zex hb),
  ⟨h.g.row.ext hx λb hb=>hd b (zew hb),λi a b=>by
   have b':i<(W.IC.length:Int):=by rw[UA] at b; exact b
   have hl:=h.len;refine(h.g.each i a b).ext hx λx hm=>?_
   rw[K9 a b'] at hm;exact hd x (UV Qo hm),h.g.dj⟩,h.len⟩
theorem Zj.Wu(h:Zj n base w W m)(hx:Q0 [] w w'):Zj n base w' W m:=h.ext hx Qs
theorem Zj.mono{aH:Nat}(h:Zj n base w W m)(hb:aH<=base):Zj n aH w W m:=⟨h.c.mono hb,h.t.mono hb,h.g.mono hb,h.len⟩
theorem Zj.rd(h:Zj n base w W m)(hd:∀x∈QR n m,x∉bs):XF bs w W m:=by
 have hl:=h.len;refine⟨h.c.rd D9.len λb hb=>hd b (zev hb),h.t.rd MF.len λb hb=>hd b (zex hb),⟨λi h0 hi=>?_,λi h0 hi=>?_,λi h0 hi=>?_,λi h0 hi=>?_⟩⟩
 ·have:=h.g.row.rd Yy.len (bs:=bs) (λb hb=>hd b (zew hb)) i h0 (by rw[UA]; exact hi)
  rwa[K9 h0 hi] at this
 ·exact(h.each h0 Qo).loc.rd Xi.len λb hb=>hd b (UV (k:=i.toNat) Qo (by simp[Qv]; exact .inl hb))
 ·exact(h.each h0 Qo).Rz.rd J8.len λb hb=>hd b (UV (k:=i.toNat) Qo (by simp[Qv]; exact .inr (.inl hb)))
 ·exact(h.each h0 Qo).shl.rd Mu.len λb hb=>hd b (UV (k:=i.toNat) Qo (by simp[Qv]; exact .inr (.inr hb)))
theorem Zj.pN(h:Zj n base w W m){i:Int}(h0:0<=i)(hi:i<(W.tasks.length:Int)){j:Nat}{vs:List Va}{x:KW}(he:Xq x=(Xq (gi W.tasks i)).take j++vs++(Xq (gi W.tasks i)).drop (j+vs.length))(hj:j+vs.length<=9) :
  Zj n base (R5 w m.tO (Int.toNat i*9+j) vs) { W with tasks:=W.tasks.set i.toNat x } m:=
 ⟨h.c.ext (h.t.sV _ _) (h.c.SU h.t Qd),h.t.R5 MF.len h0 hi he hj,h.g.BH9 h.t Qd Qd Qd Qd (h.t.sV _ _),h.len⟩
theorem Zj.At6(h:Zj n base w W m){i:Int}(h0:0<=i)(hi:i<(W.ID.length:Int)){j:Nat}{vs:List Va}{x:KV}(he:DJ x=(DJ (gi W.ID i)).take j++vs++(DJ (gi W.ID i)).drop (j+vs.length))(hj:j+vs.length<=5) :
  Zj n base (R5 w m.cO (Int.toNat i*5+j) vs) { W with ID:=W.ID.set i.toNat x } m:=
 ⟨h.c.R5 D9.len h0 hi he hj,h.t.ext (h.c.sV _ _) (h.t.SU h.c Qd),h.g.BH9 h.c Qd Qd Qd Qd (h.c.sV _ _),h.len⟩
def GJ(m:MW)(k:Nat)(p:MG):MW:={ m with ms:=λj=>if k=j then p else m.ms j }
theorem zj2(m:MW)(k:Nat):GJ m k (m.ms k)=m:=by
 unfold GJ
 have:(λj=>if k=j then m.ms k else m.ms j)=m.ms:=by
  funext j
  split
  ·rename_i e; rw[e]
  ·rfl
 rw[this]
theorem zsl{i:Int}(h0:0<=i)(hi:i<(W.IC.length:Int))(g:ZX)(p:MG):zsk { W with IC:=W.IC.set i.toNat g } (GJ m i.toNat p)=(zsk W m).set i.toNat (g,p):=by
 refine zp8 (by rw[UA,E',E',UA]) λk hk=>?_
 rw[UA,E'] at hk;rw[K9 Qo (by rw[E']; omega),QO _ _ h0 hi Qo,QO _ _ h0 (by rw[UA]; exact hi) Qo];simp only[GJ]
 by_cases e:i=(k:Int)
 ·rw[C' e,C' e,C' Qo]
 ·rw[B' e,B' e,B' Qo,K9 Qo Qo]
theorem Zj.Be3{p:MG}(h:Zj n base w W m){i:Int}(hn:∀x∈Qv p,x∉QR n m\/x∈Qv (m.ms i.toNat))(h0:0<=i)(hi:i<(n:Int)):∀j:Int,0<=j->j<((zsk W m).length:Int)->i≠j->∀b∈Qv (gi (zsk W m) j).2,b∉Qv p:=λj hj hjl hij b hb iO=>by
 have hl:=h.len;rw[UA] at hjl;have bR:=hb;rw[K9 hj hjl] at hb;rcases hn b iO with h1 | h1
 ·exact h1 (UV Qo hb)
 ·have:=h.g.dj i j h0 (by rw[UA]; omega) hj (by rw[UA]; exact hjl) hij b (by rw[K9 h0 Qo]; exact h1);exact this bR
theorem Zj.Bk5(h:Zj n base w W m){i:Int}(h0:0<=i)(hi:i<(n:Int)){g:ZX}{p:MG}(hp:Mj base w (g,p))(hn:∀x∈Qv p,x∉QR n m\/x∈Qv (m.ms i.toNat)){j:Nat}{vs:List Va}(he:YE g p=(YE (gi W.IC i) (m.ms i.toNat)).take j++vs++(YE (gi W.IC i) (m.ms i.toNat)).drop (j+vs.length))(hj:j+vs.length<=14) :
  Zj n base (R5 w m.gO (Int.toNat i*14+j) vs) { W with IC:=W.IC.set i.toNat g } (GJ m i.toNat p):=by
 have hl:=h.len;have hx:=h.g.row.sV (Int.toNat i*14+j) vs;refine⟨h.c.ext hx (h.c.SU h.g.row Qd),h.t.ext hx (h.t.SU h.g.row Qd),?_,by rw[E']; exact hl⟩;have:=h.g.R5 h0 (by rw[UA]; omega) hp (h.Be3 hn h0 hi) (j:=j) (vs:=vs) (by rw[K9 h0 Qo]; exact he) hj;rw[zsl h0 Qo];exact this
theorem Zj.A23(h:Zj n base w W m){i:Int}(h0:0<=i)(hi:i<(n:Int)){g:ZX}(e1:g.IS.locals=(gi W.IC i).IS.locals)(e2:g.IS.Rz=(gi W.IC i).IS.Rz)(e3:g.IE=(gi W.IC i).IE){j:Nat}{vs:List Va}(he:YE g (m.ms i.toNat)=(YE (gi W.IC i) (m.ms i.toNat)).take j++vs++(YE (gi W.IC i) (m.ms i.toNat)).drop (j+vs.length))(hj:j+vs.length<=14) :
  Zj n base (R5 w m.gO (Int.toNat i*14+j) vs) { W with IC:=W.IC.set i.toNat g } m:=by
 have hm:=h.each h0 hi;have:=h.Bk5 h0 hi (g:=g) (p:=m.ms i.toNat) ⟨by rw[e1]; exact hm.loc,by rw[e2]; exact hm.Rz,by rw[e3]; exact hm.shl⟩ (λx hx=>.inr hx) he hj
 rwa[zj2] at this
theorem Zj.in(h:Zj n base w W m){i:Int}(h0:0<=i)(hi:i<(n:Int)){g:ZX}(hx:Q0 bs w w')(hb:∀x∈bs,x∈Qv (m.ms i.toNat))(hp:Mj base w' (g,m.ms i.toNat))(he:YE g (m.ms i.toNat)=YE (gi W.IC i) (m.ms i.toNat)) :
  Zj n base w' { W with IC:=W.IC.set i.toNat g } m:=by
 have hl:=h.len;have hmi:=h.each h0 hi
 have hf:∀{α:Type} {enc:α->List Va} {z:Nat} {ty:TypeId} {aH rW:Nat} {o':OA} {l:List α},Vi enc z ty aH w o' rW l->ty≠Qa->ty≠Yd->ty≠X5->∀b∈QM o',b∉bs:=λho n1 n2 n3 b fQ bR=>by
  have hm:=hb b bR;simp only[Qv,Im] at hm;rcases hm with (hm | hm) | hm
  ·exact ho.SU hmi.loc n1 b fQ hm
  ·exact ho.SU hmi.Rz n2 b fQ hm
  ·exact ho.SU hmi.shl n3 b fQ hm
 refine⟨h.c.ext hx (hf h.c Qd Qd Qd),h.t.ext hx (hf h.t Qd Qd Qd),?_,by rw[E']; exact hl⟩;have:=h.g.in h0 (by rw[UA]; omega) (p:=(g,m.ms i.toNat)) hx (by rw[K9 h0 Qo]; exact hb) hp (by rw[K9 h0 Qo]) (by rw[K9 h0 Qo]; exact he);have hs:=zsl (m:=m) h0 (W:=W) Qo g (m.ms i.toNat);rw[zj2] at hs;rw[hs];exact this
theorem z0i(W:Q8)(i:Int)(c:Int)(x:GO)(mg:MG):YE { gi W.IC i with IE:=(gi W.IC i).IE.set c.toNat x } mg=YE (gi W.IC i) mg:=by
 simp[YE]
theorem Zj.Bv2(h:Zj n base w W m){i c:Int}(h0:0<=i)(hi:i<(n:Int))(c0:0<=c)(c1:c<((gi W.IC i).IE.length:Int)){j:Nat}{vs:List Va}{x:GO}(he:MH x=(MH (gi (gi W.IC i).IE c)).take j++vs++(MH (gi (gi W.IC i).IE c)).drop (j+vs.length))(hj:j+vs.length<=5) :
  Zj n base (R5 w (m.ms i.toNat).sO (Int.toNat c*5+j) vs) { W with IC:=W.IC.set i.toNat { gi W.IC i with IE:=(gi W.IC i).IE.set c.toNat x } } m:=by
 have hm:=h.each h0 hi;have hx:=hm.shl.sV (Int.toNat c*5+j) vs;exact h.in h0 hi hx (λx hx=>by simp[Qv]; exact .inr (.inr hx)) ⟨hm.loc.ext hx (hm.loc.SU hm.shl Qd),hm.Rz.ext hx (hm.Rz.SU hm.shl Qd),hm.shl.R5 Mu.len c0 c1 he hj⟩ (z0i _ _ _ _ _)
theorem Zj.eJ(h:Zj n base w W m){i c:Int}(h0:0<=i)(hi:i<(n:Int))(c0:0<=c)(c1:c<((gi W.IC i).IS.locals.length:Int))(x:Int) :
  Zj n base (R5 w (m.ms i.toNat).lO (Int.toNat c*1+0) [I x]) { W with IC:=W.IC.set i.toNat { gi W.IC i with IS:={ (gi W.IC i).IS with locals:=(gi W.IC i).IS.locals.set c.toNat x } } } m:=by
 have hm:=h.each h0 hi;have hx:=hm.loc.sV (Int.toNat c*1+0) [I x];exact h.in h0 hi hx (λx hx=>by simp[Qv]; exact .inl hx) ⟨hm.loc.R5 Xi.len c0 c1 (j:=0) (vs:=[I x]) (x:=x) rfl Qs,hm.Rz.ext hx (hm.Rz.SU hm.loc Qd),hm.shl.ext hx (hm.shl.SU hm.loc Qd)⟩ (by simp[YE])
theorem Zj.Bv1(h:Zj n base w W m){i c:Int}(h0:0<=i)(hi:i<(n:Int))(c0:0<=c)(c1:c<((gi W.IC i).IS.Rz.length:Int))(x:Bool) :
  Zj n base (R5 w (m.ms i.toNat).dO (Int.toNat c*1+0) [.bool x]) { W with IC:=W.IC.set i.toNat { gi W.IC i with IS:={ (gi W.IC i).IS with Rz:=(gi W.IC i).IS.Rz.set c.toNat x } } } m:=by
 have hm:=h.each h0 hi;have hx:=hm.Rz.sV (Int.toNat c*1+0) [.bool x];exact h.in h0 hi hx (λx hx=>by simp[Qv]; exact .inr (.inl hx)) ⟨hm.loc.ext hx (hm.loc.SU hm.Rz Qd),hm.Rz.R5 J8.len c0 c1 (j:=0) (vs:=[.bool x]) (x:=x) rfl Qs,hm.shl.ext hx (hm.shl.SU hm.Rz Qd)⟩ (by simp[YE])
end
structure Mv (n base:Nat) (bs:List Nat) (w0:Wo) (m0:MW) (w:Wo) (W:Q8) (m:MW):Prop where
 own:Zj n base w W m
 ext:Q0 (QR n m0) w0 w
 sub:∀x∈QR n m,x∈QR n m0\/w0.heap.size<=x
 hd:m={ m0 with ms:=m.ms }
 nb:∀x∈QR n m,x∉bs
 new:∀x∈bs,w0.heap.size<=x
section
variable {n base:Nat}{bs cs:List Nat}{w0 w w':Wo}{W W':Q8}{m0 m m':MW}{b:Nat}
theorem Mv.start(h:Zj n base w W m):Mv n base [] w m w W m:=⟨h,Q0.refl _ _,λx hx=>.inl hx,rfl,Qs,Qs⟩
theorem Mv.add(h:Mv n base bs w0 m0 w W m)(hb:w.heap.size<=b):Mv n base (bs++[b]) w0 m0 w W m:=⟨h.own,h.ext,h.sub,h.hd,λx hx hm=>by
 rcases Im.1 hm with hm | hm
 ·exact h.nb x hx hm
 ·have:x=b:=by simpa using hm
  have:=(h.own.lt x hx).2;omega,λx hm=>by
 rcases Im.1 hm with hm | hm
 ·exact h.new x hm
 ·have:x=b:=by simpa using hm
  have:=h.ext.size;omega⟩
theorem Mv.BF0(h:Mv n base bs w0 m0 w W m)(hs:∀x∈cs,x∈bs):Mv n base cs w0 m0 w W m:=⟨h.own,h.ext,h.sub,h.hd,λx hx hm=>h.nb x hx (hs x hm),λx hm=>h.new x (hs x hm)⟩
theorem Mv.close(h:Mv n base bs w0 m0 w W m):Mv n base [] w0 m0 w W m:=h.BF0 Qs
theorem Mv.step(h:Mv n base bs w0 m0 w W m)(hx:Q0 bs w w'):Mv n base bs w0 m0 w' W m:=⟨h.own.ext hx h.nb,h.ext.fresh hx λx hm=>.inl (h.new x hm),h.sub,h.hd,h.nb,h.new⟩
theorem Mv.M'(h:Mv n base bs w0 m0 w W m)(hx:Q0 [] w w'):Mv n base bs w0 m0 w' W m:=⟨h.own.Wu hx,h.ext.trans hx.of_nil,h.sub,h.hd,h.nb,h.new⟩
theorem Mv.call(h:Mv n base bs w0 m0 w W m)(k:Mv n base [] w m w' W' m')(hs:∀x∈bs,x<w.heap.size):Mv n base bs w0 m0 w' W' m':=
 ⟨k.own,h.ext.fresh k.ext λx hm=>(h.sub x hm).symm,λx hx=>by
  rcases k.sub x hx with h1 | h1
  ·exact h.sub x h1
  ·have:=h.ext.size;exact .inr Qo,by rw[k.hd,h.hd],λx hx hm=>by
  rcases k.sub x hx with h1 | h1
  ·exact h.nb x h1 hm
  ·have:=hs x hm;omega,h.new⟩
theorem Mv.Sl(h:Mv n base bs w0 m0 w W m)(k:Zj n base w' W' m)(hx:Q0 (QR n m) w w'):Mv n base bs w0 m0 w' W' m:=
 ⟨k,h.ext.fresh hx λx hm=>(h.sub x hm).symm,h.sub,h.hd,h.nb,h.new⟩
theorem Mv.kept(h:Mv n base bs w0 m0 w W m)(k:Mv n base [] w m w' W' m')(hs:∀x∈bs,x<w.heap.size):Q9 bs w w':=λx hm=>k.ext.block x (hs x hm) λiP=>h.nb x iP hm
theorem Mv.rd(h:Mv n base bs w0 m0 w W m):XF bs w W m:=h.own.rd h.nb
theorem Mv.rd0(h:Mv n base bs w0 m0 w W m):XF [] w W m:=h.own.rd Qs
theorem Mv.trans{w1:Wo}{W1:Q8}{m1:MW}(h:Mv n base [] w0 m0 w W m)(k:Mv n base [] w m w1 W1 m1):Mv n base [] w0 m0 w1 W1 m1:=h.call k Qs
theorem Mv.AP6(h:Mv n base bs w0 m0 w W m){W0:Q8}(e0:W.now=W0.now)(e1:W.ID.length=W0.ID.length)(e2:W.tasks.length=W0.tasks.length)(e3:W.IC.length=W0.IC.length):Qb W m=Qb W0 m0:=by
 rw[h.hd];simp only[Qb,e0,e1,e2,e3]
end
structure OW (n base:Nat) (bs:List Nat) (w:Wo) (W:Q8) (m:MW):Prop where
 own:Zj n base w W m
 nb:∀x∈QR n m,x∉bs
section
variable {n base:Nat}{bs cs:List Nat}{w w':Wo}{W:Q8}{m:MW}{b:Nat}
theorem OW.of(h:Zj n base w W m)(hs:∀x∈bs,x<base):OW n base bs w W m:=⟨h,λx hx hm=>by
 have:=(h.lt x hx).1;have:=hs x hm;omega⟩
theorem OW.step(h:OW n base bs w W m)(hx:Q0 bs w w'):OW n base bs w' W m:=⟨h.own.ext hx h.nb,h.nb⟩
theorem OW.M'(h:OW n base bs w W m)(hx:Q0 [] w w'):OW n base bs w' W m:=⟨h.own.Wu hx,h.nb⟩
theorem OW.call(h:OW n base bs w W m)(hx:Q0 cs w w')(hd:∀x∈QR n m,x∉cs):OW n base bs w' W m:=⟨h.own.ext hx hd,h.nb⟩
theorem OW.add(h:OW n base bs w W m)(hb:w.heap.size<=b):OW n base (bs++[b]) w W m:=⟨h.own,λx hx hm=>by
 rcases Im.1 hm with hm | hm
 ·exact h.nb x hx hm
 ·have:x=b:=by simpa using hm
  have:=(h.own.lt x hx).2;omega⟩
theorem OW.put(h:OW n base bs w W m)(hx:Q0 bs w w')(hb:w.heap.size<=b):OW n base (bs++[b]) w' W m:=⟨(h.step hx).own,(h.add hb).nb⟩
theorem OW.At4{b2:Nat}(h:OW n base bs w W m)(hx:Q0 bs w w')(hb:w.heap.size<=b)(bR:w.heap.size<=b2):OW n base (bs++[b]++[b2]) w' W m:=⟨(h.step hx).own,((h.add hb).add bR).nb⟩
theorem OW.sub(h:OW n base bs w W m)(hs:∀x∈cs,x∈bs):OW n base cs w W m:=⟨h.own,λx hx hm=>h.nb x hx (hs x hm)⟩
theorem OW.mono{aH:Nat}(h:OW n base bs w W m)(hb:aH<=base):OW n aH bs w W m:=⟨h.own.mono hb,h.nb⟩
theorem OW.rd(h:OW n base bs w W m):XF bs w W m:=h.own.rd h.nb
theorem OW.rd0(h:OW n base bs w W m):XF [] w W m:=h.own.rd Qs
end
def JP(b:Vv):Vv:=⟨b.IX,b.IX,0,List.replicate b.Rz.length 0,List.replicate b.Rz.length false⟩
def Y5(b:Vv)(c:Int):Vv×Int:=
 if gi b.locals c>0 then (b,0)
 else (⟨b.IX,b.Rx-ZH 20 b.Rx,b.Sr,b.locals.set c.toNat (ZH 20 b.Rx),b.Rz.set c.toNat (ZH 20 b.Rx==0)⟩,if ZH 20 b.Rx=0 then 2 else 0)
def J2(b:Vv)(c n:Int):Vv×Int:=
 if n<1\/n>gi b.locals c then (b,3) else ({ b with Sr:=b.Sr+n,locals:=b.locals.set c.toNat (gi b.locals c-n) },0)
def ZU(b:Vv)(op:z38):Vv×Int:=
 if op.kind=4 then (JP b,0)
 else if X6 op.oH 0 ((b.locals.length:Int)-1)=false then (b,1)
 else if op.kind=1 then Y5 b op.oH
 else if op.kind=2 then J2 b op.oH op.n
 else if op.kind=3 then (YG b op.oH,0)
 else (b,1)
structure Zu (base:Nat) (w:Wo) (b:Vv) (p:MG):Prop where
 loc:Vi Um 1 Qa base w p.lO p.lC b.locals
 Rz:Vi Kk 1 Yd base w p.dO p.dC b.Rz
def YC(p:MG):List Nat:=QM p.lO++QM p.dO
theorem Zu.lt{base:Nat}{w:Wo}{b:Vv}{p:MG}(h:Zu base w b p):∀x∈YC p,base<=x/\x<w.heap.size:=λx hx=>by
 rcases Im.1 hx with hx | hx
 ·exact h.loc.lt x hx
 ·exact h.Rz.lt x hx
theorem Zu.ext{base:Nat}{w w':Wo}{b:Vv}{p:MG}{bs:List Nat}(h:Zu base w b p)(hx:Q0 bs w w')(hd:∀x∈YC p,x∉bs):Zu base w' b p:=
 ⟨h.loc.ext hx λx hm=>hd x (Ia _ hm),h.Rz.ext hx λx hm=>hd x (Iw _ hm)⟩
theorem Zu.Wu{base:Nat}{w w':Wo}{b:Vv}{p:MG}(h:Zu base w b p)(hx:Q0 [] w w'):Zu base w' b p:=h.ext hx Qs
theorem Zu.CI6{base:Nat}{w w':Wo}{b:Vv}{p:MG}{bs:List Nat}(h:Zu base w b p)(hx:Q0 bs w w')(hb:∀x∈bs,x<base):Zu base w' b p:=h.ext hx λx hm iP=>by
 have:=(h.lt x hm).1;have:=hb x iP;omega
theorem Zu.mono{base aH:Nat}{w:Wo}{b:Vv}{p:MG}(h:Zu base w b p)(hb:aH<=base):Zu aH w b p:=⟨h.loc.mono hb,h.Rz.mono hb⟩
theorem Zu.eJ{base:Nat}{w:Wo}{b:Vv}{p:MG}(h:Zu base w b p){c:Int}(c0:0<=c)(c1:c<(b.locals.length:Int))(x:Int):Zu base (R5 w p.lO (Int.toNat c*1) [I x]) { b with locals:=b.locals.set c.toNat x } p:=
 ⟨h.loc.R5 Xi.len c0 c1 (j:=0) (vs:=[I x]) (x:=x) rfl Qs,h.Rz.ext (h.loc.sV _ _) (h.Rz.SU h.loc Qd)⟩
theorem Zu.Bv1{base:Nat}{w:Wo}{b:Vv}{p:MG}(h:Zu base w b p){c:Int}(c0:0<=c)(c1:c<(b.Rz.length:Int))(x:Bool):Zu base (R5 w p.dO (Int.toNat c*1) [.bool x]) { b with Rz:=b.Rz.set c.toNat x } p:=
 ⟨h.loc.ext (h.Rz.sV _ _) (h.loc.SU h.Rz Qd),h.Rz.R5 J8.len c0 c1 (j:=0) (vs:=[.bool x]) (x:=x) rfl Qs⟩
theorem Zu.xL{base:Nat}{w:Wo}{b:Vv}{p:MG}(h:Zu base w b p)(n:Nat)(vs:List Va):Q0 (YC p) w (R5 w p.lO n vs):=(h.loc.sV n vs).mono λx hx=>Ia _ hx
theorem Zu.xD{base:Nat}{w:Wo}{b:Vv}{p:MG}(h:Zu base w b p)(n:Nat)(vs:List Va):Q0 (YC p) w (R5 w p.dO n vs):=(h.Rz.sV n vs).mono λx hx=>Iw _ hx
section
variable {b:Vv}{m:MG}{w:Wo}
theorem HQ{α:Type}[Inhabited α]{l:List α}{i:Nat}(h:i<l.length):l.take i++[gi l (i:Int)]=l.take (i+1):=by
 rw[List.take_succ_eq_append_getElem h,Tj h]
theorem Bu(h1:zs8 [] w m.lO b.locals)(h2:z1g [] w m.dO b.Rz)(hd:b.Rz.length=b.locals.length)(hl:b.locals.length<=1048576) :
  Cz P8 #[.agg (ZF b m).toArray] w λe w'=>∃p,e=.returned (.agg (ZF b p).toArray)/\Zu w.heap.size w' b p/\Q0 [] w w':=by
 refine(zlf b.IX b.Rx b.Sr m.lO b.locals.length m.lC m.dO b.Rz.length m.dC (R:=λv w'=>∃p,v=.agg (ZF b p).toArray/\Zu w.heap.size w' b p/\Q0 [] w w') ?_).mono λe w' ⟨v,he,p,hv,h3⟩=>⟨p,by rw[he,hv],h3⟩
 intro x tZ x5 Sb x6 Wt
 refine⟨λvs w1=>∃(i:Nat) (p:MG),vs=[I (i:Int),I b.IX,I b.Rx,I b.Sr,.slice p.lO (b.locals.take i).length p.lC,.slice p.dO (b.Rz.take i).length p.dC]/\i<=b.locals.length/\Sc w [x,x5,x6] w1/\Ob Um 1 Qa w.heap.size [x,x5,x6] w1 p.lO p.lC (b.locals.take i)/\Ob Kk 1 Yd w.heap.size [x,x5,x6] w1 p.dO p.dC (b.Rz.take i),
  Zx b.locals.length 0,λwr hx _=>⟨0,⟨none,0,none,0,none,0⟩,Qs,Ic _,(((Sc.start w).add tZ).add Sb |>.add Wt).M' hx,⟨.inl ⟨rfl,rfl,rfl⟩,by simp[QM]⟩,⟨.inl ⟨rfl,rfl,rfl⟩,by simp[QM]⟩⟩,?_⟩
 rintro c1 l l1 l2 S4 S5 S8 l4O l4L l4C wv hs ⟨i,p,he,hi,s1,hO,hD⟩;simp only[I4,I5,Iv,true_and,and_true] at he;obtain⟨rfl,rfl,rfl,rfl,⟨rfl,rfl,rfl⟩,rfl,rfl,rfl⟩:=he;refine⟨λIT=>?_,λRC=>?_⟩
 ·have IT:=Ot IT;have wE:=h1.scb s1;refine⟨wE.ix JU Qo IT,_,wE i Qo IT,λb8 hb8=>⟨rfl,λRj R3 gI SO=>?_⟩⟩;have s2:=s1.put R3 hb8;have nN:=hO.put R3 hb8;have hD2:=hD.put R3 hb8;obtain⟨o2,c2,w2,Ws,hk2,hO3,Sm⟩:=nN.AR2 Xi Kg (x:=gi b.locals (i:Int)) gI s2.ext.size SO (z2k _) (by rw[List.length_take]; omega) Qd YW #[false,false];rw[HQ Qo] at Ws hO3;have s3:=s2.call Sm λx hm=>(nN.own.lt x hm).1
  have hD3:=hD2.call Sm (hD2.own.SU nN.own Qd);have uJ:=h2.scb s3;refine⟨_,_,_,w2,Ws,hk2,uJ.ix EO Qo Qo,_,uJ i Qo Qo,λb9 hb9=>⟨rfl,λRn Si fT B83=>?_⟩⟩;have s4:=s3.put Si hb9;have hO4:=hO3.put Si hb9;have hD4:=hD3.put Si hb9;obtain⟨o4,c4,w4,B14,hk4,hD5,fL⟩:=hD4.AR2 J8 Lv (x:=gi b.Rz (i:Int)) fT s4.ext.size B83 (z3t _) (by rw[List.length_take]; omega) Qd Jv #[false,false];rw[HQ Qo] at B14 hD5;have s5:=s4.call fL λx hm=>(hD4.own.lt x hm).1
  have hO5:=hO4.call fL (hO4.own.SU hD4.own Qd);refine⟨_,_,_,w4,B14,hk4,⟨Qo,Qo⟩,λw5 Sb _=>⟨⟨i+1,⟨o2,c2,o4,c4,none,0⟩,rfl,Qo,(s5.step Sb).sub Qs,(hO5.step Sb).sub Qs,(hD5.step Sb).sub Qs⟩,?_⟩⟩;simp only[Zx,Xm,ZP,Ie];omega
 ·have RC:=Ou RC;have e1:b.locals.take i=b.locals:=List.take_of_length_le Qo;have e2:b.Rz.take i=b.Rz:=List.take_of_length_le Qo;rw[e1] at hO ⊢;rw[e2] at hD ⊢;exact λw2 R0=>⟨p,rfl,⟨(hO.step R0).own,(hD.step R0).own⟩,(s1.step R0).ext⟩
theorem zpb(l:List Bool)(k:Nat)(h:k<l.length):(List.replicate k false++l.drop k).set k false=List.replicate (k+1) false++l.drop (k+1):=by
 rw[List.set_append,B' Qs,List.length_replicate,Nat.sub_self,List.drop_eq_getElem_cons h,List.set_cons_zero,List.replicate_succ',List.append_assoc,List.singleton_append]
theorem Bv{base:Nat}(h:Zu base w b m)(hl:b.Rz.length<=1048576) :
  Cz P9 #[.agg (ZF b m).toArray] w λe w'=>e=.returned (.agg (ZF b m).toArray)/\Zu base w' { b with Rz:=List.replicate b.Rz.length false } m/\Q0 (YC m) w w':=by
 refine(zlg b.IX b.Rx b.Sr m.lO b.locals.length m.lC m.dO b.Rz.length m.dC (R:=λv w'=>v=.agg (ZF b m).toArray/\Zu base w' { b with Rz:=List.replicate b.Rz.length false } m/\Q0 (YC m) w w') ?_).mono λe w' ⟨v,he,hv,h3⟩=>⟨by rw[he,hv],h3⟩
 intro x tZ x5 Sb
 have hnb:∀y∈YC m,y∉[x,x5]:=λy hy hm=>by
  have:=(h.lt y hy).2;simp only[Ii,List.not_mem_nil,or_false] at hm;rcases hm with rfl | rfl <;> omega
 have wD:∀y∈[x,x5],w.heap.size<=y:=λy hm=>by
  simp only[Ii,List.not_mem_nil,or_false] at hm;rcases hm with rfl | rfl <;> assumption
 refine XL b.Rz.length 0 rfl (λk w1=>k<=b.Rz.length/\Zu base w1 { b with Rz:=List.replicate k false++b.Rz.drop k } m/\Q0 (YC m) w w1) (λw1 RR _=>⟨Ic _,by simpa using h.Wu RR,RR.of_nil⟩) λk w1 hs ⟨hk,hO,hX⟩=>⟨λIT=>?_,λRC=>?_⟩
 ·have IT:=Ot IT;have hlen:(List.replicate k false++b.Rz.drop k).length=b.Rz.length:=by simp; omega
  have e1:=hO.Bv1 (c:=(k:Int)) Qo (by show (k:Int)<((List.replicate k false++b.Rz.drop k).length:Int); rw[hlen]; exact IT) false;have e2:({ b with Rz:=(List.replicate k false++b.Rz.drop k).set k false }:Vv)={ b with Rz:=List.replicate (k+1) false++b.Rz.drop (k+1) }:=by rw[zpb _ _ Qo]
  have W8:=hO.Rz.ix (i:=(k:Int)) Qo (by show (k:Int)<((List.replicate k false++b.Rz.drop k).length:Int); rw[hlen]; exact IT);have vV:=hO.Rz.wr J8.len (bs:=[x,x5]) (λy hy=>hnb y (Iw _ hy)) (i:=(k:Int)) Qo (by show (k:Int)<((List.replicate k false++b.Rz.drop k).length:Int); rw[hlen]; exact IT) (j:=0) (n:=1) Qd;refine⟨by rw[<-hlen]; exact W8,vV,⟨Qo,Qo⟩,λw2 R0 _=>Qp Qo ⟨Qo,?_,(hX.trans (hO.xD _ _)).fresh R0 λy hy=>.inl (wD y hy)⟩⟩;rw[Ig] at e1;have:=(e2▸e1:Zu base (R5 w1 m.dO (k*1) [.bool false]) { b with Rz:=List.replicate (k+1) false++b.Rz.drop (k+1) } m);exact this.ext (by rw[Ig] at R0; exact R0) hnb
 ·have RC:=Ou RC;have hk2:k=b.Rz.length:=Qo;subst hk2;rw[List.drop_length,List.append_nil] at hO;exact λw2 R0=>⟨rfl,hO.ext R0 hnb,hX.fresh R0 λy hy=>.inl (wD y hy)⟩
theorem zbu{p:Int}(h:0<=p):0<=ZH 20 p/\ZH 20 p<=p:=by unfold ZH; split <;> omega
theorem VA{op:z38}(hb:Pg b)(h1:zs8 [] w m.lO b.locals)(h2:z1g [] w m.dO b.Rz) :
  Cz XH #[.agg (ZF b m).toArray,.agg (z3j op).toArray] w λe w'=>∃p,e=.returned (.tuple #[.agg (ZF (ZU b op).1 p).toArray,I (ZU b op).2])/\Zu w.heap.size w' (ZU b op).1 p/\Q0 [] w w':=by
 refine(zhi b.IX b.Rx b.Sr m.lO b.locals.length m.lC m.dO b.Rz.length m.dC op.kind op.oH op.n (R:=λv w'=>∃p,v=.tuple #[.agg (ZF (ZU b op).1 p).toArray,I (ZU b op).2]/\Zu w.heap.size w' (ZU b op).1 p/\Q0 [] w w') ?_).mono λe w' ⟨v,he,p,hv,h3⟩=>⟨p,by rw[he,hv],h3⟩
 have hm9:=Zg;have hl2:=hb.l2;have hdl:=hb.dl;have q1:=hb.q1;have q2:=hb.q2;have p1:=hb.p1;have p2:=hb.p2;have s1':=hb.s1;have s2':=hb.s2;intro x tZ x5 Sb x6 Wt;have hok:=Ee (bs:=[]) h1 h2 Qo;rw[Qm.2 hb] at hok;refine⟨true,hok,λh=>by simp at h,λ_ I' RR dZ=>?_⟩;have t1:=((((Sc.start w).add tZ).add Sb).add Wt).M' RR;refine(Bu (h1.ext RR) (h2.ext RR) hdl Qo).mono λe wv ⟨p,he,hO,aR⟩=>⟨_,_,_,_,_,_,_,_,_,he,Qf aR dZ,λg4=>?_,λg4=>?_⟩
 ·have g4:op.kind=4:=by simpa using g4
  have t2:=t1.M' aR;have hbl:∀y∈[x,x5,x6],y<I'.heap.size:=dZ;refine λO' R0 SR=>⟨_,_,_,_,KS Xi Kg b.Rz.length Qo Qo O',Qf (Z9 _ _) SR,λRj R3 gI=>?_⟩
  have hLo:=(VD (enc:=Um) Xi.len Qa b.Rz.length (0:Int) O').ext R3 λy hy hm=>by
   have:y=O'.heap.size:=by simpa[QM] using hy
   have:=SR y hm;omega
  have hD3:Vi Kk 1 Yd I'.heap.size Rj p.dO p.dC b.Rz:=((hO.CI6 R0 hbl).Wu (Z9 O' _)).CI6 R3 hbl |>.Rz
  have Cr5:I'.heap.size<=O'.heap.size:=IA aR.size R0.size;have hB3:Zu I'.heap.size Rj { b with locals:=List.replicate b.Rz.length 0 } ⟨some ⟨O'.heap.size,0,none⟩,b.Rz.length,p.dO,p.dC,none,0⟩:=⟨hLo.mono Cr5,hD3⟩;have t3:=((t2.step R0).M' (Z9 O' (.cells ((List.replicate b.Rz.length (0:Int)).flatMap Um).toArray Qa))).step R3;have hw:=Bv (b:=⟨b.IX,b.IX,0,List.replicate b.Rz.length 0,b.Rz⟩) (m:=⟨some ⟨O'.heap.size,0,none⟩,b.Rz.length,p.dO,p.dC,none,0⟩) (base:=I'.heap.size) ⟨hB3.loc,hB3.Rz⟩ (by show b.Rz.length<=_; omega);simp only[ZF,List.length_replicate] at hw;refine I3 hw λe w4 ⟨he4,hO4,fL⟩=>⟨_,_,_,_,_,_,_,_,_,he4,λy hm=>fL.block y (gI y hm) λiP=>?_,λRn Si=>⟨⟨some ⟨O'.heap.size,0,none⟩,b.Rz.length,p.dO,p.dC,none,0⟩,?_,?_,?_⟩⟩
  ·have:=(hB3.lt y iP).1;have:=dZ y hm;omega
  ·have:ZU b op=(JP b,0):=by unfold ZU; rw[C' g4]
   rw[this]; simp[ZF,JP]
  ·have:ZU b op=(JP b,0):=by unfold ZU; rw[C' g4]
   rw[this]
   exact(Zu.mono ⟨hO4.loc,hO4.Rz⟩ RR.size).ext Si λy hy hm=>by
    have:=(hB3.lt y hy).1;have:=dZ y hm;omega
  ·exact((t3.call fL λy hy=>IA RR.size (hB3.lt y hy).1).step Si).ext
 ·have g4:¬op.kind=4:=by simpa using g4
  have t2:=t1.M' aR
  have hbl:∀y∈YC p,y∉[x,x5,x6]:=λy hy hm=>by
   have:=(hO.lt y hy).1;have:=dZ y hm;omega
  have hO0:Zu w.heap.size wv b p:=hO.mono RR.size
  have fin:∀{b':Vv} {c:Int} {w1 w2:Wo},ZU b op=(b',c)->Zu w.heap.size w1 b' p->Q0 (YC p) wv w1->Q0 [x,x5,x6] w1 w2->Zu w.heap.size w2 (ZU b op).1 p/\Q0 [] w w2:=λe hB hX hx=>by
   rw[e];exact⟨hB.ext hx hbl,((t2.call hX λy hy=>(hO0.lt y hy).1).step hx).ext⟩
  have wE:zs8 [x,x5,x6] wv p.lO b.locals:=hO.loc.rd Xi.len λy hy=>hbl y (Ia _ hy)
  refine⟨⟨Qo,Qo⟩,_,Qu,λg5 wr hx=>⟨p,?_,fin (b':=b) (c:=1) ?_ hO0 (Q0.refl _ _) hx⟩,λg5=>?_⟩
  ·have:ZU b op=(b,1):=by unfold ZU; rw[B' g4,C' (by simpa using g5)]
   rw[this]; rfl
  ·unfold ZU; rw[B' g4,C' (by simpa using g5)]
  have g5':X6 op.oH 0 ((b.locals.length:Int)-1)=true:=by simpa using g5
  have fR:ZU b op=if op.kind=1 then Y5 b op.oH else if op.kind=2 then J2 b op.oH op.n else if op.kind=3 then (YG b op.oH,0) else (b,1):=by
   unfold ZU; rw[B' g4,B' (by rw[g5']; decide)]
  obtain⟨c0,c1⟩:=Qx.1 g5';have c1:op.oH<(b.locals.length:Int):=Qo;have he':=hb.each _ c0 c1;have W8:=wE.ix JU c0 c1;have hwL:YK [x,x5,x6] wv p.lO (Int.toNat op.oH*1) 1:=hO.loc.wr Xi.len (λy hy=>hbl y (Ia _ hy)) c0 c1 (j:=0) Qd;refine⟨λg6=>?_,λg6=>?_⟩
  ·have g6:op.kind=1:=by simpa using g6
   rw[C' g6] at fR;refine⟨W8,_,wE _ c0 c1,λg7 wr hx=>⟨p,?_,fin (b':=b) (c:=0) ?_ hO0 (Q0.refl _ _) hx⟩,λg7=>?_⟩
   ·rw[fR]; unfold Y5; rw[C' (Ot g7)]; rfl
   ·rw[fR]; unfold Y5; rw[C' (Ot g7)]
   have g7:=Ou g7;have ht:Y5 b op.oH=(⟨b.IX,b.Rx-ZH 20 b.Rx,b.Sr,b.locals.set op.oH.toNat (ZH 20 b.Rx),b.Rz.set op.oH.toNat (ZH 20 b.Rx==0)⟩,if ZH 20 b.Rx=0 then 2 else 0):=by unfold Y5; rw[B' g7]
   rw[ht] at fR;have hm:=zbu p1;have e1:=hO0.eJ c0 c1 (ZH 20 b.Rx);have e2:=e1.Bv1 (c:=op.oH) c0 (by show op.oH<(b.Rz.length:Int); omega) (ZH 20 b.Rx==0);have hX:=(hO0.xL (Int.toNat op.oH*1) [I (ZH 20 b.Rx)]).trans (e1.xD (Int.toNat op.oH*1) [.bool (ZH 20 b.Rx==0)]);refine⟨_,U5,⟨Qo,Qo⟩,W8,hwL,e1.Rz.ix c0 (by show op.oH<(b.Rz.length:Int); omega),e1.Rz.wr J8.len (λy hy=>hbl y (Iw _ hy)) c0 (by show op.oH<(b.Rz.length:Int); omega) (j:=0) Qd,λg8 wr hx=>⟨p,?_,fin fR ⟨e2.loc,e2.Rz⟩ hX hx⟩,λg8 wr hx=>⟨p,?_,fin fR ⟨e2.loc,e2.Rz⟩ hX hx⟩⟩
   ·rw[fR,C' (by simpa using g8)]; simp[ZF]
   ·rw[fR,B' (by simpa using g8)]; simp[ZF]
  ·have g6:¬op.kind=1:=by simpa using g6
   rw[B' g6] at fR;refine⟨λg7=>?_,λg7=>?_⟩
   ·have g7:op.kind=2:=by simpa using g7
    rw[C' g7] at fR;refine⟨λ_=>W8,_,λ_=>wE _ c0 c1,λg8 wr hx=>⟨p,?_,fin (b':=b) (c:=3) ?_ hO0 (Q0.refl _ _) hx⟩,λg8=>?_⟩
    ·rw[fR]; unfold J2; rw[C' (by simpa using g8)]; rfl
    ·rw[fR]; unfold J2; rw[C' (by simpa using g8)]
    have g8':¬(op.n<1\/op.n>gi b.locals op.oH):=by simpa using g8
    have ht:J2 b op.oH op.n=({ b with Sr:=b.Sr+op.n,locals:=b.locals.set op.oH.toNat (gi b.locals op.oH-op.n) },0):=by unfold J2; rw[B' g8']
    rw[ht] at fR;have e1:=hO0.eJ c0 c1 (gi b.locals op.oH-op.n);refine⟨W8,_,wE _ c0 c1,⟨Qo,Qo⟩,W8,hwL,⟨Qo,Qo⟩,λwr hx=>⟨p,?_,fin fR ⟨e1.loc,e1.Rz⟩ (hO0.xL _ _) hx⟩⟩;rw[fR]; simp[ZF]
   ·have g7:¬op.kind=2:=by simpa using g7
    rw[B' g7] at fR;refine⟨λg8=>?_,λg8 wr hx=>⟨p,?_,fin (b':=b) (c:=1) ?_ hO0 (Q0.refl _ _) hx⟩⟩
    ·have g8:op.kind=3:=by simpa using g8
     rw[C' g8] at fR;have e1:=hO0.eJ c0 c1 0;refine⟨W8,_,wE _ c0 c1,⟨Qo,Qo⟩,W8,hwL,λg9 wr hx hs=>?_,λg9 wr hx=>⟨p,?_,fin fR ?_ (hO0.xL _ _) hx⟩⟩
     ·have g9:=Ot g9;have e2:Zu w.heap.size wr ⟨b.IX,b.Rx+gi b.locals op.oH,b.Sr,b.locals.set op.oH.toNat 0,b.Rz⟩ p:=Zu.ext ⟨e1.loc,e1.Rz⟩ hx hbl;have hw:=Bv e2 (by show b.Rz.length<=_; omega);simp only[ZF,E'] at hw;refine I3 hw λe w4 ⟨he4,hO4,fL⟩=>⟨_,_,_,_,_,_,_,_,_,he4,λy hm=>fL.block y (hs y hm) λiP=>hbl y iP hm,λRn Si=>⟨p,?_,?_,?_⟩⟩
      ·rw[fR]; simp[ZF,YG,C' g9]
      ·rw[fR];have:YG b op.oH=⟨b.IX,b.Rx+gi b.locals op.oH,b.Sr,b.locals.set op.oH.toNat 0,List.replicate b.Rz.length false⟩:=by unfold YG; rw[C' g9]
       rw[this];exact Zu.ext ⟨hO4.loc,hO4.Rz⟩ Si hbl
      ·exact((((t2.call (hO0.xL _ _) λy hy=>(hO0.lt y hy).1).step hx).call fL λy hy=>(hO0.lt y hy).1).step Si).ext
     ·have g9:=Ou g9;rw[fR]; simp[ZF,YG,B' g9]
     ·have g9:=Ou g9;have:YG b op.oH=⟨b.IX,b.Rx+gi b.locals op.oH,b.Sr,b.locals.set op.oH.toNat 0,b.Rz⟩:=by unfold YG; rw[B' g9]
      rw[this];exact⟨e1.loc,e1.Rz⟩
    ·rw[fR,B' (by simpa using g8)]; rfl
    ·rw[fR,B' (by simpa using g8)]
end
section
variable {base:Nat}{W:Q8}{m:MW}{w:Wo}
theorem X4{w:Wo}{x x1:Nat}(h:w.heap.size<=x)(h1:w.heap.size<=x1):∀y∈[x,x1],w.heap.size<=y:=λy hm=>by
 simp only[Ii,List.not_mem_nil,or_false] at hm;rcases hm with rfl | rfl <;> assumption
theorem Mv.two{n:Nat}(h:Zj n base w W m){x x1:Nat}(hx:w.heap.size<=x)(RR:w.heap.size<=x1):Mv n base [x,x1] w m w W m:=((Mv.start h).add hx).add RR
theorem zf3{n:Nat}{m:MW}{w:Wo}{k:Nat}{vs:List Va}:Q0 (QR n m) w (R5 w m.cO k vs):=X3 λa ha=>zev (by rw[ha]; simp[QM])
theorem Kd{n:Nat}{m:MW}{w:Wo}{k:Nat}{vs:List Va}:Q0 (QR n m) w (R5 w m.tO k vs):=X3 λa ha=>zex (by rw[ha]; simp[QM])
theorem zbf{n:Nat}{m:MW}{w:Wo}{k:Nat}{vs:List Va}:Q0 (QR n m) w (R5 w m.gO k vs):=X3 λa ha=>zew (by rw[ha]; simp[QM])
theorem zms{n:Nat}{m:MW}{w:Wo}{i k:Nat}{vs:List Va}(hi:i<n):Q0 (QR n m) w (R5 w (m.ms i).sO k vs):=X3 λa ha=>UV hi (by simp[Qv,QM,ha])
theorem z0m{n:Nat}{m:MW}{w:Wo}{i k:Nat}{vs:List Va}(hi:i<n):Q0 (QR n m) w (R5 w (m.ms i).lO k vs):=X3 λa ha=>UV hi (by simp[Qv,QM,ha])
theorem z30{n:Nat}{m:MW}{w:Wo}{i k:Nat}{vs:List Va}(hi:i<n):Q0 (QR n m) w (R5 w (m.ms i).dO k vs):=X3 λa ha=>UV hi (by simp[Qv,QM,ha])
theorem zyj{n:Nat}{bs:List Nat}(h:Zj n base w W m)(hd:∀x∈QR n m,x∉bs){i:Int}(h0:0<=i)(h1:i<(W.ID.length:Int)){j k:Nat}(hj:j+k<=5):YK bs w m.cO (Int.toNat i*5+j) k:=h.c.wr D9.len (λb hb=>hd b (zev hb)) h0 h1 hj
theorem zkh{n:Nat}{bs:List Nat}(h:Zj n base w W m)(hd:∀x∈QR n m,x∉bs){i:Int}(h0:0<=i)(h1:i<(W.tasks.length:Int)){j k:Nat}(hj:j+k<=9):YK bs w m.tO (Int.toNat i*9+j) k:=h.t.wr MF.len (λb hb=>hd b (zex hb)) h0 h1 hj
theorem zs7{n:Nat}{bs:List Nat}(h:Zj n base w W m)(hd:∀x∈QR n m,x∉bs){i:Int}(h0:0<=i)(h1:i<(n:Int)){j k:Nat}(hj:j+k<=14):YK bs w m.gO (Int.toNat i*14+j) k:=h.g.row.wr Yy.len (λb hb=>hd b (zew hb)) h0 (by rw[UA,h.len]; exact h1) hj
theorem z34{n:Nat}{bs:List Nat}(h:Zj n base w W m)(hd:∀x∈QR n m,x∉bs){i c:Int}(h0:0<=i)(h1:i<(n:Int))(c0:0<=c)(c1:c<((gi W.IC i).IE.length:Int)){j k:Nat}(hj:j+k<=5):YK bs w (m.ms i.toNat).sO (Int.toNat c*5+j) k:=
 (h.each h0 h1).shl.wr Mu.len (λb hb=>hd b (UV (k:=i.toNat) Qo (by simp[Qv]; exact .inr (.inr hb)))) c0 c1 hj
theorem z44{n:Nat}{bs:List Nat}(h:Zj n base w W m)(hd:∀x∈QR n m,x∉bs){i c:Int}(h0:0<=i)(h1:i<(n:Int))(c0:0<=c)(c1:c<((gi W.IC i).IS.locals.length:Int)){j k:Nat}(hj:j+k<=1):YK bs w (m.ms i.toNat).lO (Int.toNat c*1+j) k:=
 (h.each h0 h1).loc.wr Xi.len (λb hb=>hd b (UV (k:=i.toNat) Qo (by simp[Qv]; exact .inl hb))) c0 c1 hj
theorem z43{n:Nat}{bs:List Nat}(h:Zj n base w W m)(hd:∀x∈QR n m,x∉bs){i c:Int}(h0:0<=i)(h1:i<(n:Int))(c0:0<=c)(c1:c<((gi W.IC i).IS.Rz.length:Int)){j k:Nat}(hj:j+k<=1):YK bs w (m.ms i.toNat).dO (Int.toNat c*1+j) k:=
 (h.each h0 h1).Rz.wr J8.len (λb hb=>hd b (UV (k:=i.toNat) Qo (by simp[Qv]; exact .inr (.inl hb)))) c0 c1 hj
theorem zsg{n:Nat}(h:Zj n base w W m){c:Int}(c0:0<=c)(c1:c<(W.ID.length:Int)) :
  (Zj n base (R5 w m.cO (Int.toNat c*5+1) [I (-1)]) { W with ID:=W.ID.set c.toNat { gi W.ID c with cur := -1 } } m)/\
  Zj n base (R5 (R5 w m.cO (Int.toNat c*5+1) [I (-1)]) m.cO (Int.toNat c*5+2) [I 0]) (Rp W c) m:=by
 have e1:=h.At6 c0 c1 (j:=1) (vs:=[I (-1)]) (x:={ gi W.ID c with cur := -1 }) rfl Qd;refine⟨e1,?_⟩;have hg:gi (W.ID.set c.toNat { gi W.ID c with cur := -1 }) c={ gi W.ID c with cur := -1 }:=by rw[QO _ _ c0 c1 c0,C' rfl]
 have e2:=e1.At6 c0 (by simpa using c1) (j:=2) (vs:=[I 0]) (x:=Js (gi W.ID c)) (by rw[hg]; rfl) Qd;rw[List.set_set] at e2;exact e2
theorem ZG{n:Nat}(h:Zj n base w W m){c:Int}(c0:0<=c)(c1:c<(W.ID.length:Int)) :
  Cz Zf #[.agg (Qb W m).toArray,I c] w λe w'=>e=.returned (.agg (Qb (Rp W c) m).toArray)/\Mv n base [] w m w' (Rp W c) m:=by
 refine(zlh _ _ _ _ _ _ _ _ _ _ c (R:=λv w'=>v=.agg (Qb (Rp W c) m).toArray/\Mv n base [] w m w' (Rp W c) m) ?_).mono λe w' ⟨v,he,hv,h3⟩=>⟨by rw[he,hv],h3⟩
 intro x hx x1 RR;obtain⟨e1,e2⟩:=zsg h c0 c1;have hr:=h.rd (bs:=[]) Qs;refine⟨hr.c.ix Yh c0 c1,zyj h Qs c0 c1 Qd,hr.c.ix Yh c0 c1,zyj e1 Qs c0 (by simpa using c1) Qd,λwr R0=>⟨by simp[Qb,Rp,Se],((Mv.start h).Sl e2 (zf3.trans zf3)).M' R0⟩⟩
theorem z1b{W:Q8}{g c:Int}{s:GO}:RF W g c s={ W with IC:=W.IC.set g.toNat { gi W.IC g with IE:=(gi W.IC g).IE.set c.toNat s } }:=rfl
theorem UZ{W W':Q8}{m:MW}(h:Fr W W'):Qb W' m=Qb W m:=by
 simp only[Qb,h.n,h.c,h.t,h.g.len]
theorem zk8{gs:List ZX}(ht:Ye gs){k:Int}(hu:Q7 gs k=true):PE (gs.length+1) gs k 0=dep 3 gs k:=by
 have hp:∀g:Int,g≠0->Q7 gs g=true->Q7 gs (gi gs g).parent=true:=λg hz hu=>(Yf ht hu hz).1
 have hd:0<=dep 3 gs k/\dep 3 gs k<=3:=by
  by_cases hz:k=0
  ·subst hz; rw[Y6]; omega
  ·obtain⟨_,_,_,d,e,_,hd⟩:=Yf ht hu hz;omega
 have hm:=H3 gs 3 gs.length k hd.1 (by rw[ht.len]; omega);rw[Bx hp _ _ _ hu,hm,B' Qo];omega
theorem zer{F K:Int}{n:Nat}(gJ:SF F K W)(h:Zj n base w W m)(hk:F+Qj<=K){k c:Int}(hu:Q7 W.IC k=true)(hn:n=8)(c0:0<=c)(c1:c<(W.ID.length:Int))(s:GO) :
  Zj n base (R5 w (m.ms k.toNat).sO (Int.toNat c*5) (MH s)) (RF W k c s) m:=by
 obtain⟨u0,u1,_⟩:=Q4.1 hu;have hl:=gJ.w.a.gl;have hs:=gJ.w.a.sl hu;exact h.Bv2 u0 Qo c0 Qo (j:=0) (vs:=MH s) (x:=s) (by simp[MH]) (by simp[MH])
theorem Hq{F K:Int}(h:Zj 8 base w W m)(gJ:SF F K W)(hk:F+Qj<=K)(hK:K<=1000000000000000000){c:Int}(c0:0<=c)(c1:c<(W.ID.length:Int)) :
  Cz VQ #[.agg (Qb W m).toArray,I c] w λe w'=>e=.returned (.agg (Qb W m).toArray)/\Mv 8 base [] w m w' (QJ W c) m:=by
 refine(zdj _ _ _ _ _ _ _ _ _ _ c (R:=λv w'=>v=.agg (Qb W m).toArray/\Mv 8 base [] w m w' (QJ W c) m) ?_).mono λe w' ⟨v,he,hv,h3⟩=>⟨by rw[he,hv],h3⟩
 intro x hx x1 RR;have dD:=gJ.w.a.gl
 refine⟨λvs w1=>∃(j:Nat),vs=[I (3-(j:Int))]/\j<=3/\Mv 8 base [x,x1] w m w1 (Xd W c j) m,
  λvs _=>(ZP 0 vs).toNat,λwr tZ _=>⟨0,rfl,Qd,(Mv.two h hx RR).M' tZ⟩,?_⟩
 rintro d wv hs ⟨j,he,j3,hM⟩;obtain⟨hS,hO⟩:=Dd gJ hk c0 c1 j j3;have hN:Xd W c (j+1)=Zq (Xd W c j) c (3-(j:Int)) 8:=rfl;have hE:j=3->Xd W c j=QJ W c:=λe=>by rw[e]; rfl
 generalize Xd W c j=W1 at hM hS hO hN hE;simp only[I4,I5,true_and,and_true] at he;refine⟨λhd=>?_,λhd=>?_⟩
 ·have hd:=Ot hd;have tU:c<(W1.ID.length:Int):=by rw[hO.c]; exact c1
  refine XL W.IC.length 1 rfl (λk w2=>1<=k/\k<=8/\Mv 8 base [x,x1] w m w2 (Zq W1 c d k) m) (λw2 R0 _=>⟨I7 _,Qd,?_⟩) λk w2 SR ⟨hk1,hk8,T'⟩=>?_
  ·have e:Zq W1 c d 1=W1:=zt5 Qo;rw[e];exact hM.step R0
  obtain⟨oE,nN⟩:=Bz hS hk (c:=c) (d:=d) Qo c0 tU k hk8;have hf2:=hO.trans nN;have e0:Qb (Zq W1 c d k) m=Qb W m:=UZ hf2.fr;have hr:=T'.rd;have tM:(Zq W1 c d k).IC.length=W.IC.length:=hf2.g.len;have AS0:(Zq W1 c d k).ID.length=W.ID.length:=by rw[hf2.c]
  have SP:Zq W1 c d (k+1)=if (gi (Zq W1 c d k).IC (k:Int)).used=true/\dep 3 (Zq W1 c d k).IC (k:Int)=d then RF (Zq W1 c d k) (k:Int) c (ZZ (Zq W1 c d k) (k:Int) c) else Zq W1 c d k:=rfl;have hN8:k=8->Xd W c (j+1)=Zq W1 c d k:=λe=>by rw[hN,<-he,e]
  generalize Zq W1 c d k=W2 at T' oE nN hf2 e0 hr tM AS0 SP hN8;refine⟨λIT=>?_,λRC=>?_⟩
  ·have IT:=Ot IT;have Rw:(k:Int)<(W2.IC.length:Int):=Qo;have hdp:=K6 (g:=(k:Int)) (c:=m.gC) hr.g (by have:=Zg; omega);rw[tM] at hdp;refine⟨by have:=hr.g.ix (i:=(k:Int)) Qo Rw; rwa[tM] at this,(gi W2.IC (k:Int)).used,hr.g.used Qo Rw,_,λ_=>hdp,λg=>?_,λg=>?_⟩
   ·refine⟨⟨Qo,Qo⟩,λw3 R3 _=>Qp Qo ⟨Qo,Qo,?_⟩⟩;rw[SP,B']
    ·exact T'.step R3
    ·rintro⟨h1,h2⟩;have hu:Q7 W2.IC (k:Int)=true:=Q4.2 ⟨Qo,Rw,h1⟩;have:=zk8 oE.w.a.tree hu;rw[tM] at this;rw[this,h1,h2] at g;simp at g
   ·simp only[H',I6,bne_eq_false_iff_eq] at g;have hu:Q7 W2.IC (k:Int)=true:=Q4.2 ⟨Qo,Rw,g.1⟩;have hdk:=zk8 oE.w.a.tree hu;rw[tM,g.2] at hdk;rw[C' ⟨g.1,hdk.symm⟩] at SP;have hsl:=oE.w.a.sl hu;have hz:(k:Int)≠0:=Qo;have hp:=oE.w.a.up hu hz;obtain⟨p0,p1,_⟩:=Q4.1 hp;have hpl:=oE.w.a.sl hp;have s1:=oE.w.s _ c hu c0 Qo;have s2:=oE.w.s _ c hp c0 Qo;have lc:=ZY ((Qc W2 (k:Int) c).v-(Qc W2 (gi W2.IC (k:Int)).parent c).floor) (Qc W2 (k:Int) c).w;have lm:=Yb (Qc W2 (k:Int) c).w;have W8:Ix m.gO W.IC.length (k:Int):=by have:=hr.g.ix (i:=(k:Int)) Qo Rw; rwa[tM] at this
    have AN8:=(hr.g.IE (k:Int) Qo Rw).ix X7 c0 Qo;have Aq6:=M3 (g:=(k:Int)) hr oE.w.a c0 Qo;have Bs3:=LS (g:=(k:Int)) hr oE.w.a hu c0 Qo;rw[e0] at Aq6 Bs3;have Sk:=λs=>zer oE T'.own hk hu rfl c0 (c:=c) Qo s
    have BB6:∀{vs:List Va},Q0 (QR 8 m) w2 (R5 w2 (m.ms k).sO (Int.toNat c*5) vs):=λ{vs}=>zms Qo
    have vV:=z34 T'.own T'.nb (i:=(k:Int)) Qo Qo c0 Qo (j:=0) (k:=5) Qd;simp only[Ig] at Sk vV AN8;refine⟨W8,_,_,_,hr.g.Ry Qo Rw,AN8,_,_,_,_,_,(hr.g.IE (k:Int) Qo Rw) c c0 Qo,λb2 bR=>⟨QX W2 (k:Int) c,Aq6,UD W2 (k:Int) c,λ_=>Bs3,λg2=>?_,λg2=>?_⟩⟩
    ·have hss:ZZ W2 (k:Int) c=⟨(Qc W2 (k:Int) c).floor,QX W2 (k:Int) c && !UD W2 (k:Int) c,(Qc W2 (gi W2.IC (k:Int)).parent c).floor+Yk ((Qc W2 (k:Int) c).v-(Qc W2 (gi W2.IC (k:Int)).parent c).floor) (Qc W2 (k:Int) c).w,(Qc W2 (k:Int) c).w,(Qc W2 (k:Int) c).sum⟩:=by
      unfold ZZ;rw[C']
      simpa[Qc] using g2
     have Sk:=Sk (ZZ W2 (k:Int) c);rw[hss] at Sk;have AI2:Ix m.gO W.IC.length (gi W2.IC (k:Int)).parent:=by have:=hr.g.ix p0 p1; rwa[tM] at this
     refine⟨W8,_,hr.g.parent Qo Rw,AI2,_,_,_,hr.g.Ry p0 p1,(hr.g.IE _ p0 p1).ix X7 c0 Qo,_,zpf.f (hr.g.IE _ p0 p1) c0 Qo (j:=0) rfl,⟨by show _<=(Qc W2 (k:Int) c).v-(Qc W2 (gi W2.IC (k:Int)).parent c).floor; omega,by show (Qc W2 (k:Int) c).v-(Qc W2 (gi W2.IC (k:Int)).parent c).floor<=_; omega⟩,_,KO,⟨?_,?_⟩,W8,_,_,_,hr.g.Ry Qo Rw,AN8,vV,⟨Qo,Qo⟩,λw3 R3 _=>Qp Qo ⟨Qo,Qo,?_⟩⟩
     ·show -9223372036854775808<=(Qc W2 (gi W2.IC (k:Int)).parent c).floor+Yk ((Qc W2 (k:Int) c).v-(Qc W2 (gi W2.IC (k:Int)).parent c).floor) (Qc W2 (k:Int) c).w;omega
     ·show (Qc W2 (gi W2.IC (k:Int)).parent c).floor+Yk ((Qc W2 (k:Int) c).v-(Qc W2 (gi W2.IC (k:Int)).parent c).floor) (Qc W2 (k:Int) c).w<=9223372036854775807;omega
     ·rw[SP,hss];exact(T'.Sl Sk BB6).step R3
    ·have hss:ZZ W2 (k:Int) c=⟨(Qc W2 (k:Int) c).floor,QX W2 (k:Int) c && !UD W2 (k:Int) c,(Qc W2 (k:Int) c).v,(Qc W2 (k:Int) c).w,(Qc W2 (k:Int) c).sum⟩:=by
      unfold ZZ;rw[B'];intro h1;rw[h1.1,show (gi (gi W2.IC (k:Int)).IE c).on=false from h1.2] at g2;cases g2
     have Sk:=Sk (ZZ W2 (k:Int) c);rw[hss] at Sk;refine⟨W8,_,_,_,hr.g.Ry Qo Rw,AN8,vV,⟨Qo,Qo⟩,λw3 R3 _=>Qp Qo ⟨Qo,Qo,?_⟩⟩;rw[SP,hss];exact(T'.Sl Sk BB6).step R3
  ·have RC:=Ou RC;have hN8:=hN8 Qo;refine⟨⟨Qo,Qo⟩,λw3 R3 _=>⟨⟨j+1,?_,Qo,?_⟩,?_⟩⟩
   ·rw[show d-1=3-((j+1:Nat):Int) by omega]
   ·rw[hN8];exact T'.step R3
   ·show (d-1).toNat<d.toNat;omega
 ·have hd:=Ou hd;rw[<-hE Qo];exact λw2 R0=>⟨rfl,(hM.step R0).close⟩
end
theorem P1{n:Nat}{m:MW}{i:Nat}{p:MG}:∀x∈QR n (GJ m i p),x∈QR n m\/x∈Qv p:=λx hx=>by
 rcases C1 hx with h | h | h | ⟨k,hk,h⟩
 ·exact .inl (zev h)
 ·exact .inl (zex h)
 ·exact .inl (zew h)
 ·simp only[GJ] at h
  split at h
  ·exact .inr h
  ·exact .inl (UV hk h)
theorem Mv.swap{n base:Nat}{bs:List Nat}{w0 w w':Wo}{W W':Q8}{m0 m m':MW}(h:Mv n base bs w0 m0 w W m)(k:Zj n base w' W' m')(hx:Q0 (QR n m) w w')(hm:m'={ m with ms:=m'.ms })(BB6:∀x∈QR n m',x∈QR n m\/(w0.heap.size<=x/\x∉bs)):Mv n base bs w0 m0 w' W' m':=
 ⟨k,h.ext.fresh hx λx hm=>(h.sub x hm).symm,λx hx=>by
  rcases BB6 x hx with h1 | h1
  ·exact h.sub x h1
  ·exact .inr h1.1,by rw[hm,h.hd],λx hx=>by
  rcases BB6 x hx with h1 | h1
  ·exact h.nb x h1
  ·exact h1.2,h.new⟩
section
variable {base:Nat}{W:Q8}{m:MW}{w:Wo}
theorem zap{K:Int}(h:Zj 8 base w W m)(gJ:SW K W)(hK:0<=K){c:Int}(c0:0<=c)(c1:c<(W.ID.length:Int)) :
  Cz ON #[.agg (Qb W m).toArray,I c] w λe w'=>e=.returned (.agg (Qb W m).toArray)/\Mv 8 base [] w m w' (Zc W c) m:=by
 refine(z6 _ _ _ _ _ _ _ _ _ _ c (R:=λv w'=>v=.agg (Qb W m).toArray/\Mv 8 base [] w m w' (Zc W c) m) ?_).mono λe w' ⟨v,he,hv,h3⟩=>⟨by rw[he,hv],h3⟩
 intro x hx x1 RR;have dD:=gJ.a.gl;refine XL W.IC.length 0 rfl (λk w2=>k<=8/\Mv 8 base [x,x1] w m w2 (QT W c k) m) (λw2 R0 _=>⟨Qd,(Mv.two h hx RR).M' R0⟩) λk w2 SR ⟨hk8,T'⟩=>?_
 obtain⟨oE,nN⟩:=Mw gJ hK c0 c1 k hk8;have e0:Qb (QT W c k) m=Qb W m:=UZ nN.fr;have hr:=T'.rd;have tM:(QT W c k).IC.length=W.IC.length:=nN.g.len;have AS0:(QT W c k).ID.length=W.ID.length:=by rw[nN.c]
 have SP:QT W c (k+1)=if (gi (QT W c k).IC (k:Int)).used=true/\Zy (QT W c k) (k:Int) c 20=true/\Z6 (QT W c k) (k:Int) c 20>(Qc (QT W c k) (k:Int) c).floor then RF (QT W c k) (k:Int) c (ER (QT W c k) (k:Int) c) else QT W c k:=rfl;have hN8:k=8->Zc W c=QT W c k:=λe=>by rw[e]; rfl
 generalize QT W c k=W2 at T' oE nN e0 hr tM AS0 SP hN8;refine⟨λIT=>?_,λRC=>?_⟩
 ·have IT:=Ot IT;have Rw:(k:Int)<(W2.IC.length:Int):=Qo;have W8:Ix m.gO W.IC.length (k:Int):=by have:=hr.g.ix (i:=(k:Int)) Qo Rw; rwa[tM] at this
  refine⟨W8,(gi W2.IC (k:Int)).used,hr.g.used Qo Rw,λg=>?_,λg=>?_⟩
  ·refine⟨⟨Qo,Qo⟩,λw3 R3 _=>Qp Qo ⟨Qo,?_⟩⟩;rw[SP,B' (λh1=>by rw[h1.1] at g; cases g)];exact T'.step R3
  ·have g:(gi W2.IC (k:Int)).used=true:=by simpa using g
   have hu:Q7 W2.IC (k:Int)=true:=Q4.2 ⟨Qo,Rw,g⟩;have hsl:=oE.a.sl hu;have hle:=Hp (g:=(k:Int)) hr oE.a c0 Qo;rw[e0] at hle;have hss:=hr.g.IE (k:Int) Qo Rw;have AN8:=hss.ix X7 c0 Qo;have vV:=z34 T'.own T'.nb (i:=(k:Int)) Qo Qo c0 Qo (j:=0) (k:=1) Qd;have Sk:=T'.own.Bv2 (i:=(k:Int)) Qo Qo c0 Qo (j:=0) (vs:=[I (Z6 W2 (k:Int) c 20)]) (x:=ER W2 (k:Int) c) rfl Qs;rw[<-z1b] at Sk;have BB6:Q0 (QR 8 m) w2 (R5 w2 (m.ms k).sO (Int.toNat c*5+0) [I (Z6 W2 (k:Int) c 20)]):=zms Qo;simp only[Ig] at vV AN8 Sk;refine⟨_,_,hle,λ_=>W8,_,_,_,λ_=>hr.g.Ry Qo Rw,λ_=>AN8,_,λ_=>zpf.f hss c0 Qo (j:=0) rfl,λg2=>?_,λg2=>?_⟩
   ·refine⟨W8,_,_,_,hr.g.Ry Qo Rw,AN8,vV,⟨Qo,Qo⟩,λw3 R3 _=>Qp Qo ⟨Qo,?_⟩⟩;rw[SP,C' ⟨g,by simpa[Qc] using g2⟩];exact(T'.Sl Sk BB6).step R3
   ·refine⟨⟨Qo,Qo⟩,λw3 R3 _=>Qp Qo ⟨Qo,?_⟩⟩;rw[SP,B']
    ·exact T'.step R3
    ·rintro⟨_,h1,h2⟩;rw[h1,show decide (Z6 W2 (k:Int) c 20>(gi (gi W2.IC (k:Int)).IE c).floor)=true from Ih h2] at g2;cases g2
 ·have RC:=Ou RC;rw[hN8 Qo];exact λw3 R3=>⟨rfl,(T'.step R3).close⟩
theorem G9.CU1{bs:List Nat}{w:Wo}{gs:List ZX}{ms:Nat->MG}{o:OA}(h:G9 bs w o gs ms){i:Int}(h0:0<=i)(h1:i<(gs.length:Int)):Q1 bs w o (Int.toNat i*14+8+3) [.slice (ms i.toNat).lO (gi gs i).IS.locals.length (ms i.toNat).lC]:=(h.cells i h0 h1).get 11 _ rfl
theorem G9.quo{bs:List Nat}{w:Wo}{gs:List ZX}{ms:Nat->MG}{o:OA}(h:G9 bs w o gs ms){i:Int}(h0:0<=i)(h1:i<(gs.length:Int)):Q1 bs w o (Int.toNat i*14+8+0) [I (gi gs i).IS.IX]:=(h.cells i h0 h1).get 8 _ rfl
def KR(m:MG)(p:MG):MG:=⟨p.lO,p.lC,p.dO,p.dC,m.sO,m.sC⟩
theorem P0{m p:MG}:∀x∈Qv (KR m p),x∈YC p\/x∈Qv m:=λx hx=>by
 simp only[Qv,KR,YC,Im] at hx ⊢;rcases hx with (h | h) | h
 ·exact .inl (.inl h)
 ·exact .inl (.inr h)
 ·exact .inr (.inr h)
theorem Zj.Bu9{n:Nat}(h:Zj n base w W m){i:Int}(h0:0<=i)(hi:i<(n:Int)){b:Vv}{p:MG}(hb:Zu base w b p)(hn:∀x∈YC p,x∉QR n m) :
  Zj n base (R5 w m.gO (Int.toNat i*14+8) (ZF b p)) (RL W i b) (GJ m i.toNat (KR (m.ms i.toNat) p)):=by
 have hm:=h.each h0 hi;refine h.Bk5 h0 hi (g:={ gi W.IC i with IS:=b }) (p:=KR (m.ms i.toNat) p) ⟨hb.loc,hb.Rz,hm.shl⟩ (λx hx=>?_) rfl (by simp[ZF]);rcases P0 x hx with h1 | h1
 ·exact .inl (hn x h1)
 ·exact .inr h1
theorem zhy{F K:Int}(h:Zj 8 base w W m)(gJ:SF F K W)(uF:base<=w.heap.size) :
  Cz MP #[.agg (Qb W m).toArray] w λe w'=>∃m',e=.returned (.agg (Qb W m).toArray)/\Mv 8 base [] w m w' (Gc W) m':=by
 refine(zhl _ _ _ _ _ _ _ _ _ _ (R:=λv w'=>∃m',v=.agg (Qb W m).toArray/\Mv 8 base [] w m w' (Gc W) m') ?_).mono λe w' ⟨v,he,m',hv,h3⟩=>⟨m',by rw[he,hv],h3⟩
 intro x hx x1 RR;have dD:=gJ.w.a.gl;have CM0:=gJ.w.a.c2;have Ar0:=X4 hx RR;refine XL W.IC.length 0 rfl (λk w2=>k<=8/\∃m2,Mv 8 base [x,x1] w m w2 (Yg W k) m2) (λw2 R0 _=>⟨Qd,m,(Mv.two h hx RR).M' R0⟩) λk w2 SR ⟨hk8,m2,T'⟩=>?_
 obtain⟨oE,nN⟩:=TW gJ k hk8;have tM:(Yg W k).IC.length=W.IC.length:=nN.g.len;have AS0:(Yg W k).ID.length=W.ID.length:=by rw[nN.c]
 have SP:Yg W (k+1)=if (gi (Yg W k).IC (k:Int)).used=true/\(gi (Yg W k).IC (k:Int)).IS.IX≠0 then ZV (Yg W k) (k:Int) (Yg W k).ID.length else Yg W k:=rfl;have hN8:k=8->Gc W=Yg W k:=λe=>by rw[e]; rfl
 generalize Yg W k=W2 at T' oE nN tM AS0 SP hN8;have hmg:m2.gO=m.gO:=by rw[T'.hd]
 have hr:=T'.rd;refine⟨λIT=>?_,λRC=>?_⟩
 ·have IT:=Ot IT;have Rw:(k:Int)<(W2.IC.length:Int):=Qo;have W8:Ix m.gO W.IC.length (k:Int):=by have:=hr.g.ix (i:=(k:Int)) Qo Rw; rwa[tM,hmg] at this
  have hru:=hr.g.used (i:=(k:Int)) Qo Rw;have hrq:=hr.g.quo (i:=(k:Int)) Qo Rw;rw[hmg] at hru hrq;refine⟨W8,(gi W2.IC (k:Int)).used,hru,λ_=>W8,_,λ_=>hrq,λg=>?_,λg=>?_⟩
  ·refine⟨⟨Qo,Qo⟩,λw3 R3 _=>Qp Qo ⟨Qo,m2,?_⟩⟩;rw[SP,B']
   ·exact T'.step R3
   ·rintro⟨h1,h2⟩;rw[h1] at g;simp[h2] at g
  ·simp only[H',I6,beq_eq_false_iff_ne] at g;have hu:Q7 W2.IC (k:Int)=true:=Q4.2 ⟨Qo,Rw,g.1⟩;rw[C' ⟨g.1,g.2⟩] at SP;refine XL W.ID.length 0 rfl (λc w3=>c<=W.ID.length/\∃m3,Mv 8 base [x,x1] w m w3 (ZV W2 (k:Int) c) m3) (λw3 R3 _=>⟨Ic _,m2,T'.step R3⟩) λc w3 gI ⟨hc,m3,cJ⟩=>?_
   obtain⟨hS3,hO3,hq3⟩:=Hi oE hu g.2 c Qo;have CN3:(ZV W2 (k:Int) c).IC.length=W.IC.length:=by rw[hO3.g.len,tM]
   have CL9:(ZV W2 (k:Int) c).ID.length=W.ID.length:=by rw[hO3.c,AS0]
   have AD4:ZV W2 (k:Int) (c+1)=if gi (gi (ZV W2 (k:Int) c).IC (k:Int)).IS.locals (c:Int)>0/\QX (ZV W2 (k:Int) c) (k:Int) (c:Int)=false then RL (ZV W2 (k:Int) c) (k:Int) (YG (gi (ZV W2 (k:Int) c).IC (k:Int)).IS (c:Int)) else ZV W2 (k:Int) c:=rfl;have hN3:c=W.ID.length->Yg W (k+1)=ZV W2 (k:Int) c:=λe=>by rw[SP,AS0,e]
   have e3:Qb (ZV W2 (k:Int) c) m3=Qb W m:=cJ.AP6 (by rw[hO3.n,nN.n]) CL9 (by rw[hO3.t,nN.t]) CN3;have hu3:Q7 (ZV W2 (k:Int) c).IC (k:Int)=true:=by rw[hO3.g.eB]; exact hu
   generalize ZV W2 (k:Int) c=W3 at cJ hS3 hO3 hq3 CN3 CL9 AD4 hN3 e3 hu3;have CP2:m3.gO=m.gO:=by rw[cJ.hd]
   have hr3:=cJ.rd;refine⟨λCP1=>?_,λBg3=>?_⟩
   ·have CP1:=Ot CP1;obtain⟨u0,u1,kF⟩:=hS3.w.a.u hu3;obtain⟨hb,hbl,_⟩:=kF.IS hq3;have Aa5:(k:Int)<(W3.IC.length:Int):=Qo;have hrl:=hr3.g.CU1 (i:=(k:Int)) Qo Aa5;have hrb:=hr3.g.IS (i:=(k:Int)) Qo Aa5;rw[CP2] at hrl hrb;have hLo:=hr3.g.locals (k:Int) Qo Aa5;have hDo:=hr3.g.Rz (k:Int) Qo Aa5;have Aq6:=M3 (g:=(k:Int)) (c:=(c:Int)) hr3 hS3.w.a Qo Qo;rw[e3] at Aq6;refine⟨W8,_,_,_,hrl,hLo.ix JU Qo Qo,_,hLo (c:Int) Qo Qo,_,λ_=>Aq6,λg3=>?_,λg3=>?_⟩
    ·simp only[A',Ij,IB] at g3;rw[C' g3] at AD4;refine⟨W8,_,_,_,_,_,_,_,_,_,hrb,λRj R3 fT=>?_⟩;have eD:=cJ.step R3;have hr4:=eD.rd0;refine I3 (VA (op:=⟨3,(c:Int),0⟩) hb (hr4.g.locals (k:Int) Qo Aa5) (hr4.g.Rz (k:Int) Qo Aa5)) ?_;rintro e Rr ⟨p,he,hO,hy⟩
     have fR:ZU (gi W3.IC (k:Int)).IS ⟨3,(c:Int),0⟩=(YG (gi W3.IC (k:Int)).IS (c:Int),0):=by
      unfold ZU;rw[B' (show ¬(3:Int)=4 by decide),B' (by rw[Qx.2 (by show 0<=(c:Int)/\(c:Int)<=_; omega)]; decide),B' (show ¬(3:Int)=1 by decide),B' (show ¬(3:Int)=2 by decide),C' rfl]
     rw[fR] at he hO
     dsimp only at he hO
     have tV:=eD.M' hy;have hbs:base<=Rj.heap.size:=by have:=eD.ext.size; omega
     have hOb:∀y∈YC p,Rj.heap.size<=y:=λy hy=>(hO.lt y hy).1
     have BB3:=tV.own.Bu9 (i:=(k:Int)) Qo Qo (hO.mono hbs) (λy hy hm=>by have:=hOb y hy; have:=(eD.own.lt y hm).2; omega);have vV:=zs7 tV.own tV.nb (i:=(k:Int)) Qo Qo (j:=8) (k:=5) Qd;have tB:=eD.ext.size
     have rZ:=tV.swap BB3 zbf rfl λy hy=>by
      rcases P1 y hy with h1 | h1
      ·exact .inl h1
      ·rcases P0 y h1 with h2 | h2
       ·have:=hOb y h2;exact .inr ⟨Qo,λhm=>by have:=fT y hm; omega⟩
       ·exact .inl (UV Qo h2)
     rw[CP2] at vV rZ;refine⟨_,_,_,_,_,_,_,_,_,_,he,Qf hy fT,λb2 bR=>⟨W8,vV,⟨Qo,Qo⟩,λw5 Sb _=>Qp (w1:=w3) Qo ⟨Qo,GJ m3 (Int.toNat (k:Int)) (KR (m3.ms (Int.toNat (k:Int))) p),?_⟩⟩⟩;rw[AD4];exact rZ.step Sb
    ·refine⟨⟨Qo,Qo⟩,λw5 Sb _=>Qp Qo ⟨Qo,m3,?_⟩⟩;rw[AD4,B']
     ·exact cJ.step Sb
     ·rintro⟨h1,h2⟩;rw[h2,Ih h1] at g3;cases g3
   ·have Bg3:=Ou Bg3;refine⟨⟨Qo,Qo⟩,λw5 Sb _=>Qp Qo ⟨Qo,m3,?_⟩⟩;rw[hN3 Qo];exact cJ.step Sb
 ·have RC:=Ou RC;rw[hN8 Qo];exact λw3 R3=>⟨m2,rfl,(T'.step R3).close⟩
end
section
variable {base:Nat}{W:Q8}{m:MW}{w:Wo}
theorem LJ{W W':Q8}(h:Fr W W'):W'.ID.length=W.ID.length/\W'.tasks.length=W.tasks.length/\W'.IC.length=W.IC.length:=⟨h.c,by rw[h.t],h.g.len⟩
theorem zqa{n:Nat}{bs:List Nat}{w0 w:Wo}{W0 W:Q8}{m0 m:MW}(h:Mv n base bs w0 m0 w W m)(hf:Fr W0 W):Qb W m=Qb W0 m0:=h.AP6 hf.n hf.c (by rw[hf.t]) hf.g.len
theorem Qy{K:Int}(h:Zj 8 base w W m)(gJ:SW K W)(hK0:0<=K)(hK:K<=100000000000000000)(uF:base<=w.heap.size) :
  Cz Qt #[.agg (Qb W m).toArray] w λe w'=>∃m',e=.returned (.agg (Qb (Qh W) m').toArray)/\Mv 8 base [] w m w' (Qh W) m':=by
 refine(z7 _ _ _ _ _ _ _ _ _ _ (R:=λv w'=>∃m',v=.agg (Qb (Qh W) m').toArray/\Mv 8 base [] w m w' (Qh W) m') ?_).mono λe w' ⟨v,he,m',hv,h3⟩=>⟨m',by rw[he,hv],h3⟩
 intro x hx x1 RR;have dD:=gJ.a.gl;have CM0:=gJ.a.c2;have hm9:=Zg;refine⟨λvs w1=>∃(k:Nat),vs=I (k:Int)::Qb W m/\k<=W.ID.length/\Mv 8 base [x,x1] w m w1 (Yl W k) m,Zx W.ID.length 0,λw1 tZ _=>⟨0,rfl,Ic _,(Mv.two h hx RR).M' tZ⟩,?_⟩;rintro c1 l RV Sa Sg S3 Sd Sf S4 S5 S8 Rr SR ⟨k,he,hk,hM⟩;obtain⟨hS,hO⟩:=OV (F:=K) (K:=K+Qj) (gJ.sf.mono (I2 _) (by simp only[Qj]; omega)) (I2 _) k hk;have SP:Yl W (k+1)=QJ (Yl W k) (k:Int):=rfl;have nO:k=W.ID.length->Yl W W.ID.length=Yl W k:=λe=>by rw[e]
 have e0:=zqa hM hO.fr;obtain⟨n1,n2,n3⟩:=LJ hO.fr;simp only[Qb,I4,I5,Iv,true_and,and_true] at he;obtain⟨rfl,rfl,⟨rfl,rfl,rfl⟩,⟨rfl,rfl,rfl⟩,rfl,rfl,rfl⟩:=he;generalize Yl W k=W1 at hM hS hO SP nO e0 n1 n2 n3;refine⟨λIT Rj R3 gI=>?_,λRC RE Sb hZ=>?_⟩
 ·have IT:=Ot IT;have cJ:=hM.step R3;have Rt:=Hq cJ.own hS Qo (by simp only[Qj]; omega) (c:=(k:Int)) Qo Qo;rw[e0] at Rt;refine I3 Rt ?_;rintro e RO ⟨he,hy⟩;refine⟨_,_,_,_,_,_,_,_,_,_,he,cJ.kept hy gI,⟨Qo,Qo⟩,λRn Si _=>⟨⟨k+1,rfl,Qo,?_⟩,?_⟩⟩
  ·rw[SP];exact(cJ.call hy gI).step Si
  ·simp only[Zx,Xm,ZP,Ie]; omega
 ·have RC:=Ou RC;have hkk:k=W.ID.length:=Qo;have nO:=nO hkk;have tV:=hM.step Sb;have hb5:base<=RE.heap.size:=by have:=tV.ext.size; omega
  have Rt:=zhy tV.own hS hb5;rw[e0] at Rt;refine I3 Rt ?_;rintro e2 aE ⟨m4,aM,Sm⟩;obtain⟨hS4,hO4⟩:=TW hS 8 Qd;have rZ:=tV.call Sm hZ;have Sk:Qh W=Jg (Gc W1) W.ID.length:=by unfold Qh; rw[nO]
  have hf4:Fr W (Gc W1):=hO.fr.trans hO4.fr;have CK6:SW (K+Qj) (Gc W1):=hS4.w;have CO7:=LJ hf4;generalize Gc W1=W4 at rZ Sk hf4 CK6 CO7;refine⟨_,_,_,_,_,_,_,_,_,_,aM,tV.kept Sm hZ,λvs w1=>∃(k:Nat) (m1:MW),vs=I (k:Int)::Qb W m/\k<=W.ID.length/\Mv 8 base [x,x1] w m w1 (Jg W4 k) m1,Zx W.ID.length 0,λw1 tZ _=>⟨0,m4,rfl,Ic _,rZ.step tZ⟩,?_⟩;rintro c3 l RV Sa Sg S3 Sd Sf S4 S5 S8 fM hs7 ⟨k,m7,he,hk,uD⟩;obtain⟨hS7,hf7⟩:=Lu CK6 (by simp only[Qj]; omega) k Qo;have AS1:Jg W4 (k+1)=VG (Jg W4 k) (k:Int):=rfl;have AS4:k=W.ID.length->Qh W=Jg W4 k:=λe=>by rw[Sk,e]
  have hfW:=hf4.trans hf7;have e7:=zqa uD hfW;obtain⟨q1,q2,q3⟩:=LJ hfW;simp only[Qb,I4,I5,Iv,true_and,and_true] at he;obtain⟨rfl,rfl,⟨rfl,rfl,rfl⟩,⟨rfl,rfl,rfl⟩,rfl,rfl,rfl⟩:=he;generalize Jg W4 k=W7 at uD hS7 hf7 AS1 AS4 hfW e7 q1 q2 q3;refine⟨λIT Ww kS hs9=>?_,λRC=>?_⟩
  ·have IT:=Ot IT;have hM9:=uD.step kS;have hk4:(k:Int)<=4:=Qo;have hKb:K+Qj+(k:Int)*Qj+Qj<=1000000000000000000:=by simp only[Qj]; omega
   have tU:(k:Int)<(W7.ID.length:Int):=Qo;have hSF:=hS7.sf.mono (F':=K+Qj+(k:Int)*Qj) (K':=K+Qj+(k:Int)*Qj+Qj) (I2 _) (by simp only[Qj]; omega);have Rt:=Hq hM9.own hSF (I2 _) hKb (c:=(k:Int)) Qo tU;rw[e7] at Rt;refine I3 Rt ?_;rintro e4 vO ⟨he4,fL⟩;obtain⟨hS8,hO8⟩:=Dc hSF (I2 _) (c:=(k:Int)) Qo tU;have hM8:=hM9.call fL hs9;refine⟨_,_,_,_,_,_,_,_,_,_,he4,hM9.kept fL hs9,λS9 AD8 nP=>?_⟩;have AR7:=hM8.step AD8;have cX:VG W7 (k:Int)=if MX (Zc (QJ W7 (k:Int)) (k:Int)) (k:Int)=true then Rp (Zc (QJ W7 (k:Int)) (k:Int)) (k:Int) else Zc (QJ W7 (k:Int)) (k:Int):=rfl;have c2':(k:Int)<((QJ W7 (k:Int)).ID.length:Int):=by rw[hO8.c]; exact tU
   have Bf4:=zap AR7.own hS8.w (by simp only[Qj]; omega) (c:=(k:Int)) Qo c2';rw[UZ hO8.fr,e7] at Bf4;obtain⟨B73,B72⟩:=Mw hS8.w (by simp only[Qj]; omega) (c:=(k:Int)) Qo c2' 8 Qd;refine I3 Bf4 ?_;rintro e5 wA ⟨he5,hy5⟩;have Aa3:=AR7.call hy5 nP;have A99:=AR7.kept hy5 nP;have BR3:Fr W (Zc (QJ W7 (k:Int)) (k:Int)):=(hfW.trans hO8.fr).trans B72.fr;have uE:SW (K+Qj+(k:Int)*Qj+Qj) (Zc (QJ W7 (k:Int)) (k:Int)):=B73;generalize Zc (QJ W7 (k:Int)) (k:Int)=W11 at Aa3 BR3 uE cX;have e11:=zqa Aa3 BR3;have Bt2:m7.cO=m.cO/\m7.tO=m.tO:=by rw[uD.hd]; exact⟨rfl,rfl⟩
   obtain⟨r1,r2,r3⟩:=LJ BR3;have hr:=Aa3.rd;have c3':(k:Int)<(W11.ID.length:Int):=Qo;have sA:=uE.cu (k:Int) Qo c3';have fZ:=uE.a.t;have CN9:=hr.c.ix Yh (i:=(k:Int)) Qo c3';have hrC:=hr.c.f (i:=(k:Int)) Qo c3' (j:=1) rfl
   have hT:(decide ((gi W11.ID (k:Int)).cur>=0))=true->0<=(gi W11.ID (k:Int)).cur/\(gi W11.ID (k:Int)).cur<(W11.tasks.length:Int):=λg=>by
    have:=Ot g;exact⟨this,Qo⟩
   have mS:∀g:(decide ((gi W11.ID (k:Int)).cur>=0))=true,PX [x,x1] YR #[.agg (Qb W m).toArray,I (gi W11.ID (k:Int)).cur] wA (.bool (ZL W11 (gi W11.ID (k:Int)).cur)):=λg=>by
    have:=VV hr uE.a (hT g).1 (hT g).2 (λhs=>uE.li (hT g).1 (hT g).2 hs)
    rwa[e11] at this
   rw[r1,Bt2.1] at CN9;rw[Bt2.1] at hrC;refine⟨_,_,_,_,_,_,_,_,_,_,he5,A99,CN9,_,hrC,λg=>?_,(Q6 W11 (gi W11.ID (k:Int)).cur).J',λg=>?_,ZL W11 (gi W11.ID (k:Int)).cur,λ_ g=>mS g,λg Sh AT0 AD6=>?_,λg=>?_⟩
   ·have:=hr.t.ix QG (hT g).1 (hT g).2
    rwa[r2,Bt2.2] at this
   ·have:=hr.t.f (hT g).1 (hT g).2 (j:=2) rfl
    rwa[Bt2.2] at this
   ·have BA0:=Aa3.step AT0;have Bf5:=ZG BA0.own (c:=(k:Int)) Qo c3';rw[e11] at Bf5;refine I3 Bf5 ?_;rintro e6 gU ⟨he6,hy6⟩;have e12:=UZ (m:=m7) (zdv W11 (k:Int));rw[e11] at e12;rw[e12] at he6;refine⟨_,_,_,_,_,_,_,_,_,_,he6,BA0.kept hy6 AD6,⟨Qo,Qo⟩,λSo wS _=>⟨⟨k+1,m7,rfl,Qo,?_⟩,?_⟩⟩
    ·rw[AS1,cX,C' (by unfold MX; exact g)];exact(BA0.call hy6 AD6).step wS
    ·simp only[Zx,Xm,ZP,Ie]; omega
   ·refine⟨⟨Qo,Qo⟩,λSo wS _=>⟨⟨k+1,m7,rfl,Qo,?_⟩,?_⟩⟩
    ·rw[AS1,cX,B' (by unfold MX; rw[g]; decide)];exact Aa3.step wS
    ·simp only[Zx,Xm,ZP,Ie]; omega
  ·have RC:=Ou RC;have AS4:=AS4 Qo;rw[AS4];refine λw9 kS=>⟨m7,?_,(uD.step kS).close⟩
   rw[e7]; rfl
end
theorem Yu{n:Int}{w:Wo}{bs:List Nat}:PX bs Zz #[I n] w (.bool (decide (n<=Qq))):=zim n λwr hx=>rfl
section
variable {W:Q8}{m:MW}{w:Wo}{bs:List Nat}
theorem Ld(h:XF bs w W m)(hl:UG W):PX bs Uv #[.agg (Qb W m).toArray] w (.bool (Ul (Jq W/\Ga W))):=
 As _ _ _ _ _ _ _ _ _ _ λwr hx=>by
  have h:=(h.ext hx).less (cs:=[]) Qs;intro x hx;refine⟨_,US h hl.c hl.t hl.g hl.f,_,λ_=>Yu,λg=>GB ?_,λg=>?_⟩
  ·rintro⟨wp,r⟩;rw[show QB W=true from Qm.2 wp,show decide (W.now<=Qq)=true from Ih r.n] at g;cases g
  ·simp only[H',I6] at g;have wp:Jq W:=Qm.1 g.1;have CP9:=Ot g.2;have dD:=wp.a.gl;have fZ:=wp.a.t;have tL:=wp.a.c2;refine J1 W.ID.length 0 rfl (λk=>k<=W.ID.length/\∀c:Int,0<=c->c<(k:Int)->(gi W.ID c).busy<=Qq/\(gi W.ID c).idle<=Qq) ⟨Ic _,λc a b=>by omega⟩ λk ⟨hk,hI⟩=>⟨λIT=>?_,λRC=>?_⟩
   ·have IT:=Ot IT;refine⟨h.c.ix Yh Qo IT,_,h.c.f Qo IT (j:=3) rfl,_,Yu,λ_=>h.c.ix Yh Qo IT,_,λ_=>h.c.f Qo IT (j:=4) rfl,_,λ_=>Yu,λg2=>GB ?_,λg2=>⟨⟨Qo,Qo⟩,QH Qo ⟨Qo,λc a b=>?_⟩⟩⟩
    ·rintro⟨_,r⟩;have:=r.c (k:Int) Qo IT;rw[Ih this.1,Ih this.2] at g2;cases g2
    ·by_cases e:c=(k:Int)
     ·subst e;simp only[H',I6] at g2;exact⟨Ot g2.1,Ot g2.2⟩
     ·exact hI c a Qo
   have RC:=Ou RC;have hC:∀c:Int,0<=c->c<(W.ID.length:Int)->(gi W.ID c).busy<=Qq/\(gi W.ID c).idle<=Qq:=λc a b=>hI c a Qo
   clear hI;refine J1 W.tasks.length 0 rfl (λk=>k<=W.tasks.length/\∀t:Int,0<=t->t<(k:Int)->(gi W.tasks t).v<=Qq/\(gi W.tasks t).sum<=Qq/\(gi W.tasks t).used<=Qq) ⟨Ic _,λc a b=>by omega⟩ λk ⟨hk,hI⟩=>⟨λIT=>?_,λRC=>?_⟩
   ·have IT:=Ot IT;have W8:=h.t.ix QG (i:=(k:Int)) Qo IT;refine⟨W8,_,h.t.f Qo IT (j:=5) rfl,_,Yu,λ_=>W8,_,λ_=>h.t.f Qo IT (j:=6) rfl,_,λ_=>Yu,λ_=>W8,_,λ_=>h.t.f Qo IT (j:=7) rfl,_,λ_=>Yu,λg2=>GB ?_,λg2=>⟨⟨Qo,Qo⟩,QH Qo ⟨Qo,λc a b=>?_⟩⟩⟩
    ·rintro⟨_,r⟩;have:=r.t (k:Int) Qo IT;rw[Ih this.1,Ih this.2.1,Ih this.2.2] at g2;cases g2
    ·by_cases e:c=(k:Int)
     ·subst e;simp only[H',I6] at g2;exact⟨Ot g2.1.1,Ot g2.1.2,Ot g2.2⟩
     ·exact hI c a Qo
   have RC:=Ou RC;have hT:∀t:Int,0<=t->t<(W.tasks.length:Int)->(gi W.tasks t).v<=Qq/\(gi W.tasks t).sum<=Qq/\(gi W.tasks t).used<=Qq:=λc a b=>hI c a Qo
   clear hI;refine J1 W.IC.length 0 rfl (λk=>k<=W.IC.length/\∀j:Int,0<=j->j<(k:Int)->(gi W.IC j).sum<=Qq/\∀c:Int,0<=c->c<((gi W.IC j).IE.length:Int)->(Qc W j c).floor<=Qq/\(Qc W j c).v<=Qq/\(Qc W j c).sum<=Qq) ⟨Ic _,λc a b=>by omega⟩ λk ⟨hk,hI⟩=>⟨λIT=>?_,λRC=>?_⟩
   ·have IT:=Ot IT;have W8:=h.g.ix (i:=(k:Int)) Qo IT
    have hsl:(gi W.IC (k:Int)).IE.length<=4:=by
     have:=wp.a.grp (k:Int) Qo Qo
     cases hu:(gi W.IC (k:Int)).used with
     | true=>have:=(this.2 hu).len; omega
     | false=>have:=(this.1 hu).l; omega
    refine⟨W8,_,(h.g.cells (k:Int) Qo IT).get 7 _ rfl,_,Yu,λg2=>GB ?_,λg2=>?_⟩
    ·rintro⟨_,r⟩;have:=r.g (k:Int) Qo IT;rw[Ih this] at g2;cases g2
    have g2:(gi W.IC (k:Int)).sum<=Qq:=by simpa using g2
    have hrs:=h.g.IE (k:Int) Qo IT;refine J1 (gi W.IC (k:Int)).IE.length 0 rfl (λq=>q<=(gi W.IC (k:Int)).IE.length/\∀c:Int,0<=c->c<(q:Int)->(Qc W (k:Int) c).floor<=Qq/\(Qc W (k:Int) c).v<=Qq/\(Qc W (k:Int) c).sum<=Qq) ⟨Ic _,λc a b=>by omega⟩ λq ⟨hq,hJ⟩=>⟨W8,_,_,_,h.g.Ry Qo IT,λRw=>?_,λbP=>?_⟩
    ·have Rw:=Ot Rw;refine⟨W8,_,_,_,h.g.Ry Qo IT,hrs.ix X7 Qo Rw,_,_,_,_,_,hrs (q:Int) Qo Rw,λb1 fQ=>⟨_,Yu,_,λ_=>Yu,_,λ_=>Yu,λg3=>GB ?_,λg3=>⟨⟨Qo,Qo⟩,QH Qo ⟨Qo,λc a b=>?_⟩⟩⟩⟩
     ·rintro⟨_,r⟩;have:=r.s (k:Int) (q:Int) Qo IT Qo Rw;unfold Qc at this;rw[Ih this.1,Ih this.2.1,Ih this.2.2] at g3;cases g3
     ·by_cases e:c=(q:Int)
      ·subst e;simp only[H',I6] at g3;exact⟨Ot g3.1.1,Ot g3.1.2,Ot g3.2⟩
      ·exact hJ c a Qo
    ·have bP:=Ou bP;refine⟨⟨Qo,Qo⟩,QH Qo ⟨Qo,λj a b=>?_⟩⟩
     by_cases e:j=(k:Int)
     ·subst e;exact⟨g2,λc a b=>hJ c a Qo⟩
     ·exact hI j a Qo
   ·have RC:=Ou RC;exact zpd ⟨wp,⟨CP9,hC,hT,λj a b=>(hI j a Qo).1,λj c a b c0 c1=>(hI j a Qo).2 c c0 c1⟩⟩
theorem Ug{t:Int}(h:XF bs w W m)(hl:W.tasks.length<=maxLen):PX bs Xb #[.agg (Qb W m).toArray,I t] w (.bool (Z4 W t)):=
 zio _ _ _ _ _ _ _ _ _ _ t λwr hx=>by
  have h:=(h.ext hx).less (cs:=[]) Qs;intro x hx;have:=J5;refine⟨⟨Qo,Qo⟩,_,Qu,λg=>?_,_,λg=>?_,rfl⟩
  ·have:=Qx.1 g;exact h.t.ix QG Qo Qo
  ·have:=Qx.1 g;exact h.t.f Qo Qo (j:=0) rfl
end
structure Nd (base:Nat) (bs:List Nat) (w:Wo) (o:OA) (cap:Nat) (ps:List (ZX×MG)):Prop where
 own:LA base w o cap ps
 nb:∀x∈QM o,x∉bs
 nm:∀i:Int,0<=i->i<(ps.length:Int)->∀x∈Qv (gi ps i).2,x∉bs
section
variable {base:Nat}{bs cs:List Nat}{w w':Wo}{o:OA}{cap:Nat}{ps:List (ZX×MG)}{b:Nat}
theorem Nd.lt(h:Nd base bs w o cap ps):(∀x∈QM o,base<=x/\x<w.heap.size)/\∀i:Int,0<=i->i<(ps.length:Int)->∀x∈Qv (gi ps i).2,base<=x/\x<w.heap.size:=⟨h.own.row.lt,λi a b=>(h.own.each i a b).lt⟩
theorem Nd.ext(h:Nd base bs w o cap ps)(hx:Q0 cs w w')(h1:∀x∈QM o,x∉cs)(h2:∀i:Int,0<=i->i<(ps.length:Int)->∀x∈Qv (gi ps i).2,x∉cs):Nd base bs w' o cap ps:=
 ⟨⟨h.own.row.ext hx h1,λi a b=>(h.own.each i a b).ext hx (h2 i a b),h.own.dj⟩,h.nb,h.nm⟩
theorem Nd.step(h:Nd base bs w o cap ps)(hx:Q0 bs w w'):Nd base bs w' o cap ps:=h.ext hx h.nb h.nm
theorem Nd.M'(h:Nd base bs w o cap ps)(hx:Q0 [] w w'):Nd base bs w' o cap ps:=h.ext hx Qs Qs
theorem Nd.add(h:Nd base bs w o cap ps)(hb:w.heap.size<=b):Nd base (bs++[b]) w o cap ps:=
 have key:∀x,x<w.heap.size->x∉bs->x∉bs++[b]:=λx hl hx hm=>by
  rcases Im.1 hm with hm | hm
  ·exact hx hm
  ·have:x=b:=by simpa using hm
   omega
 ⟨h.own,λx hx=>key x (h.lt.1 x hx).2 (h.nb x hx),λi a c x hx=>key x (h.lt.2 i a c x hx).2 (h.nm i a c x hx)⟩
theorem Nd.put(h:Nd base bs w o cap ps)(hx:Q0 bs w w')(hb:w.heap.size<=b):Nd base (bs++[b]) w' o cap ps:=⟨(h.step hx).own,(h.add hb).nb,(h.add hb).nm⟩
theorem Nd.sub(h:Nd base bs w o cap ps)(hs:∀x∈cs,x∈bs):Nd base cs w o cap ps:=⟨h.own,λx hx hm=>h.nb x hx (hs x hm),λi a c x hx hm=>h.nm i a c x hx (hs x hm)⟩
theorem Nd.nil(base:Nat)(bs:List Nat)(w:Wo):Nd base bs w none 0 []:=⟨⟨.inl ⟨rfl,rfl,rfl⟩,λi a b=>by simp at b; omega,λi j a b=>by simp at b; omega⟩,by simp[QM],λi a b=>by simp at b; omega⟩
theorem z1x{α:Type}[Inhabited α]{l:List α}{x:α}{i:Int}(h0:0<=i)(h1:i<(l.length:Int)):gi (l++[x]) i=gi l i:=by
 obtain⟨k,rfl⟩:=Int.eq_ofNat_of_zero_le h0;rw[Tj (by simp; omega),Tj Qo,List.getElem_append_left]
theorem zzc{α:Type}[Inhabited α]{l:List α}{x:α}:gi (l++[x]) (l.length:Int)=x:=by
 rw[Tj Qs]; simp
theorem Nd.AR2{p:ZX×MG}{t':TypeId}{fz:Nat×Nat}(h:Nd base bs w o cap ps)(hs:∀x∈bs,x<w.heap.size)(uF:base<=w.heap.size)(hp:Mj base w p)(hpb:∀x∈Qv p.2,x∉bs)(hd:∀i:Int,0<=i->i<(ps.length:Int)->∀x∈Qv (gi ps i).2,x∉Qv p.2)(hb:w.heap[b]? = some (.cells (Oz p).toArray t' fz))(h1:Zk (Oz p)=true)(hl:ps.length<=1048576)(tr:TypeId)(cs:Array Bool) :
  ∃o' rW w',(builtin .append #[QD,QD] tr cs #[.slice o ps.length cap,.slice (some ⟨b,0,none⟩) 1 1]).run Tryz.prog w=.ok (.value (.slice o' (ps++[p]).length rW)) w'/\Q9 bs w w'/\Nd base bs w' o' rW (ps++[p])/\Q0 (QM o) w w':=by
 obtain⟨o2,c2,w2,Ws,hk,hO,hx⟩:=Ob.AR2 Yy M4 (⟨h.own.row,h.nb⟩:Ob Oz 14 QW base bs w o cap ps) hs uF hb h1 hl Qd tr cs;have hlen:(ps++[p]).length=ps.length+1:=Qs
 have BI3:∀i:Int,0<=i->i<((ps++[p]).length:Int)->(i<(ps.length:Int)/\gi (ps++[p]) i=gi ps i)\/(i=(ps.length:Int)/\gi (ps++[p]) i=p):=λi a b=>by
  by_cases e:i<(ps.length:Int)
  ·exact .inl ⟨e,z1x a e⟩
  ·have:i=(ps.length:Int):=Qo;subst this;exact .inr ⟨rfl,zzc⟩
 refine⟨o2,c2,w2,Ws,hk,⟨⟨hO.own,λi a b=>?_,λi j a b c d e=>?_⟩,hO.nb,λi a b=>?_⟩,hx⟩
 ·rcases BI3 i a b with ⟨hi,hg⟩ | ⟨hi,hg⟩
  ·rw[hg]; exact(h.own.each i a hi).ext hx (JQ h.own.row (h.own.each i a hi))
  ·rw[hg]; exact hp.ext hx (JQ h.own.row hp)
 ·rcases BI3 i a b with ⟨hi,hg⟩ | ⟨hi,hg⟩ <;> rcases BI3 j c d with ⟨hj,hg'⟩ | ⟨hj,hg'⟩
  ·rw[hg,hg']; exact h.own.dj i j a hi c hj e
  ·rw[hg,hg']; exact hd i a hi
  ·rw[hg,hg']; exact λx hx hm=>hd j c hj x hm hx
  ·omega
 ·rcases BI3 i a b with ⟨hi,hg⟩ | ⟨hi,hg⟩
  ·rw[hg]; exact h.nm i a hi
  ·rw[hg]; exact hpb
end
theorem z3u(g:ZX)(m:MG):Zk (YE g m)=true:=rfl
theorem GW{W:Q8}(ha:WA W){k:Int}(k0:0<=k)(k1:k<8):(gi W.IC k).IS.Rz.length=(gi W.IC k).IS.locals.length/\(gi W.IC k).IS.locals.length<=4/\(gi W.IC k).IE.length<=4:=by
 have hg:=ha.grp k k0 k1;have hc:=ha.c2
 cases hu:(gi W.IC k).used with
 | false=>
  have:=hg.1 hu;have hb:=Hy this.b;have:=this.l;omega
 | true=>
  have:=hg.2 hu;have hl:=this.len
  by_cases hq:(gi W.IC k).IS.IX=0
  ·have hb:=Hy (this.none hq).1;omega
  ·have hb:=(this.IS hq).1;have h1:=hb.dl;have h2:=hb.l2;omega
section
variable {W:Q8}{m:MW}{w:Wo}{bs:List Nat}
def Oh(W:Q8)(ms:Nat->MG)(k:Nat):List (ZX×MG):=(List.range k).map λ(j:Nat)=>(gi W.IC (j:Int),ms j)
theorem Xe(W:Q8)(ms:Nat->MG)(k:Nat):(Oh W ms k).length=k:=by simp[Oh]
theorem Di{W:Q8}{ms:Nat->MG}{k:Nat}{i:Int}(h0:0<=i)(h1:i<(k:Int)):gi (Oh W ms k) i=(gi W.IC i,ms i.toNat):=by
 obtain⟨j,rfl⟩:=Int.eq_ofNat_of_zero_le h0;rw[Tj (by rw[Xe]; omega)];simp[Oh]
theorem zuo(W:Q8)(ms:Nat->MG)(k:Nat)(p:MG):Oh W (λj=>if j=k then p else ms j) (k+1)=Oh W ms k++[(gi W.IC (k:Int),p)]:=by
 unfold Oh;rw[List.range_succ,List.map_append]
 congr 1
 ·refine List.map_congr_left λj hj=>?_
  have:=List.mem_range.1 hj;show (_,if j=k then p else ms j)=_;rw[B' Qo]
 ·simp
theorem Mq(h:XF [] w W m)(ha:WA W) :
  Cz Uf #[.agg (Qb W m).toArray] w λe w'=>∃m',e=.returned (.agg (Qb W m').toArray)/\Zj 8 w.heap.size w' W m'/\Q0 [] w w':=by
 refine(zli _ _ _ _ _ _ _ _ _ _ (R:=λv w'=>∃m',v=.agg (Qb W m').toArray/\Zj 8 w.heap.size w' W m'/\Q0 [] w w') ?_).mono λe w' ⟨v,he,m',hv,h3⟩=>⟨m',by rw[he,hv],h3⟩
 have tL:=ha.c2;have fZ:=ha.t;have dD:=ha.gl;intro x hx x1 RR x2 R0;have s0:Sc w [x,x1,x2] w:=(((Sc.start w).add hx).add RR).add R0
 refine⟨λvs w1=>∃(i:Nat) (cO:OA) (cC:Nat),vs=[I (i:Int),I W.now,.slice cO (W.ID.take i).length cC,.slice none 0 0,.slice none 0 0]/\i<=W.ID.length/\Sc w [x,x1,x2] w1/\Ob DJ 5 ZB w.heap.size [x,x1,x2] w1 cO cC (W.ID.take i),
  Zx W.ID.length 0,λwr hx _=>⟨0,none,0,Qs,Ic _,s0.M' hx,⟨.inl ⟨rfl,rfl,rfl⟩,by simp[QM]⟩⟩,?_⟩
 rintro c1 l RV Sa Sg S3 Sd Sf S4 S5 S8 Rr SR ⟨i,cO,cC,he,hi,s1,hC⟩;simp only[I4,I5,Iv,true_and,and_true] at he;obtain⟨rfl,rfl,⟨rfl,rfl,rfl⟩,⟨rfl,rfl,rfl⟩,rfl,rfl,rfl⟩:=he;refine⟨λIT=>?_,λRC=>?_⟩
 ·have IT:=Ot IT;have hr:=h.c.scb s1;refine⟨hr.ix Yh Qo IT,_,_,_,_,_,hr i Qo IT,λb4 hb4=>⟨rfl,λRj R3 gI SO=>?_⟩⟩;have s2:=s1.put R3 hb4;have hC2:=hC.put R3 hb4;obtain⟨o2,c2,w2,Ws,hk2,hC3,Sm⟩:=hC2.AR2 D9 KU (x:=gi W.ID (i:Int)) gI s2.ext.size SO (z2j _) (by rw[List.length_take]; omega) Qd Zt #[false,false];rw[HQ Qo] at Ws hC3;have s3:=s2.call Sm λy hm=>(hC2.own.lt y hm).1
  refine⟨_,_,_,w2,Ws,hk2,⟨Qo,Qo⟩,λw5 Sb _=>⟨⟨i+1,o2,c2,rfl,Qo,(s3.step Sb).sub Qs,(hC3.step Sb).sub Qs⟩,?_⟩⟩;simp only[Zx,Xm,ZP,Ie]; omega
 have RC:=Ou RC;rw[show W.ID.take i=W.ID from List.take_of_length_le Qo] at hC ⊢
 refine⟨λvs w1=>∃(i:Nat) (tO:OA) (tC:Nat),vs=[I (i:Int),I W.now,.slice RV W.ID.length Sg,.slice tO (W.tasks.take i).length tC,.slice none 0 0]/\i<=W.tasks.length/\Sc w [x,x1,x2] w1/\Ob DJ 5 ZB w.heap.size [x,x1,x2] w1 RV Sg W.ID/\Ob Xq 9 QS w.heap.size [x,x1,x2] w1 tO tC (W.tasks.take i),
  Zx W.tasks.length 0,λwr hx _=>⟨0,none,0,Qs,Ic _,s1.step hx,hC.step hx,⟨.inl ⟨rfl,rfl,rfl⟩,by simp[QM]⟩⟩,?_⟩
 clear hC s1 hi RC SR;rintro t1 l4 mN jH mM mJ oW mH kM nX mO fX tP ⟨i,tO,tC,he,hi,s1,hC,hT⟩;simp only[I4,I5,Iv,true_and,and_true] at he;obtain⟨rfl,rfl,⟨rfl,rfl,rfl⟩,⟨rfl,rfl,rfl⟩,rfl,rfl,rfl⟩:=he;refine⟨λIT=>?_,λRC=>?_⟩
 ·have IT:=Ot IT;have hr:=h.t.scb s1;refine⟨hr.ix QG Qo IT,_,_,_,_,_,_,_,_,_,hr i Qo IT,λb4 hb4=>⟨rfl,λRj R3 gI SO=>?_⟩⟩;have s2:=s1.put R3 hb4;have hC2:=hC.put R3 hb4;have hT2:=hT.put R3 hb4;obtain⟨o2,c2,w2,Ws,hk2,hT3,Sm⟩:=hT2.AR2 MF Kf (x:=gi W.tasks (i:Int)) gI s2.ext.size SO (z3v _) (by rw[List.length_take]; omega) Qd Z5 #[false,false];rw[HQ Qo] at Ws hT3;have s3:=s2.call Sm λy hm=>(hT2.own.lt y hm).1
  have hC3:=hC2.call Sm (hC2.own.SU hT2.own Qd);refine⟨_,_,_,w2,Ws,hk2,⟨Qo,Qo⟩,λw5 Sb _=>⟨⟨i+1,o2,c2,rfl,Qo,(s3.step Sb).sub Qs,(hC3.step Sb).sub Qs,(hT3.step Sb).sub Qs⟩,?_⟩⟩;simp only[Zx,Xm,ZP,Ie]; omega
 have RC:=Ou RC;rw[show W.tasks.take i=W.tasks from List.take_of_length_le Qo] at hT ⊢
 refine⟨λvs w1=>∃(i:Nat) (gO:OA) (gC:Nat) (ms:Nat->MG),vs=[I (i:Int),I W.now,.slice mN W.ID.length mM,.slice mJ W.tasks.length mH,.slice gO (Oh W ms i).length gC]/\i<=W.IC.length/\Sc w [x,x1,x2] w1/\Ob DJ 5 ZB w.heap.size [x,x1,x2] w1 mN mM W.ID/\Ob Xq 9 QS w.heap.size [x,x1,x2] w1 mJ mH W.tasks/\Nd w.heap.size [x,x1,x2] w1 gO gC (Oh W ms i),
  Zx W.IC.length 0,λwr hx _=>⟨0,none,0,λ_=>default,by simp[Oh],Ic _,s1.step hx,hC.step hx,hT.step hx,Nd.nil _ _ _⟩,?_⟩
 clear hC hT s1 hi RC tP;rintro k1 l22 Ay9 BS5 Ay8 Az1 BS6 Az0 BC2 Bi3 BC1 lZ DJ1 ⟨i,gO,gC,ms,he,hi,s1,hC,hT,hG⟩;simp only[I4,I5,Iv,true_and,and_true] at he;obtain⟨rfl,rfl,⟨rfl,rfl,rfl⟩,⟨rfl,rfl,rfl⟩,rfl,rfl,rfl⟩:=he;refine⟨λIT=>?_,λRC=>?_⟩
 ·have IT:=Ot IT;have hr:=h.g.ext s1.ext;have hrb:G9 [x,x1,x2] lZ m.gO W.IC m.ms:=(h.g.wide (cs:=[x,x1,x2]) λy hm=>.inr (s1.new y hm)).ext s1.ext.of_nil;have W8:=hrb.ix (i:=(i:Int)) Qo IT;obtain⟨bl1,bl2,bl3⟩:=GW ha (k:=(i:Int)) Qo Qo;refine⟨W8,_,_,_,_,_,_,_,_,_,_,_,_,_,_,_,_,_,_,_,_,hrb.cells (i:Int) Qo IT,λnK Br9=>⟨W8,_,_,_,_,_,_,_,_,_,hrb.IS Qo IT,λdF BS2 CA8=>?_⟩⟩;have s2:=s1.put BS2 Br9;have hC2:=hC.put BS2 Br9;have hT2:=hT.put BS2 Br9;have hG2:=hG.put BS2 Br9;have uJ:=h.g.ext s2.ext;refine I3 (Bu (uJ.locals (i:Int) Qo IT) (uJ.Rz (i:Int) Qo IT) bl1 Qo) ?_;rintro e oA ⟨p,he,hB,hy⟩;have s3:=s2.M' hy;have hC3:=hC2.M' hy;have hT3:=hT2.M' hy;have hG3:=hG2.M' hy;have hBn:∀y∈YC p,dF.heap.size<=y:=λy hm=>(hB.lt y hm).1
  have hBb:∀y∈YC p,y∉[x,x1,x2]++[nK]:=λy hm iP=>by
   have:=hBn y hm;have:=CA8 y iP;omega
  refine⟨_,_,_,_,_,_,_,_,_,he,Qf hy CA8,λvs w1=>∃(c:Nat) (sO:OA) (sC:Nat),vs=[I (c:Int),.bool (gi W.IC (i:Int)).used,I (gi W.IC (i:Int)).parent,.string (gi W.IC (i:Int)).name,I (gi W.IC (i:Int)).weight,I (gi W.IC (i:Int)).ID,I (gi W.IC (i:Int)).period,I (gi W.IC (i:Int)).next,I (gi W.IC (i:Int)).sum,I (gi W.IC (i:Int)).IS.IX,I (gi W.IC (i:Int)).IS.Rx,I (gi W.IC (i:Int)).IS.Sr,.slice p.lO (gi W.IC (i:Int)).IS.locals.length p.lC,.slice p.dO (gi W.IC (i:Int)).IS.Rz.length p.dC,.slice sO ((gi W.IC (i:Int)).IE.take c).length sC]/\c<=(gi W.IC (i:Int)).IE.length/\Sc w ([x,x1,x2]++[nK]) w1/\dF.heap.size<=w1.heap.size/\Ob DJ 5 ZB w.heap.size ([x,x1,x2]++[nK]) w1 Ay9 Ay8 W.ID/\Ob Xq 9 QS w.heap.size ([x,x1,x2]++[nK]) w1 Az1 Az0 W.tasks/\Nd w.heap.size ([x,x1,x2]++[nK]) w1 BC2 BC1 (Oh W ms i)/\Zu dF.heap.size w1 (gi W.IC (i:Int)).IS p/\Ob MH 5 X5 dF.heap.size ([x,x1,x2]++[nK]) w1 sO sC ((gi W.IC (i:Int)).IE.take c),
   Zx (gi W.IC (i:Int)).IE.length 0,λwr hx _=>⟨0,none,0,Qs,Ic _,s3.step hx,IA hy.size hx.size,hC3.step hx,hT3.step hx,hG3.step hx,hB.ext hx hBb,⟨.inl ⟨rfl,rfl,rfl⟩,by simp[QM]⟩⟩,?_⟩
  have tB:w.heap.size<=dF.heap.size:=s2.ext.size;have CJ8:=hG2.lt;clear hB s3 hC3 hT3 hG3 hC2 hT2;rintro c4 l26 l27 l28 l29 l30 l31 l32 l33 l34 l35 l36 Az4 Az3 Az2 Az7 Az6 Az5 As1 BC3 As0 mQ DJ2 ⟨c,sO,sC,he,hc,s4,hz4,hC4,hT4,hG4,hB4,hS4⟩;simp only[I4,I5,Iv,Value.bool.injEq,Value.string.injEq,true_and,and_true] at he;obtain⟨rfl,rfl,rfl,rfl,rfl,rfl,rfl,rfl,rfl,rfl,rfl,rfl,⟨rfl,rfl,rfl⟩,⟨rfl,rfl,rfl⟩,rfl,rfl,rfl⟩:=he;have CA5:G9 ([x,x1,x2]++[nK]) mQ m.gO W.IC m.ms:=(h.g.wide (cs:=[x,x1,x2]++[nK]) λy hm=>.inr (s4.new y hm)).ext s4.ext.of_nil;refine⟨W8,_,_,_,CA5.Ry Qo IT,λRw=>?_,λbP=>?_⟩
  ·have Rw:=Ot Rw;have hrs:=CA5.IE (i:Int) Qo IT;refine⟨W8,_,_,_,CA5.Ry Qo IT,hrs.ix X7 Qo Rw,_,_,_,_,_,hrs c Qo Rw,λwI Bf0=>⟨rfl,λiK BB8 Cr1 SO=>?_⟩⟩;have s5:=s4.put BB8 Bf0;have hS5:=hS4.put BB8 Bf0;have CS0:dF.heap.size<=iK.heap.size:=IA hz4 BB8.size;obtain⟨o2,c2,w2,Ws,hk2,hS6,Sm⟩:=hS5.AR2 Mu M5 (x:=gi (gi W.IC (i:Int)).IE (c:Int)) Cr1 CS0 SO (z2l _) (by rw[List.length_take]; omega) Qd Zb #[false,false];rw[HQ Qo] at Ws hS6;have hG5:=hG4.put BB8 Bf0;have hC5:=hC4.put BB8 Bf0;have hT5:=hT4.put BB8 Bf0;have hB5:=hB4.ext BB8 hBb;have s6:=s5.call Sm λy hm=>IA tB (hS5.own.lt y hm).1
   have hC6:=hC5.call Sm (hC5.own.SU hS5.own Qd);have hT6:=hT5.call Sm (hT5.own.SU hS5.own Qd)
   have hG6:=hG5.ext Sm (hG5.own.row.SU hS5.own Qd) λj a b y hm iP=>by
    have:=(CJ8.2 j a b y hm).2;have:=(hS5.own.lt y iP).1;omega
   have Cj3:∀y∈YC p,y∉[x,x1,x2]++[nK]++[wI]:=λy hm iP=>by
    rcases Im.1 iP with h2 | h2
    ·exact hBb y hm h2
    ·have:y=wI:=by simpa using h2
     have:=(hB4.lt y hm).2;omega
   have hB6:=hB5.ext Sm λy hm=>by
    rcases Im.1 hm with hm | hm
    ·exact hB5.loc.SU hS5.own Qd y hm
    ·exact hB5.Rz.SU hS5.own Qd y hm
   refine⟨_,_,_,w2,Ws,hk2,⟨Qo,Qo⟩,λw5 Sb _=>⟨⟨c+1,o2,c2,rfl,Qo,(s6.step Sb).sub Qs,?_,(hC6.step Sb).sub Qs,(hT6.step Sb).sub Qs,(hG6.step Sb).sub Qs,hB6.ext Sb Cj3,(hS6.step Sb).sub Qs⟩,?_⟩⟩
   ·have:=Sm.size;have:=Sb.size;omega
   ·simp only[Zx,Xm,ZP,Ie]; omega
  ·have bP:=Ou bP;rw[show (gi W.IC (i:Int)).IE.take c=(gi W.IC (i:Int)).IE from List.take_of_length_le Qo] at hS4 ⊢;intro b13 Bf1 kB BS3 Cr2 SO;have s5:=s4.put BS3 Bf1;have hG5:=hG4.put BS3 Bf1;have hC5:=hC4.put BS3 Bf1;have hT5:=hT4.put BS3 Bf1;have hB5:=hB4.ext BS3 hBb;have hS5:=hS4.put BS3 Bf1
   have B07:∀y∈Qv ⟨p.lO,p.lC,p.dO,p.dC,As1,As0⟩,dF.heap.size<=y/\y<mQ.heap.size:=λy hm=>by
    simp only[Qv,Im] at hm;rcases hm with (hm | hm) | hm
    ·exact hB4.loc.lt y hm
    ·exact hB4.Rz.lt y hm
    ·exact hS4.own.lt y hm
   obtain⟨o2,c2,w2,Ws,hk2,hG6,Sm⟩:=hG5.AR2 (p:=(gi W.IC (i:Int),⟨p.lO,p.lC,p.dO,p.dC,As1,As0⟩)) Cr2 s5.ext.size ⟨(hB5.mono tB).loc,(hB5.mono tB).Rz,hS5.own.mono tB⟩ (λy hm iP=>by
     have h1:=B07 y hm;rcases Im.1 iP with h2 | h2
     ·have:=CA8 y h2; omega
     ·have:y=b13:=by simpa using h2
      omega) (λj a b y hm iP=>by
     have:=(CJ8.2 j a b y hm).2;have:=(B07 y iP).1;omega) SO (z3u _ _) (by rw[Xe]; omega) QD #[false,false]
   rw[<-zuo] at Ws hG6;have s6:=s5.call Sm λy hm=>(hG5.own.row.lt y hm).1
   have hC6:=hC5.call Sm (hC5.own.SU hG5.own.row Qd);have hT6:=hT5.call Sm (hT5.own.SU hG5.own.row Qd);refine⟨_,_,_,w2,Ws,hk2,⟨Qo,Qo⟩,λw5 Sb _=>⟨⟨i+1,o2,c2,_,rfl,Qo,(s6.step Sb).sub Qs,(hC6.step Sb).sub Qs,(hT6.step Sb).sub Qs,(hG6.step Sb).sub Qs⟩,?_⟩⟩;simp only[Zx,Xm,ZP,Ie]; omega
 ·have RC:=Ou RC;have hi8:i=W.IC.length:=Qo;subst hi8;refine λw9 kS=>⟨⟨Ay9,Ay8,Az1,Az0,BC2,BC1,ms⟩,?_,⟨(hC.step kS).own,(hT.step kS).own,(hG.step kS).own,dD⟩,(s1.step kS).ext⟩
  rw[Xe];rfl
theorem Zi(h:XF [] w W m)(hl:UG W) :
  Cz QZ #[.agg (Qb W m).toArray] w λe w'=>(QB W=false/\e=.returned (.tuple #[.agg (Qb Kw zym).toArray,I 1])/\Q0 [] w w')\/(QB W=true/\∃m',e=.returned (.tuple #[.agg (Qb W m').toArray,I (if QK W=true then 0 else 10)])/\Zj 8 w.heap.size w' W m'/\Q0 [] w w'):=by
 refine(y9 _ _ _ _ _ _ _ _ _ _ (R:=λv w'=>(QB W=false/\v=.tuple #[.agg (Qb Kw zym).toArray,I 1]/\Q0 [] w w')\/(QB W=true/\∃m',v=.tuple #[.agg (Qb W m').toArray,I (if QK W=true then 0 else 10)]/\Zj 8 w.heap.size w' W m'/\Q0 [] w w')) ?_).mono λe w' ⟨v,he,h3⟩=>by
  rw[he];rcases h3 with ⟨a,hv,b⟩ | ⟨a,m',hv,b⟩
  ·exact .inl ⟨a,by rw[hv],b⟩
  ·exact .inr ⟨a,m',by rw[hv],b⟩
 intro x hx x1 RR;refine⟨_,US h hl.c hl.t hl.g hl.f,λg wr hx=>.inl ⟨by simpa using g,rfl,hx⟩,λg I' R0 dZ=>?_⟩;have hW:QB W=true:=by simpa using g
 have wp:=Qm.1 hW;refine I3 (Mq (h.ext R0) wp.a) ?_;rintro e wv ⟨m',he,hM,hy⟩
 have hnb:∀y∈QR 8 m',y∉[x,x1]:=λy hy hm=>by
  have:=(hM.lt y hy).1;have:=dZ y hm;omega
 have hro:=Ld (hM.rd hnb) hl;have Ax6:∀w2,Q0 [x,x1] wv w2->Zj 8 w.heap.size w2 W m'/\Q0 [] w w2:=λw2 h2=>⟨(hM.mono R0.size).ext h2 hnb,(R0.trans hy).fresh h2 λy hm=>.inl (X4 hx RR y hm)⟩
 refine⟨_,_,_,_,_,_,_,_,_,_,he,Qf hy dZ,_,hro,λg2 w2 h2=>.inr ⟨hW,m',?_,Ax6 w2 h2⟩,λg2 w2 h2=>.inr ⟨hW,m',?_,Ax6 w2 h2⟩⟩
 ·have:¬QK W=true:=λhr=>by
   rw[show Ul (Jq W/\Ga W)=true from Qm.2 ⟨wp,Qm.1 hr⟩] at g2;cases g2
  rw[B' this]; rfl
 ·have hd:Ul (Jq W/\Ga W)=true:=by simpa using g2
  have:QK W=true:=Qm.2 (Qm.1 hd).2;rw[C' this]; rfl
end
structure Wk (n:Nat) (bs:List Nat) (w0 w:Wo) (W:Q8) (m:MW):Prop where
 s:Sc w0 bs w
 o:OW n w0.heap.size bs w W m
section
variable {n:Nat}{bs cs:List Nat}{w0 w w':Wo}{W W':Q8}{m m':MW}{b:Nat}
theorem Wk.step(h:Wk n bs w0 w W m)(hx:Q0 bs w w'):Wk n bs w0 w' W m:=⟨h.s.step hx,h.o.step hx⟩
theorem Wk.M'(h:Wk n bs w0 w W m)(hx:Q0 [] w w'):Wk n bs w0 w' W m:=⟨h.s.M' hx,h.o.M' hx⟩
theorem Wk.add(h:Wk n bs w0 w W m)(hb:w.heap.size<=b):Wk n (bs++[b]) w0 w W m:=⟨h.s.add hb,h.o.add hb⟩
theorem Wk.sub(h:Wk n bs w0 w W m)(hs:∀x∈cs,x∈bs):Wk n cs w0 w W m:=⟨h.s.sub hs,h.o.sub hs⟩
theorem Wk.rd(h:Wk n bs w0 w W m):XF bs w W m:=h.o.rd
theorem Wk.own(h:Wk n bs w0 w W m):Zj n w0.heap.size w W m:=h.o.own
theorem Wk.nb(h:Wk n bs w0 w W m):∀x∈QR n m,x∉bs:=h.o.nb
theorem Wk.base(h:Wk n bs w0 w W m):w0.heap.size<=w.heap.size:=h.s.ext.size
theorem Wk.Sl(h:Wk n bs w0 w W m)(k:Mv n w0.heap.size [] w m w' W' m')(hs:∀x∈bs,x<w.heap.size):Wk n bs w0 w' W' m':=
 ⟨h.s.call k.ext λx hx=>(h.o.own.lt x hx).1,⟨k.own,λx hx hm=>by
  rcases k.sub x hx with h1 | h1
  ·exact h.o.nb x h1 hm
  ·have:=hs x hm;omega⟩⟩
theorem Wk.kept(h:Wk n bs w0 w W m)(k:Mv n w0.heap.size [] w m w' W' m')(hs:∀x∈bs,x<w.heap.size):Q9 bs w w':=λx hm=>k.ext.block x (hs x hm) λiP=>h.o.nb x iP hm
theorem Wk.R5(h:Wk n bs w0 w W m)(k:Zj n w0.heap.size w' W' m)(hx:Q0 (QR n m) w w'):Wk n bs w0 w' W' m:=⟨h.s.call hx λx hx=>(h.o.own.lt x hx).1,⟨k,h.o.nb⟩⟩
theorem Wk.fin(h:Wk n bs w0 w W m):Zj n w0.heap.size w W m/\Q0 [] w0 w:=⟨h.o.own,h.s.ext⟩
end
def QL(r:Q8×Int)(w:Wo)(v:Va)(w':Wo):Prop:=∃n m',v=.tuple #[.agg (Qb r.1 m').toArray,I r.2]/\Zj n w.heap.size w' r.1 m'/\Q0 [] w w'
theorem Zj.zero(base:Nat)(w:Wo):Zj 0 base w Kw zym:=⟨.inl ⟨rfl,rfl,rfl⟩,.inl ⟨rfl,rfl,rfl⟩,⟨.inl ⟨rfl,rfl,rfl⟩,λi a b=>by simp[zsk,Kw] at b; omega,λi j a b=>by simp[zsk,Kw] at b; omega⟩,rfl⟩
section
variable {W W':Q8}{m:MW}{w:Wo}{bar:Int}
theorem QL.bad{w':Wo}(hW:QB W=false)(hx:Q0 [] w w'):QL (Yv W bar W') w (.tuple #[.agg (Qb Kw zym).toArray,I 1]) w':=by
 rw[zku hW];exact⟨0,zym,rfl,Zj.zero _ _,hx⟩
theorem QL.no{n:Nat}{bs:List Nat}{w':Wo}{m':MW}(hW:QB W=true)(hb:bar≠0)(hk:Wk n bs w w' W m'){c:Int}(hc:bar=c):QL (Yv W bar W') w (.tuple #[.agg (Qb W m').toArray,I c]) w':=by
 rw[zbl hW hb,hc];exact⟨n,m',rfl,hk.fin⟩
theorem QL.ok{n:Nat}{bs:List Nat}{w':Wo}{m':MW}(hW:QB W=true)(hb:bar=0)(hk:Wk n bs w w' W' m'):QL (Yv W bar W') w (.tuple #[.agg (Qb W' m').toArray,I 0]) w':=by
 rw[zkv hW hb];exact⟨n,m',rfl,hk.fin⟩
theorem Wk.begin{x x1:Nat}{wr wv:Wo}{m':MW}(hx:w.heap.size<=x)(RR:w.heap.size<=x1)(R0:Q0 [] w wr)(hs:∀y∈[x,x1],y<wr.heap.size)(hM:Zj 8 wr.heap.size wv W m')(hy:Q0 [] wr wv):Wk 8 [x,x1] w wv W m':=
 ⟨⟨R0.trans hy,X4 hx RR⟩,(OW.of hM hs).mono R0.size⟩
theorem A7{t:Int}(h:XF [] w W m)(hl:UG W) :
  Cz TN #[.agg (Qb W m).toArray,I t] w λe w'=>∃v,e=.returned v/\QL (Yv W (Tx W t) (zk2 W t)) w v w':=by
 refine NS _ _ _ _ _ _ _ _ _ _ t (R:=λv w'=>QL (Yv W (Tx W t) (zk2 W t)) w v w') ?_;intro x hx x1 RR wr R0 SR;refine I3 (Zi (h.ext R0) hl) ?_;rintro e wv (⟨hW,he,hy⟩ | ⟨hW,m',he,hM,hy⟩)
 ·exact⟨_,_,_,_,_,_,_,_,_,_,_,he,Qf hy SR,λ_ I' R3=>QL.bad hW ((R0.trans hy).fresh R3 λy hm=>.inl (X4 hx RR y hm)),λg=>by simp at g⟩
 have hK:=Wk.begin hx RR R0 SR hM hy;have hr:=hK.rd;refine⟨_,_,_,_,_,_,_,_,_,_,_,he,Qf hy SR,λg=>by split at g <;> simp at g,λ_=>⟨_,Ug hr hl.t,λg O' R3=>?_,λg=>?_⟩⟩
 ·have g:Z4 W t=false:=by simpa using g
  have hb:Tx W t=2:=by unfold Tx; rw[C' g]
  exact QL.no hW (by rw[hb]; decide) (hK.step R3) hb
 have g:Z4 W t=true:=by simpa using g
 obtain⟨t0,t1,tn⟩:=Y0 g;have W8:=hr.t.ix QG t0 t1;refine⟨W8,_,hr.t.f t0 t1 (j:=0) rfl,λg2 Rj R3=>?_,λg2=>⟨λg3 Rn R3=>?_,λg3=>?_⟩⟩
 ·have g2:(Q6 W t).state≠1:=by simpa[Q6] using g2
  have hb:Tx W t=6:=by unfold Tx; rw[B' (by rw[g]; decide),C' g2]
  exact QL.no hW (by rw[hb]; decide) (hK.step R3) hb
 ·have g2:¬(Q6 W t).state≠1:=by simpa[Q6] using g2
  have bQ:¬QK W=true:=λhr=>by rw[C' hr] at g3; simp at g3
  have hb:Tx W t=10:=by unfold Tx; rw[B' (by rw[g]; decide),B' g2,C' (by simpa using bQ)]
  rw[B' bQ];exact QL.no hW (by rw[hb]; decide) (hK.step R3) hb
 ·have g2:¬(Q6 W t).state≠1:=by simpa[Q6] using g2
  have bQ:QK W=true:=Iq λhr=>by rw[B' hr] at g3; simp at g3
  have hb:Tx W t=0:=by unfold Tx; rw[B' (by rw[g]; decide),B' g2,B' (by rw[bQ]; decide)]
  obtain⟨_,_,sw,sw1⟩:=zm7 hW hb;have Sk:Zj 8 w.heap.size _ (IM W t { Q6 W t with state:=2 }) m':=hK.own.pN t0 t1 (j:=0) (vs:=[I 2]) (x:={ Q6 W t with state:=2 }) rfl Qs;refine⟨W8,zkh hK.own hK.nb t0 t1 Qd,λRE Sb hZ=>?_⟩;have fG:=(hK.R5 Sk Kd).step Sb;have Rt:=Qy fG.own sw1 Qd Qd fG.base;have e5:Qb (IM W t { Q6 W t with state:=2 }) m'=Qb W m':=by simp[Qb,IM]
  rw[e5] at Rt;refine I3 Rt ?_;rintro e1 R1 ⟨m1,eH,aR⟩;exact⟨_,_,_,_,_,_,_,_,_,_,eH,fG.kept aR hZ,λRP Wt=>QL.ok hW hb ((fG.Sl aR hZ).step Wt)⟩
end
theorem Ls{α:Type}[Inhabited α]{l:List α}{i:Int}(h0:0<=i)(h1:i<(l.length:Int)):l.set i.toNat (gi l i)=l:=by
 obtain⟨k,rfl⟩:=Int.eq_ofNat_of_zero_le h0;rw[Tj Qo,Ig,List.set_getElem_self]
theorem Ka{W:Q8}{k:Int}{b:Vv}(h0:0<=k)(h1:k<(W.IC.length:Int)):gi (RL W k b).IC k={ gi W.IC k with IS:=b }:=by
 unfold RL;rw[Xo h0 h1 h0,C' rfl]
theorem zj0{W:Q8}{k:Int}{b b':Vv}(h0:0<=k)(h1:k<(W.IC.length:Int)):RL (RL W k b) k b'=RL W k b':=by
 show Rm (RL W k b) k { gi (RL W k b).IC k with IS:=b' }=_;rw[Ka h0 h1];unfold RL Rm;rw[List.set_set]
theorem zj1{W:Q8}{k:Int}{x y:ZX}:Rm (Rm W k x) k y=Rm W k y:=by unfold Rm; rw[List.set_set]
theorem zfv{W:Q8}{k:Int}(h0:0<=k)(h1:k<(W.IC.length:Int)):RL W k (gi W.IC k).IS=W:=by
 show Rm W k (gi W.IC k)=W;unfold Rm;rw[Ls h0 h1]
section
variable {base:Nat}{W:Q8}{m:MW}{w:Wo}{k:Int}{b:Vv}
abbrev zop(m:MW)(k:Int):OA:=m.gO.map (·.add (Int.toNat k*14+8))
theorem NG(h:Zj 8 base w (RL W k b) m):W.IC.length=8:=by
 have:=h.len
 simpa[RL,Rm] using this
theorem Zj.Aw4(h:Zj 8 base w (RL W k b) m)(k0:0<=k)(k8:k<8):Q1 [] w m.gO (Int.toNat k*14+8) (ZF b (m.ms k.toNat))/\zs8 [] w (m.ms k.toNat).lO b.locals/\z1g [] w (m.ms k.toNat).dO b.Rz:=by
 have hr:=(h.rd (bs:=[]) Qs).g;have hl:=NG h;have hl2:=h.len;have hg:=Ka (W:=W) (b:=b) k0 Qo;have h1:=hr.IS k0 Qo;have h2:=hr.locals k k0 Qo;have h3:=hr.Rz k k0 Qo;rw[hg] at h1 h2 h3;exact⟨h1,h2,h3⟩
theorem Zj.bdC(h:Zj 8 base w (RL W k b) m)(k0:0<=k)(k8:k<8){j:Nat}{v:Va}(hj:(ZF b (m.ms k.toNat))[j]? = some v):Q1 [] w (zop m k) (0+j) [v]:=GX (h.Aw4 k0 k8).1 hj
theorem Zj.uA(h:Zj 8 base w (RL W k b) m)(k0:0<=k)(k8:k<8):(zop m k).isSome=true:=Lt (h.Aw4 k0 k8).1
theorem Zj.Bd7(h:Zj 8 base w (RL W k b) m)(k0:0<=k)(k8:k<8){j n:Nat}(hj:j+n<=5):YK [] w (zop m k) (0+j) n:=by
 have:=zs7 h (bs:=[]) Qs k0 Qo (j:=8+j) (k:=n) Qo;refine zb6.2 ?_;rw[Nat.zero_add,Nat.add_assoc];exact this
theorem Zj.BH6(h:Zj 8 base w (RL W k b) m)(k0:0<=k)(k8:k<8){c:Int}(c0:0<=c)(c1:c<(b.locals.length:Int)):YK [] w (m.ms k.toNat).lO (Int.toNat c*1) 1:=by
 have hl:=NG h;have:=z44 h (bs:=[]) Qs k0 Qo (c:=c) c0 (by rw[Ka k0 Qo]; exact c1) (j:=0) (k:=1) Qd;exact this
theorem Zj.By3(h:Zj 8 base w (RL W k b) m)(k0:0<=k)(k8:k<8){c:Int}(c0:0<=c)(c1:c<(b.Rz.length:Int)):YK [] w (m.ms k.toNat).dO (Int.toNat c*1) 1:=by
 have hl:=NG h;have:=z43 h (bs:=[]) Qs k0 Qo (c:=c) c0 (by rw[Ka k0 Qo]; exact c1) (j:=0) (k:=1) Qd;exact this
theorem Zj.Aw5(h:Zj 8 base w (RL W k b) m)(k0:0<=k)(k8:k<8){b':Vv}(e1:b'.locals=b.locals)(e2:b'.Rz=b.Rz){j:Nat}{vs:List Va}(he:ZF b' (m.ms k.toNat)=(ZF b (m.ms k.toNat)).take j++vs++(ZF b (m.ms k.toNat)).drop (j+vs.length))(hj:j+vs.length<=5) :
  Zj 8 base (R5 w (zop m k) (0+j) vs) (RL W k b') m:=by
 have hl:=NG h;have hg:=Ka (W:=W) (b:=b) k0 Qo
 have this:Zj 8 base _ (Rm (RL W k b) k { gi W.IC k with IS:=b' }) m:=h.A23 k0 Qo (g:={ gi W.IC k with IS:=b' }) (by rw[hg]; exact e1) (by rw[hg]; exact e2) (by rw[hg]) (j:=8+j) (vs:=vs) (by
  rw[hg];have e:∀x:Vv,YE { gi W.IC k with IS:=x } (m.ms k.toNat)=(YE (gi W.IC k) (m.ms k.toNat)).take 8++ZF x (m.ms k.toNat)++[.slice (m.ms k.toNat).sO (gi W.IC k).IE.length (m.ms k.toNat).sC]:=λx=>rfl
  rw[e b',e b,he];have l8:((YE (gi W.IC k) (m.ms k.toNat)).take 8).length=8:=rfl;have l5:(ZF b (m.ms k.toNat)).length=5:=rfl;generalize (YE (gi W.IC k) (m.ms k.toNat)).take 8=A at l8;generalize ZF b (m.ms k.toNat)=B at l5
  have t1:(A++B++[Value.slice (m.ms k.toNat).sO (gi W.IC k).IE.length (m.ms k.toNat).sC]).take (8+j)=A++B.take j:=by
   rw[List.append_assoc,List.take_append,List.take_of_length_le Qo,l8,show 8+j-8=j by omega,List.take_append,show j-B.length=0 by omega,List.take_zero,List.append_nil]
  have t2:(A++B++[Value.slice (m.ms k.toNat).sO (gi W.IC k).IE.length (m.ms k.toNat).sC]).drop (8+j+vs.length)=B.drop (j+vs.length)++[Value.slice (m.ms k.toNat).sO (gi W.IC k).IE.length (m.ms k.toNat).sC]:=by
   rw[List.append_assoc,List.drop_append,List.drop_eq_nil_iff.2 Qo,List.nil_append,l8,show 8+j+vs.length-8=j+vs.length by omega,List.drop_append,show j+vs.length-B.length=0 by omega,List.drop_zero]
  rw[t1,t2];simp only[List.append_assoc]) Qo
 rw[show Rm (RL W k b) k { gi W.IC k with IS:=b' }=RL W k b' from zj1] at this;rw[Dl,Nat.zero_add,Nat.add_assoc];exact this
theorem Zj.AR4{j:Nat}{vs:List Va}:Q0 (QR 8 m) w (R5 w (zop m k) (0+j) vs):=by rw[Dl]; exact zbf
theorem Zj.Aq3(h:Zj 8 base w (RL W k b) m)(k0:0<=k)(k8:k<8){c:Int}(c0:0<=c)(c1:c<(b.locals.length:Int))(x:Int) :
  Zj 8 base (R5 w (m.ms k.toNat).lO (Int.toNat c*1) [I x]) (RL W k { b with locals:=b.locals.set c.toNat x }) m:=by
 have hl:=NG h;have hg:=Ka (W:=W) (b:=b) k0 Qo;have hb:(gi (RL W k b).IC k).IS=b:=by rw[hg]
 have this:Zj 8 base _ (RL (RL W k b) k { (gi (RL W k b).IC k).IS with locals:=(gi (RL W k b).IC k).IS.locals.set c.toNat x }) m:=h.eJ k0 Qo c0 (by rw[hg]; exact c1) x;rw[zj0 k0 Qo,hb] at this;exact this
theorem Zj.Bd6(h:Zj 8 base w (RL W k b) m)(k0:0<=k)(k8:k<8){c:Int}(c0:0<=c)(c1:c<(b.Rz.length:Int))(x:Bool) :
  Zj 8 base (R5 w (m.ms k.toNat).dO (Int.toNat c*1) [.bool x]) (RL W k { b with Rz:=b.Rz.set c.toNat x }) m:=by
 have hl:=NG h;have hg:=Ka (W:=W) (b:=b) k0 Qo;have hb:(gi (RL W k b).IC k).IS=b:=by rw[hg]
 have this:Zj 8 base _ (RL (RL W k b) k { (gi (RL W k b).IC k).IS with Rz:=(gi (RL W k b).IC k).IS.Rz.set c.toNat x }) m:=h.Bv1 k0 Qo c0 (by rw[hg]; exact c1) x;rw[zj0 k0 Qo,hb] at this;exact this
def zre(base:Nat)(W:Q8)(m:MW)(k:Int)(b':Vv)(w w':Wo):Prop:=Zj 8 base w' (RL W k b') m/\Q0 (QR 8 m) w w'
theorem zeh(h:Zj 8 base w (RL W k b) m)(k0:0<=k)(k8:k<8)(hl:b.Rz.length<=1048576) :
  Cz V1 #[.pointer (zop m k)] w λe w'=>e=.returned (.tuple #[])/\zre base W m k { b with Rz:=List.replicate b.Rz.length false } w w':=by
 refine(CQ (zop m k) (R:=λv w'=>v=.tuple #[]/\zre base W m k { b with Rz:=List.replicate b.Rz.length false } w w') ?_).mono λe w' ⟨v,he,hv,h3⟩=>⟨by rw[he,hv],h3⟩
 refine⟨h.uA k0 k8,_,_,_,h.bdC k0 k8 (j:=4) rfl,?_⟩;refine XL b.Rz.length 0 rfl (λj w1=>j<=b.Rz.length/\Zj 8 base w1 (RL W k { b with Rz:=List.replicate j false++b.Rz.drop j }) m/\Q0 (QR 8 m) w w1) (λw1 RR _=>⟨Ic _,by simpa using h.Wu RR,RR.of_nil⟩) λj w1 hs ⟨hj,hO,hX⟩=>⟨λIT=>?_,λRC=>?_⟩
 ·have IT:=Ot IT;have hlen:(List.replicate j false++b.Rz.drop j).length=b.Rz.length:=by simp; omega
  have c1:(j:Int)<((List.replicate j false++b.Rz.drop j).length:Int):=by rw[hlen]; exact IT
  have e1:=hO.Bd6 k0 k8 (c:=(j:Int)) Qo c1 false;have SO:=hO.bdC k0 k8 (j:=4) rfl;have W8:=(hO.Aw4 k0 k8).2.2.ix EO (i:=(j:Int)) Qo c1;refine⟨hO.uA k0 k8,_,_,_,SO,W8,hO.By3 k0 k8 Qo c1,⟨Qo,Qo⟩,λw2 R0 _=>Qp Qo ⟨Qo,?_,?_⟩⟩
  ·have e2:=e1.Wu R0;simp only[Ig] at e2;rw[zpb _ _ Qo] at e2;exact e2
  ·exact(hX.trans (z30 Qo)).trans R0.of_nil
 ·have RC:=Ou RC;have hk2:j=b.Rz.length:=Qo;subst hk2;rw[List.drop_length,List.append_nil] at hO;exact λw2 R0=>⟨rfl,hO.Wu R0,hX.trans R0.of_nil⟩
theorem zee(h:Zj 8 base w (RL W k b) m)(k0:0<=k)(k8:k<8)(hb:Pg b){c:Int}(c0:0<=c)(c1:c<(b.locals.length:Int)) :
  Cz UM #[.pointer (zop m k),I c] w λe w'=>e=.returned (I 0)/\zre base W m k (YG b c) w w':=by
 refine(DF (zop m k) c (R:=λv w'=>v=I 0/\zre base W m k (YG b c) w w') ?_).mono λe w' ⟨v,he,hv,h3⟩=>⟨by rw[he,hv],h3⟩
 have he':=hb.each c c0 c1;have p1:=hb.p1;have p2:=hb.p2;have q2:=hb.q2;have hs:=h.uA k0 k8;have hL:=(h.Aw4 k0 k8).2.1;have W8:=hL.ix JU c0 c1;have e1:=h.Aw5 k0 k8 (b':={ b with Rx:=b.Rx+gi b.locals c }) rfl rfl (j:=1) (vs:=[I (b.Rx+gi b.locals c)]) rfl Qs;have e2:=e1.Aq3 k0 k8 c0 c1 0;have hX:=(Zj.AR4 (m:=m) (k:=k) (w:=w) (j:=1) (vs:=[I (b.Rx+gi b.locals c)])).trans (z0m (m:=m) (k:=Int.toNat c*1) (vs:=[I 0]) (i:=k.toNat) Qo);refine⟨hs,_,h.bdC k0 k8 (j:=1) rfl,hs,_,_,_,h.bdC k0 k8 (j:=3) rfl,W8,_,hL c c0 c1,⟨Qo,Qo⟩,hs,h.Bd7 k0 k8 (j:=1) Qd,hs,_,_,_,e1.bdC k0 k8 (j:=3) rfl,W8,e1.BH6 k0 k8 c0 c1,hs,_,e2.bdC k0 k8 (j:=1) rfl,λg wr hx _=>?_,λg wr hx=>⟨rfl,?_,hX.trans hx.of_nil⟩⟩
 ·have g:=Ot g;refine I3 (zeh (e2.Wu hx) k0 k8 (by show b.Rz.length<=_; have:=hb.dl; have:=hb.l2; omega)) ?_;rintro e wv ⟨he,hM,hy⟩;refine⟨he,Z3,λI' RR=>⟨rfl,?_,((hX.trans hx.of_nil).trans hy).trans RR.of_nil⟩⟩;have:YG b c=⟨b.IX,b.Rx+gi b.locals c,b.Sr,b.locals.set c.toNat 0,List.replicate b.Rz.length false⟩:=by unfold YG; rw[C' g]
  rw[this];exact hM.Wu RR
 ·have g:=Ou g;have:YG b c=⟨b.IX,b.Rx+gi b.locals c,b.Sr,b.locals.set c.toNat 0,b.Rz⟩:=by unfold YG; rw[B' g]
  rw[this];exact e2.Wu hx
theorem zp4(l:List Int)(k:Nat)(h:k<l.length):(List.replicate k (0:Int)++l.drop k).set k 0=List.replicate (k+1) 0++l.drop (k+1):=by
 rw[List.set_append,B' Qs,List.length_replicate,Nat.sub_self,List.drop_eq_getElem_cons h,List.set_cons_zero,List.replicate_succ',List.append_assoc,List.singleton_append]
theorem zed(h:Zj 8 base w (RL W k b) m)(k0:0<=k)(k8:k<8)(hb:Pg b) :
  Cz UL #[.pointer (zop m k)] w λe w'=>e=.returned (I 0)/\zre base W m k (JP b) w w':=by
 refine(DE (zop m k) (R:=λv w'=>v=I 0/\zre base W m k (JP b) w w') ?_).mono λe w' ⟨v,he,hv,h3⟩=>⟨by rw[he,hv],h3⟩
 have hdl:=hb.dl;have hl2:=hb.l2;have hs:=h.uA k0 k8;have e1:=h.Aw5 k0 k8 (b':={ b with Rx:=b.IX }) rfl rfl (j:=1) (vs:=[I b.IX]) rfl Qs;have e2:=e1.Aw5 k0 k8 (b':={ b with Rx:=b.IX,Sr:=0 }) rfl rfl (j:=2) (vs:=[I 0]) rfl Qs;have tW:=(Zj.AR4 (m:=m) (k:=k) (w:=w) (j:=1) (vs:=[I b.IX])).trans (Zj.AR4 (m:=m) (k:=k) (j:=2) (vs:=[I 0]));refine⟨hs,_,h.bdC k0 k8 (j:=0) rfl,hs,h.Bd7 k0 k8 (j:=1) Qd,hs,e1.Bd7 k0 k8 (j:=2) Qd,hs,_,_,_,e2.bdC k0 k8 (j:=3) rfl,?_⟩;refine XL b.locals.length 0 rfl (λj w1=>j<=b.locals.length/\Zj 8 base w1 (RL W k { b with Rx:=b.IX,Sr:=0,locals:=List.replicate j 0++b.locals.drop j }) m/\Q0 (QR 8 m) w w1) (λw1 RR _=>⟨Ic _,by simpa using e2.Wu RR,tW.trans RR.of_nil⟩) λj w1 hs ⟨hj,hO,hX⟩=>⟨λIT=>?_,λRC=>?_⟩
 ·have IT:=Ot IT;have hlen:(List.replicate j (0:Int)++b.locals.drop j).length=b.locals.length:=by simp; omega
  have c1:(j:Int)<((List.replicate j (0:Int)++b.locals.drop j).length:Int):=by rw[hlen]; exact IT
  have e1:=hO.Aq3 k0 k8 (c:=(j:Int)) Qo c1 0;have SO:=hO.bdC k0 k8 (j:=3) rfl;have W8:=(hO.Aw4 k0 k8).2.1.ix JU (i:=(j:Int)) Qo c1;refine⟨hO.uA k0 k8,_,_,_,SO,W8,hO.BH6 k0 k8 Qo c1,⟨Qo,Qo⟩,λw2 R0 _=>Qp Qo ⟨Qo,?_,?_⟩⟩
  ·have e2:=e1.Wu R0;simp only[Ig] at e2;rw[zp4 _ _ Qo] at e2;exact e2
  ·exact(hX.trans (z0m Qo)).trans R0.of_nil
 ·have RC:¬(j:Int)<(b.locals.length:Int):=Ou RC;have hk2:j=b.locals.length:=Qo;subst hk2;rw[List.drop_length,List.append_nil] at hO;intro O' R0 _;refine I3 (zeh (hO.Wu R0) k0 k8 (by show b.Rz.length<=_; omega)) ?_;rintro e wv ⟨he,hM,hy⟩;refine⟨he,Z3,λI' RR=>⟨rfl,?_,((hX.trans R0.of_nil).trans hy).trans RR.of_nil⟩⟩;unfold JP;rw[show List.replicate b.Rz.length (0:Int)=List.replicate b.locals.length 0 by rw[hdl]];exact hM.Wu RR
theorem z3n(p:Int):(if p<20 then p else 20)=ZH 20 p:=by
 unfold ZH
 split <;> split <;> omega
theorem zus{l:List Bool}{c:Int}(c0:0<=c)(c1:c<(l.length:Int))(h:gi l c=false):l.set c.toNat false=l:=by
 have:=Ls c0 c1
 rwa[h] at this
theorem zxs{l:List Int}{c:Int}(c0:0<=c)(c1:c<(l.length:Int))(h:gi l c=0):l.set c.toNat 0=l:=by
 have:=Ls c0 c1
 rwa[h] at this
theorem zly(h:Zj 8 base w (RL W k b) m)(k0:0<=k)(k8:k<8)(hb:Pg b){c:Int}(c0:0<=c)(c1:c<(b.locals.length:Int)) :
  Cz T1 #[.pointer (zop m k),I c] w λe w'=>e=.returned (I (Y5 b c).2)/\zre base W m k (Y5 b c).1 w w':=by
 refine(B0 (zop m k) c (R:=λv w'=>v=I (Y5 b c).2/\zre base W m k (Y5 b c).1 w w') ?_).mono λe w' ⟨v,he,hv,h3⟩=>⟨by rw[he,hv],h3⟩
 have he':=hb.each c c0 c1;have hdl:=hb.dl;have p1:=hb.p1;have p2:=hb.p2;have q2:=hb.q2;have hm:=zbu p1;have hs:=h.uA k0 k8;have hL:=(h.Aw4 k0 k8).2.1;have hD:=(h.Aw4 k0 k8).2.2;have W8:=hL.ix JU c0 c1;refine⟨hs,_,_,_,h.bdC k0 k8 (j:=3) rfl,W8,_,hL c c0 c1,λg wr hx=>?_,λg=>⟨hs,_,h.bdC k0 k8 (j:=1) rfl,?_⟩⟩
 ·have ht:Y5 b c=(b,0):=by unfold Y5; rw[C' (Ot g)]
  rw[ht];exact⟨rfl,h.Wu hx,hx.of_nil⟩
 have g:=Ou g;have hz:gi b.locals c=0:=Qo;have ht:Y5 b c=(⟨b.IX,b.Rx-ZH 20 b.Rx,b.Sr,b.locals.set c.toNat (ZH 20 b.Rx),b.Rz.set c.toNat (ZH 20 b.Rx==0)⟩,if ZH 20 b.Rx=0 then 2 else 0):=by unfold Y5; rw[B' g]
 rw[ht,z3n];refine⟨λg2=>?_,λg2=>?_⟩
 ·have g2':ZH 20 b.Rx=0:=by simpa using g2
  have e1:=h.Bd6 k0 k8 c0 Qo true;refine⟨hs,_,_,_,h.bdC k0 k8 (j:=4) rfl,hD.ix EO c0 Qo,h.By3 k0 k8 c0 Qo,λwr hx=>⟨by rw[C' g2'],?_,(z30 Qo).trans hx.of_nil⟩⟩
  dsimp only
  rw[g2',Int.sub_zero,zxs c0 c1 hz];exact e1.Wu hx
 ·have g2':ZH 20 b.Rx≠0:=by simpa using g2
  have hdr:gi b.Rz c=false:=by
   cases hd:gi b.Rz c with
   | false=>rfl
   | true=>have:=(he'.2.2 hd).2; omega
  have e1:=h.Aw5 k0 k8 (b':={ b with Rx:=b.Rx-ZH 20 b.Rx }) rfl rfl (j:=1) (vs:=[I (b.Rx-ZH 20 b.Rx)]) rfl Qs;have e2:=e1.Aq3 k0 k8 c0 c1 (ZH 20 b.Rx);have hX:=(Zj.AR4 (m:=m) (k:=k) (w:=w) (j:=1) (vs:=[I (b.Rx-ZH 20 b.Rx)])).trans (z0m (m:=m) (k:=Int.toNat c*1) (vs:=[I (ZH 20 b.Rx)]) (i:=k.toNat) Qo);refine⟨hs,_,h.bdC k0 k8 (j:=1) rfl,⟨Qo,Qo⟩,hs,h.Bd7 k0 k8 (j:=1) Qd,hs,_,_,_,e1.bdC k0 k8 (j:=3) rfl,W8,e1.BH6 k0 k8 c0 c1,λwr hx=>⟨by rw[B' g2'],?_,hX.trans hx.of_nil⟩⟩
  dsimp only
  rw[g2,zus c0 Qo hdr];exact e2.Wu hx
theorem zhu(h:Zj 8 base w (RL W k b) m)(k0:0<=k)(k8:k<8)(hb:Pg b){c n:Int}(c0:0<=c)(c1:c<(b.locals.length:Int)) :
  Cz Vn #[.pointer (zop m k),I c,I n] w λe w'=>e=.returned (I (J2 b c n).2)/\zre base W m k (J2 b c n).1 w w':=by
 refine(EI (zop m k) c n (R:=λv w'=>v=I (J2 b c n).2/\zre base W m k (J2 b c n).1 w w') ?_).mono λe w' ⟨v,he,hv,h3⟩=>⟨by rw[he,hv],h3⟩
 have he':=hb.each c c0 c1;have q2:=hb.q2;have s1:=hb.s1;have s2:=hb.s2;have hs:=h.uA k0 k8;have hL:=(h.Aw4 k0 k8).2.1;have W8:=hL.ix JU c0 c1;refine⟨λ_=>hs,_,_,_,λ_=>h.bdC k0 k8 (j:=3) rfl,λ_=>W8,_,λ_=>hL c c0 c1,λg wr hx=>?_,λg=>?_⟩
 ·have ht:J2 b c n=(b,3):=by unfold J2; rw[C' (by simpa using g)]
  rw[ht];exact⟨rfl,h.Wu hx,hx.of_nil⟩
 ·have g':¬(n<1\/n>gi b.locals c):=by simpa using g
  have ht:J2 b c n=({ b with Sr:=b.Sr+n,locals:=b.locals.set c.toNat (gi b.locals c-n) },0):=by unfold J2; rw[B' g']
  rw[ht];have e1:=h.Aq3 k0 k8 c0 c1 (gi b.locals c-n);have e2:=e1.Aw5 k0 k8 (b':={ b with Sr:=b.Sr+n,locals:=b.locals.set c.toNat (gi b.locals c-n) }) rfl rfl (j:=2) (vs:=[I (b.Sr+n)]) rfl Qs;have hX:=(z0m (m:=m) (w:=w) (k:=Int.toNat c*1) (vs:=[I (gi b.locals c-n)]) (i:=k.toNat) (n:=8) Qo).trans (Zj.AR4 (m:=m) (k:=k) (j:=2) (vs:=[I (b.Sr+n)]));exact⟨hs,_,_,_,h.bdC k0 k8 (j:=3) rfl,W8,_,hL c c0 c1,⟨Qo,Qo⟩,W8,h.BH6 k0 k8 c0 c1,hs,_,e1.bdC k0 k8 (j:=2) rfl,⟨by show _<=b.Sr+n; omega,by show b.Sr+n<=_; omega⟩,hs,e1.Bd7 k0 k8 (j:=2) Qd,λwr hx=>⟨rfl,e2.Wu hx,hX.trans hx.of_nil⟩⟩
theorem zt2(h:Zj 8 base w (RL W k b) m)(k0:0<=k)(k8:k<8)(hb:Pg b){op:z38} :
  Cz PO #[.pointer (zop m k),.agg (z3j op).toArray] w λe w'=>e=.returned (I (ZU b op).2)/\zre base W m k (ZU b op).1 w w':=by
 refine(zda (zop m k) op.kind op.oH op.n (R:=λv w'=>v=I (ZU b op).2/\zre base W m k (ZU b op).1 w w') ?_).mono λe w' ⟨v,he,hv,h3⟩=>⟨by rw[he,hv],h3⟩
 have hl2:=hb.l2;have hs:=h.uA k0 k8;intro b1 fQ
 have one:∀{w1:Wo},Q0 [] w w1->∀y∈QR 8 m,y∉[b1]:=λ_ y hy hm=>by
  have:y=b1:=by simpa using hm
  have:=(h.lt y hy).2;omega
 have fin:∀{w1 w2 w3:Wo} {b':Vv} {c:Int},Q0 [] w w1->(∀y∈[b1],y<w1.heap.size)->zre base W m k b' w1 w2->Q0 [b1] w2 w3->ZU b op=(b',c)->Q9 [b1] w1 w2/\zre base W m k (ZU b op).1 w w3:=λh1 h2 h3 h4 h5=>by
  refine⟨λy hm=>h3.2.block y (h2 y hm) λiP=>one h1 y iP hm,?_⟩;rw[h5]
  exact ⟨h3.1.ext h4 (one h1), (h1.of_nil.trans h3.2).fresh h4 fun y hm => .inl (by have:y=b1:=by simpa using hm
                                                                                    omega)⟩
 refine⟨λg wr hx dZ=>?_,λg=>⟨hs,_,_,_,h.bdC k0 k8 (j:=3) rfl,⟨Qo,Qo⟩,_,QQ,λg2 wr hx=>?_,λg2=>?_⟩⟩
 ·have fR:ZU b op=(JP b,0):=by unfold ZU; rw[C' (by simpa using g)]
  refine I3 (zed (h.Wu hx) k0 k8 hb) ?_;rintro e wv ⟨he,hR⟩;exact⟨_,he,(fin hx dZ hR (Q0.refl _ _) fR).1,λI' RR=>⟨by rw[fR],(fin hx dZ hR RR fR).2⟩⟩
 all_goals have g:¬op.kind=4:=by simpa using g
 ·have fR:ZU b op=(b,1):=by unfold ZU; rw[B' g,C' (by simpa using g2)]
  rw[fR];exact⟨rfl,h.Wu hx,hx.of_nil⟩
 have g2:X6 op.oH 0 ((b.locals.length:Int)-1)=true:=by simpa using g2
 obtain⟨c0,c1⟩:=Qx.1 g2;have c1:op.oH<(b.locals.length:Int):=Qo
 have fR:ZU b op=if op.kind=1 then Y5 b op.oH else if op.kind=2 then J2 b op.oH op.n else if op.kind=3 then (YG b op.oH,0) else (b,1):=by
  unfold ZU; rw[B' g,B' (by rw[g2]; decide)]
 refine⟨λg3 wr hx dZ=>?_,λg3=>⟨λg4 wr hx dZ=>?_,λg4=>⟨λg5 wr hx dZ=>?_,λg5 wr hx=>?_⟩⟩⟩
 ·rw[C' (by simpa using g3)] at fR;refine I3 (zly (h.Wu hx) k0 k8 hb c0 c1) ?_;rintro e wv ⟨he,hR⟩;exact⟨_,he,(fin hx dZ hR (Q0.refl _ _) fR).1,λI' RR=>⟨by rw[fR],(fin hx dZ hR RR fR).2⟩⟩
 ·rw[B' (by simpa using g3),C' (by simpa using g4)] at fR;refine I3 (zhu (n:=op.n) (h.Wu hx) k0 k8 hb c0 c1) ?_;rintro e wv ⟨he,hR⟩;exact⟨_,he,(fin hx dZ hR (Q0.refl _ _) fR).1,λI' RR=>⟨by rw[fR],(fin hx dZ hR RR fR).2⟩⟩
 ·rw[B' (by simpa using g3),B' (by simpa using g4),C' (by simpa using g5)] at fR;refine I3 (zee (h.Wu hx) k0 k8 hb c0 c1) ?_;rintro e wv ⟨he,hR⟩;exact⟨_,he,(fin hx dZ hR (Q0.refl _ _) fR).1,λI' RR=>⟨by rw[fR],(fin hx dZ hR RR fR).2⟩⟩
 ·rw[B' (by simpa using g3),B' (by simpa using g4),B' (by simpa using g5)] at fR;rw[fR];exact⟨rfl,h.Wu hx,hx.of_nil⟩
end
structure PW (base pb:Nat) (w:Wo) (W:Q8) (m:MW):Prop where
 own:Zj 8 base w W m
 pt:w.heap[pb]? = some (.cells (Qb W m).toArray Q5 (0,0))
 pn:pb∉QR 8 m
abbrev pA(pb:Nat):OA:=some ⟨pb,0,none⟩
structure Mp (base pb:Nat) (bs:List Nat) (w0:Wo) (m0:MW) (w:Wo) (W:Q8) (m:MW):Prop where
 v:Mv 8 base bs w0 m0 w W m
 pt:w.heap[pb]? = some (.cells (Qb W m).toArray Q5 (0,0))
 pn:pb∉QR 8 m
 pb:pb∉bs
section
variable {base pb:Nat}{bs cs:List Nat}{w0 w w':Wo}{W W':Q8}{m0 m m':MW}{b:Nat}
theorem Mp.start(h:PW base pb w W m):Mp base pb [] w m w W m:=⟨Mv.start h.own,h.pt,h.pn,Qs⟩
theorem Mp.pw(h:Mp base pb bs w0 m0 w W m):PW base pb w W m:=⟨h.v.own,h.pt,h.pn⟩
theorem Mp.add(h:Mp base pb bs w0 m0 w W m)(hb:w.heap.size<=b):Mp base pb (bs++[b]) w0 m0 w W m:=⟨h.v.add hb,h.pt,h.pn,λhm=>by
 rcases Im.1 hm with hm | hm
 ·exact h.pb hm
 ·have:pb=b:=by simpa using hm
  have:=Yt h.pt;omega⟩
theorem Mp.step(h:Mp base pb bs w0 m0 w W m)(hx:Q0 bs w w'):Mp base pb bs w0 m0 w' W m:=⟨h.v.step hx,Qg h.pt hx h.pb,h.pn,h.pb⟩
theorem Mp.M'(h:Mp base pb bs w0 m0 w W m)(hx:Q0 [] w w'):Mp base pb bs w0 m0 w' W m:=⟨h.v.M' hx,Qg h.pt hx Qs,h.pn,h.pb⟩
theorem Mp.call(h:Mp base pb bs w0 m0 w W m)(k:Mp base pb [] w m w' W' m')(hs:∀x∈bs,x<w.heap.size):Mp base pb bs w0 m0 w' W' m':=⟨h.v.call k.v hs,k.pt,k.pn,h.pb⟩
theorem Mp.kept(h:Mp base pb bs w0 m0 w W m)(k:Mp base pb [] w m w' W' m')(hs:∀x∈bs,x<w.heap.size):Q9 bs w w':=h.v.kept k.v hs
theorem Mp.Sl(h:Mp base pb bs w0 m0 w W m)(k:Zj 8 base w' W' m)(hx:Q0 (QR 8 m) w w')(he:Qb W' m=Qb W m):Mp base pb bs w0 m0 w' W' m:=⟨h.v.Sl k hx,by rw[he]; exact Qg h.pt hx h.pn,h.pn,h.pb⟩
theorem Mp.sub(h:Mp base pb bs w0 m0 w W m)(hs:∀x∈cs,x∈bs):Mp base pb cs w0 m0 w W m:=⟨h.v.BF0 hs,h.pt,h.pn,λhm=>h.pb (hs _ hm)⟩
theorem Mp.close(h:Mp base pb bs w0 m0 w W m):Mp base pb [] w0 m0 w W m:=h.sub Qs
theorem Mp.wH(h:Mp base pb bs w0 m0 w W m):Mk bs w (pA pb) W m:=⟨MC h.pt h.pb (k0:=0) λj v hj=>by simpa using hj,h.v.rd⟩
theorem Mp.own(h:Mp base pb bs w0 m0 w W m):Zj 8 base w W m:=h.v.own
theorem Mp.nb(h:Mp base pb bs w0 m0 w W m):∀x∈QR 8 m,x∉bs:=h.v.nb
end
theorem zxr{W:Q8}{k c:Int}{s:GO}(h0:0<=k)(h1:k<(W.IC.length:Int)):gi (RF W k c s).IC k={ gi W.IC k with IE:=(gi W.IC k).IE.set c.toNat s }:=by
 unfold RF;rw[Xo h0 h1 h0,C' rfl]
theorem zur{W:Q8}{k c:Int}{s s':GO}(h0:0<=k)(h1:k<(W.IC.length:Int)):RF (RF W k c s) k c s'=RF W k c s':=by
 show Rm (RF W k c s) k { gi (RF W k c s).IC k with IE:=(gi (RF W k c s).IC k).IE.set c.toNat s' }=_;rw[zxr h0 h1]
 dsimp only
 rw[List.set_set];exact zj1
theorem zqz{W:Q8}{k c:Int}(h0:0<=k)(h1:k<(W.IC.length:Int))(c0:0<=c)(c1:c<((gi W.IC k).IE.length:Int)):RF W k c (Qc W k c)=W:=by
 show Rm W k { gi W.IC k with IE:=(gi W.IC k).IE.set c.toNat (gi (gi W.IC k).IE c) }=W;rw[Ls c0 c1];unfold Rm;rw[Ls h0 h1]
section
variable {base pb:Nat}{bs:List Nat}{w:Wo}{W:Q8}{m:MW}{k c:Int}
theorem Zj.BM1(h:Zj 8 base w W m)(k0:0<=k)(k8:k<8)(c0:0<=c)(c1:c<((gi W.IC k).IE.length:Int)){j:Nat}{vs:List Va}{s:GO}(he:MH s=(MH (Qc W k c)).take j++vs++(MH (Qc W k c)).drop (j+vs.length))(hj:j+vs.length<=5) :
  Zj 8 base (R5 w (zyo m k c) (0+j) vs) (RF W k c s) m:=by
 have:=h.Bv2 k0 Qo c0 c1 he hj;rw[<-z1b] at this;unfold zyo;rw[Dl,Nat.zero_add];exact this
theorem Zj.Bv0(h:Zj 8 base w W m)(hd:∀x∈QR 8 m,x∉bs)(k0:0<=k)(k8:k<8)(c0:0<=c)(c1:c<((gi W.IC k).IE.length:Int)){j n:Nat}(hj:j+n<=5):YK bs w (zyo m k c) (0+j) n:=by
 unfold zyo;refine zb6.2 ?_;rw[Nat.zero_add];exact z34 h hd k0 Qo c0 c1 hj
theorem zsx{vs:List Va}{j:Nat}(k0:0<=k)(k8:k<8):Q0 (QR 8 m) w (R5 w (zyo m k c) (0+j) vs):=by
 unfold zyo;rw[Dl];exact zms Qo
theorem YT(h:PW base pb w W m)(c0:0<=c)(c1:c<(W.ID.length:Int)) :
  Cz Ze #[.agg #[.pointer (pA pb),I c]] w λe w'=>e=.returned (.tuple #[])/\Mp base pb [] w m w' (Rp W c) m:=by
 refine(H6 (pA pb) c (R:=λv w'=>v=.tuple #[]/\Mp base pb [] w m w' (Rp W c) m) ?_).mono λe w' ⟨v,he,hv,h3⟩=>⟨by rw[he,hv],h3⟩
 intro b hb;obtain⟨e1,e2⟩:=zsg h.own c0 c1;have hM:=Mp.start h;have hp:=hM.wH;have hr:=h.own.rd (bs:=[]) Qs;have hs:=Lt (n:=Int.toNat c*5) (hr.c c c0 c1);refine⟨_,LK hp c0 c1,_,LK hp c0 c1,hs,zb6.2 (zyj h.own Qs c0 c1 Qd),hs,?_⟩;rw[Dl];refine⟨zb6.2 (zyj e1 Qs c0 (by simpa using c1) Qd),?_⟩;rw[Dl];exact λwr hx=>⟨rfl,(hM.Sl e2 (zf3.trans zf3) (by simp[Qb,Rp,Se])).M' hx⟩
theorem zhs{p:OA}{g:Int}(h:Mk bs w p W m)(ht:Ye W.IC)(hu:Q7 W.IC g=true):PX bs Vo #[.pointer p,I g] w (I (dep 3 W.IC g)):=
 F8 p g λwr hx=>by
  have h:=(h.ext hx).less (cs:=[]) Qs
  have hdr:∀x,Q7 W.IC x=true->0<=dep 3 W.IC x/\dep 3 W.IC x<=3:=λx hux=>by
   by_cases hz:x=0
   ·subst hz; rw[Y6]; omega
   ·obtain⟨_,_,_,d,e,_,hd⟩:=Yf ht hux hz;omega
  refine⟨λvs=>∃(x s:Int),vs=[I x,I s]/\Q7 W.IC x=true/\0<=s/\s+dep 3 W.IC x=dep 3 W.IC g,λvs=>(dep 3 W.IC (ZP 0 vs)).toNat,⟨g,0,rfl,hu,Qd,Qo⟩,?_⟩;rintro x s ⟨x',s',he,hux,hs0,hI⟩;simp only[I4,I5,true_and,and_true] at he;obtain⟨rfl,rfl⟩:=he;have hgd:=hdr g hu;have hxd:=hdr x hux;refine⟨λhz=>?_,λhz=>?_⟩
  ·have hz:x≠0:=by simpa using hz
   obtain⟨hp,a,b,d,e,e2,hd⟩:=Yf ht hux hz;refine⟨⟨Qo,Qo⟩,h.some,_,_,_,h.IC,h.rd.g.ix a b,_,h.rd.g.parent a b,⟨_,_,rfl,hp,Qo,Qo⟩,?_⟩;show (dep 3 W.IC (gi W.IC x).parent).toNat<(dep 3 W.IC x).toNat;omega
  ·have hz:x=0:=by simpa using hz
   subst hz;rw[Y6] at hI;rw[show s=dep 3 W.IC g by omega]
theorem Mf{F K:Int}(h:PW base pb w W m)(gJ:SF F K W)(hk:F+Qj<=K)(hK:K<=1000000000000000000)(c0:0<=c)(c1:c<(W.ID.length:Int)) :
  Cz YD #[.agg #[.pointer (pA pb),I c]] w λe w'=>e=.returned (.tuple #[])/\Mp base pb [] w m w' (QJ W c) m:=by
 refine(KF (pA pb) c (R:=λv w'=>v=.tuple #[]/\Mp base pb [] w m w' (QJ W c) m) ?_).mono λe w' ⟨v,he,hv,h3⟩=>⟨by rw[he,hv],h3⟩
 intro x hx;have dD:=gJ.w.a.gl
 refine⟨λvs w1=>∃(j:Nat),vs=[I (3-(j:Int))]/\j<=3/\Mp base pb [x] w m w1 (Xd W c j) m,
  λvs _=>(ZP 0 vs).toNat,λwr tZ _=>⟨0,rfl,Qd,((Mp.start h).add hx).M' tZ⟩,?_⟩
 rintro d wv hs ⟨j,he,j3,hM⟩;obtain⟨hS,hO⟩:=Dd gJ hk c0 c1 j j3;have hN:Xd W c (j+1)=Zq (Xd W c j) c (3-(j:Int)) 8:=rfl;have hE:j=3->Xd W c j=QJ W c:=λe=>by rw[e]; rfl
 generalize Xd W c j=W1 at hM hS hO hN hE;simp only[I4,I5,true_and,and_true] at he;refine⟨λhd=>?_,λhd=>?_⟩
 ·have hd:=Ot hd;have tU:c<(W1.ID.length:Int):=by rw[hO.c]; exact c1
  have Cn2:W1.IC.length=W.IC.length:=hO.g.len;have hp:=hM.wH;refine⟨hp.some,_,_,_,hp.IC,?_⟩;rw[Cn2];refine XL W.IC.length 0 rfl (λk w2=>k<=8/\Mp base pb [x] w m w2 (Zq W1 c d k) m) (λw2 R0 _=>⟨Qd,hM.step R0⟩) λk w2 SR ⟨hk8,T'⟩=>?_
  obtain⟨oE,nN⟩:=Bz hS hk (c:=c) (d:=d) Qo c0 tU k hk8;have hf2:=hO.trans nN;have tM:(Zq W1 c d k).IC.length=W.IC.length:=hf2.g.len;have AS0:(Zq W1 c d k).ID.length=W.ID.length:=by rw[hf2.c]
  have SP:Zq W1 c d (k+1)=if (gi (Zq W1 c d k).IC (k:Int)).used=true/\dep 3 (Zq W1 c d k).IC (k:Int)=d then RF (Zq W1 c d k) (k:Int) c (ZZ (Zq W1 c d k) (k:Int) c) else Zq W1 c d k:=rfl;have hN8:k=8->Xd W c (j+1)=Zq W1 c d k:=λe=>by rw[hN,<-he,e]
  generalize Zq W1 c d k=W2 at T' oE nN hf2 tM AS0 SP hN8;have gW:=T'.wH;have hr:=gW.rd;refine⟨λIT=>?_,λRC=>?_⟩
  ·have IT:=Ot IT;have Rw:(k:Int)<(W2.IC.length:Int):=Qo;have W8:=hr.g.ix (i:=(k:Int)) Qo Rw;have hru:=hr.g.used (i:=(k:Int)) Qo Rw;refine⟨gW.some,_,_,_,gW.IC,W8,(gi W2.IC (k:Int)).used,hru,dep 3 W2.IC (k:Int),λg=>?_,λg=>?_,λg=>?_⟩
   ·exact zhs gW oE.w.a.tree (Q4.2 ⟨Qo,Rw,by simpa using g⟩)
   ·refine⟨⟨Qo,Qo⟩,λw3 R3 _=>Qp Qo ⟨Qo,?_⟩⟩;rw[SP,B']
    ·exact T'.step R3
    ·rintro⟨h1,h2⟩;rw[h1,h2] at g;simp at g
   ·simp only[H',I6,bne_eq_false_iff_eq] at g;have hu:Q7 W2.IC (k:Int)=true:=Q4.2 ⟨Qo,Rw,g.1⟩;rw[C' ⟨g.1,g.2⟩] at SP;have hsl:=oE.w.a.sl hu
    have hz:(k:Int)≠0:=λe=>by
     rw[e,Y6] at g;omega
    have hpa:=oE.w.a.up hu hz;obtain⟨p0,p1,_⟩:=Q4.1 hpa;have hpl:=oE.w.a.sl hpa;have s1:=oE.w.s _ c hu c0 Qo;have s2:=oE.w.s _ c hpa c0 Qo;have lc:=ZY ((Qc W2 (k:Int) c).v-(Qc W2 (gi W2.IC (k:Int)).parent c).floor) (Qc W2 (k:Int) c).w;have lm:=Yb (Qc W2 (k:Int) c).w;have hsh:=gW.sh (g:=(k:Int)) (c:=c) Qo Rw c0 Qo;have CR7:=gW.sh (g:=(gi W2.IC (k:Int)).parent) (c:=c) p0 p1 c0 Qo;have Aq6:=KM (g:=(k:Int)) gW oE.w.a c0 Qo;have Bs3:=zd9 (g:=(k:Int)) gW oE.w.a hu c0 Qo;have cS:c<((gi W2.IC (k:Int)).IE.length:Int):=Qo;refine⟨_,Zn gW Qo Rw c0 cS,QX W2 (k:Int) c,Aq6,UD W2 (k:Int) c,λ_=>Bs3,λ_=>hsh.1,_,λ_=>hsh.2 (j:=1) rfl,λg2=>?_,λg2=>?_⟩
    ·have hss:ZZ W2 (k:Int) c=⟨(Qc W2 (k:Int) c).floor,QX W2 (k:Int) c && !UD W2 (k:Int) c,(Qc W2 (gi W2.IC (k:Int)).parent c).floor+Yk ((Qc W2 (k:Int) c).v-(Qc W2 (gi W2.IC (k:Int)).parent c).floor) (Qc W2 (k:Int) c).w,(Qc W2 (k:Int) c).w,(Qc W2 (k:Int) c).sum⟩:=by
      unfold ZZ;rw[C']
      simpa[Qc] using g2
     have e1:=T'.own.BM1 (k:=(k:Int)) (c:=c) Qo Qo c0 cS (j:=2) (vs:=[I ((Qc W2 (gi W2.IC (k:Int)).parent c).floor+Yk ((Qc W2 (k:Int) c).v-(Qc W2 (gi W2.IC (k:Int)).parent c).floor) (Qc W2 (k:Int) c).w)]) (s:={ Qc W2 (k:Int) c with v:=(Qc W2 (gi W2.IC (k:Int)).parent c).floor+Yk ((Qc W2 (k:Int) c).v-(Qc W2 (gi W2.IC (k:Int)).parent c).floor) (Qc W2 (k:Int) c).w }) rfl Qs;have cS1:c<((gi (RF W2 (k:Int) c { Qc W2 (k:Int) c with v:=(Qc W2 (gi W2.IC (k:Int)).parent c).floor+Yk ((Qc W2 (k:Int) c).v-(Qc W2 (gi W2.IC (k:Int)).parent c).floor) (Qc W2 (k:Int) c).w }).IC (k:Int)).IE.length:Int):=by rw[zj4 Qo Rw Qo]; exact cS
     have dZ:Qc (RF W2 (k:Int) c { Qc W2 (k:Int) c with v:=(Qc W2 (gi W2.IC (k:Int)).parent c).floor+Yk ((Qc W2 (k:Int) c).v-(Qc W2 (gi W2.IC (k:Int)).parent c).floor) (Qc W2 (k:Int) c).w }) (k:Int) c={ Qc W2 (k:Int) c with v:=(Qc W2 (gi W2.IC (k:Int)).parent c).floor+Yk ((Qc W2 (k:Int) c).v-(Qc W2 (gi W2.IC (k:Int)).parent c).floor) (Qc W2 (k:Int) c).w }:=by
      rw[Vf Qo Rw c0 cS Qo c0,C' ⟨rfl,rfl⟩]
     have e2:=e1.BM1 (k:=(k:Int)) (c:=c) Qo Qo c0 cS1 (j:=1) (vs:=[.bool (QX W2 (k:Int) c && !UD W2 (k:Int) c)]) (s:=ZZ W2 (k:Int) c) (by rw[dZ,hss]; rfl) Qs;rw[zur Qo Rw] at e2;have hX:=(zsx (m:=m) (w:=w2) (k:=(k:Int)) (c:=c) (j:=2) (vs:=[I ((Qc W2 (gi W2.IC (k:Int)).parent c).floor+Yk ((Qc W2 (k:Int) c).v-(Qc W2 (gi W2.IC (k:Int)).parent c).floor) (Qc W2 (k:Int) c).w)]) Qo Qo).trans (zsx (m:=m) (k:=(k:Int)) (c:=c) (j:=1) (vs:=[.bool (QX W2 (k:Int) c && !UD W2 (k:Int) c)]) Qo Qo);have heq:Qb (RF W2 (k:Int) c (ZZ W2 (k:Int) c)) m=Qb W2 m:=UZ (Tm Qo Rw).fr;refine⟨gW.some,_,_,_,gW.IC,W8,_,hr.g.parent Qo Rw,_,Zn gW p0 p1 c0 Qo,CR7.1,_,CR7.2 (j:=0) rfl,hsh.1,_,hsh.2 (j:=2) rfl,⟨Qo,Qo⟩,hsh.1,_,hsh.2 (j:=3) rfl,_,KK,⟨Qo,Qo⟩,hsh.1,T'.own.Bv0 T'.nb Qo Qo c0 cS (j:=2) Qd,hsh.1,e1.Bv0 T'.nb Qo Qo c0 cS1 (j:=1) Qd,⟨Qo,Qo⟩,λw3 R3 _=>Qp Qo ⟨Qo,?_⟩⟩;rw[SP];exact(T'.Sl e2 hX heq).step R3
    ·have hss:ZZ W2 (k:Int) c=⟨(Qc W2 (k:Int) c).floor,QX W2 (k:Int) c && !UD W2 (k:Int) c,(Qc W2 (k:Int) c).v,(Qc W2 (k:Int) c).w,(Qc W2 (k:Int) c).sum⟩:=by
      unfold ZZ;rw[B'];intro h1;rw[h1.1,show (Qc W2 (k:Int) c).on=false from h1.2] at g2;cases g2
     have e2:=T'.own.BM1 (k:=(k:Int)) (c:=c) Qo Qo c0 cS (j:=1) (vs:=[.bool (QX W2 (k:Int) c && !UD W2 (k:Int) c)]) (s:=ZZ W2 (k:Int) c) (by rw[hss]; rfl) Qs;have heq:Qb (RF W2 (k:Int) c (ZZ W2 (k:Int) c)) m=Qb W2 m:=UZ (Tm Qo Rw).fr;refine⟨hsh.1,T'.own.Bv0 T'.nb Qo Qo c0 cS (j:=1) Qd,⟨Qo,Qo⟩,λw3 R3 _=>Qp Qo ⟨Qo,?_⟩⟩;rw[SP];exact(T'.Sl e2 (zsx Qo Qo) heq).step R3
  ·have RC:=Ou RC;have hN8:=hN8 Qo;refine⟨⟨Qo,Qo⟩,λw3 R3 _=>⟨⟨j+1,?_,Qo,?_⟩,?_⟩⟩
   ·rw[show d-1=3-((j+1:Nat):Int) by omega]
   ·rw[hN8];exact T'.step R3
   ·show (d-1).toNat<d.toNat;omega
 ·have hd:=Ou hd;rw[<-hE Qo];exact λw2 R0=>⟨rfl,(hM.step R0).close⟩
end
def O1(W:Q8)(g c:Int):Nat->Int
 | 0=>100000000000000001
 | k+1=>if Zr W g c k=true then (if Zl W c k<O1 W g c k then Zl W c k else O1 W g c k) else O1 W g c k
theorem AS{W:Q8}{g c:Int}:∀k:Nat,(∀j,j<k->Zr W g c j=true->Zl W c j<=100000000000000000)->O1 W g c k=if Zy W g c k=true then Z6 W g c k else 100000000000000001
 | 0,_=>by
  have:Zy W g c 0=false:=rfl;rw[this]; rfl
 | k+1,h=>by
  have ih:=AS k λj hj=>h j Qo
  simp only[O1]
  cases hp:Zr W g c k with
  | false=>
   have:=FY (W:=W) (g:=g) (c:=c) (k:=k) (by rw[hp]; rfl);rw[B' Qd,ih,this.1,this.2]
  | true=>
   have hv:=h k Qo hp;rw[C' rfl,ih]
   cases hb:Zy W g c k with
   | false=>
    have:=FZ (W:=W) (g:=g) (c:=c) (k:=k) (by rw[hp,hb]; rfl);rw[this.1,this.2,B' (show ¬(false=true) by decide),C' (show Zl W c k<100000000000000001 by omega),C' (show true=true from rfl)]
   | true=>
    rw[C' rfl]
    by_cases IT:Zl W c k<Z6 W g c k
    ·have:=FZ (W:=W) (g:=g) (c:=c) (k:=k) (by rw[hp,Ih IT]; simp);rw[this.1,this.2,C' rfl,C' IT]
    ·have:=FY (W:=W) (g:=g) (c:=c) (k:=k) (by rw[hp,hb,decide_eq_false IT]; rfl);rw[this.1,this.2,hb,C' rfl,B' IT]
theorem zz3{K:Int}{W:Q8}(h:SW K W){g c:Int}(c0:0<=c)(c1:c<(W.ID.length:Int)){j:Nat}(hj:j<20)(hp:Zr W g c j=true):Zl W c j<=K:=by
 have hl:=h.a.gl;unfold Zl
 by_cases h12:j<12
 ·rw[C' h12];exact(h.tv (j:Int) Qo Qo).2
 ·rw[B' h12];unfold Zr at hp;rw[B' h12] at hp;unfold Jy at hp;simp only[A'] at hp;have hu:Q7 W.IC ((j-12:Nat):Int)=true:=Q4.2 ⟨Qo,Qo,hp.1.2.1⟩;exact(h.s _ c hu c0 c1).2.2.2.1
section
variable {base pb:Nat}{w:Wo}{W:Q8}{m:MW}{k c:Int}
theorem zn3{K:Int}(h:PW base pb w W m)(gJ:SW K W)(hK0:0<=K)(hK:K<=100000000000000000)(c0:0<=c)(c1:c<(W.ID.length:Int)) :
  Cz TE #[.agg #[.pointer (pA pb),I c]] w λe w'=>e=.returned (.tuple #[])/\Mp base pb [] w m w' (Zc W c) m:=by
 refine(NN (pA pb) c (R:=λv w'=>v=.tuple #[]/\Mp base pb [] w m w' (Zc W c) m) ?_).mono λe w' ⟨v,he,hv,h3⟩=>⟨by rw[he,hv],h3⟩
 intro x hx;have dD:=gJ.a.gl;have hp0:=(Mp.start h).wH;refine⟨hp0.some,_,_,_,hp0.IC,?_⟩;refine XL W.IC.length 0 rfl (λk w2=>k<=8/\Mp base pb [x] w m w2 (QT W c k) m) (λw2 R0 _=>⟨Qd,((Mp.start h).add hx).M' R0⟩) λk w2 SR ⟨hk8,T'⟩=>?_
 obtain⟨oE,nN⟩:=Mw gJ hK0 c0 c1 k hk8;have tM:(QT W c k).IC.length=W.IC.length:=nN.g.len;have AS0:(QT W c k).ID.length=W.ID.length:=by rw[nN.c]
 have SP:QT W c (k+1)=if (gi (QT W c k).IC (k:Int)).used=true/\Zy (QT W c k) (k:Int) c 20=true/\Z6 (QT W c k) (k:Int) c 20>(Qc (QT W c k) (k:Int) c).floor then RF (QT W c k) (k:Int) c (ER (QT W c k) (k:Int) c) else QT W c k:=rfl;have hN8:k=8->Zc W c=QT W c k:=λe=>by rw[e]; rfl
 generalize QT W c k=W2 at T' oE nN tM AS0 SP hN8;have hp:=T'.wH;have hr:=hp.rd;have fZ:=oE.a.t;refine⟨λIT=>?_,λRC=>?_⟩
 ·have IT:=Ot IT;have Rw:(k:Int)<(W2.IC.length:Int):=Qo;refine⟨hp.some,_,_,_,hp.IC,hr.g.ix (i:=(k:Int)) Qo Rw,(gi W2.IC (k:Int)).used,hr.g.used Qo Rw,λg=>?_,λg=>?_⟩
  ·refine⟨⟨Qo,Qo⟩,λw3 R3 _=>Qp Qo ⟨Qo,?_⟩⟩;rw[SP,B' (λh1=>by rw[h1.1] at g; cases g)];exact T'.step R3
  have g:(gi W2.IC (k:Int)).used=true:=by simpa using g
  have hu:Q7 W2.IC (k:Int)=true:=Q4.2 ⟨Qo,Rw,g⟩;have hsl:=oE.a.sl hu;have cS:c<((gi W2.IC (k:Int)).IE.length:Int):=Qo;have hlm:=AS (W:=W2) (g:=(k:Int)) (c:=c) 20 λj hj hp=>Int.le_trans (zz3 oE c0 Qo hj hp) hK
  refine⟨hp.some,_,_,_,hp.tasks,λvs w1=>∃(t:Nat),vs=[I (O1 W2 (k:Int) c t),I (t:Int)]/\t<=12/\Mp base pb [x] w m w1 W2 m,Zx W2.tasks.length 1,λw3 R3 _=>⟨0,rfl,Qd,T'.step R3⟩,?_⟩;rintro least x1 R1 gI ⟨t,he,ht,cJ⟩;simp only[I4,I5,true_and,and_true] at he;obtain⟨rfl,rfl⟩:=he;have hp3:=cJ.wH;refine⟨λBg7=>?_,λAN7=>?_⟩
  ·have Bg7:=Ot Bg7;have hq:=Eb (g:=(k:Int)) (c:=c) hp3 (t:=(t:Int)) Qo Bg7;rw[Ig] at hq;refine⟨hp3.rd.t.ix QG Qo Bg7,_,_,_,_,_,_,_,_,_,hp3.rd.t (t:Int) Qo Bg7,λb1 fQ=>⟨Pp W2 (k:Int) c t,hq,λga=>⟨⟨Qo,Qo⟩,λw4 Si _=>⟨⟨t+1,?_,Qo,cJ.step Si⟩,?_⟩⟩,λga=>⟨⟨Qo,Qo⟩,λw4 Si _=>⟨⟨t+1,?_,Qo,cJ.step Si⟩,?_⟩⟩⟩⟩
   ·simp only[O1];rw[Vs Qo,C' ga,F2 Qo];rfl
   ·simp only[Zx,Xm,ZP,Ie,List.getElem?_cons_succ]; omega
   ·simp only[O1];rw[Vs Qo,B' (by rw[ga]; decide)];rfl
   ·simp only[Zx,Xm,ZP,Ie,List.getElem?_cons_succ]; omega
  have AN7:=Ou AN7;have CB3:t=12:=Qo;subst CB3;refine⟨hp3.some,_,_,_,hp3.IC,λvs w1=>∃(i:Nat),vs=[I (O1 W2 (k:Int) c (12+i)),I (i:Int)]/\i<=8/\Mp base pb [x] w m w1 W2 m,Zx W2.IC.length 1,λw4 Si _=>⟨0,rfl,Qd,cJ.step Si⟩,?_⟩;rintro iH x9 Rr fT ⟨i,he,hi,eD⟩;simp only[I4,I5,true_and,and_true] at he;obtain⟨rfl,rfl⟩:=he;have hp4:=eD.wH;refine⟨λBR7=>?_,λCN1=>?_⟩
  ·have BR7:=Ot BR7;have hh:=Bm (g:=(k:Int)) hp4 oE.a (k:=(i:Int)) Qo BR7 c0 Qo;rw[Ig] at hh
   have cX:O1 W2 (k:Int) c (12+(i+1))=if Jy W2 (k:Int) c i=true then (if (Qc W2 (i:Int) c).v<O1 W2 (k:Int) c (12+i) then (Qc W2 (i:Int) c).v else O1 W2 (k:Int) c (12+i)) else O1 W2 (k:Int) c (12+i):=by
    rw[show 12+(i+1)=12+i+1 from rfl];simp only[O1];rw[Uo,F1]
   refine⟨Jy W2 (k:Int) c i,hh,λga=>?_,λga=>⟨⟨Qo,Qo⟩,λw5 Sb _=>⟨⟨i+1,?_,Qo,eD.step Sb⟩,?_⟩⟩⟩
   ·have hui:Q7 W2.IC (i:Int)=true:=by
     unfold Jy at ga;simp only[A'] at ga;exact Q4.2 ⟨Qo,BR7,ga.1.2.1⟩
    have DJ5:=oE.a.sl hui;have hsh:=hp4.sh (g:=(i:Int)) (c:=c) Qo BR7 c0 Qo;refine⟨_,Zn hp4 Qo BR7 c0 Qo,hsh.1,_,hsh.2 (j:=2) rfl,⟨Qo,Qo⟩,λw5 Sb _=>⟨⟨i+1,?_,Qo,eD.step Sb⟩,?_⟩⟩
    ·rw[cX,C' ga]; rfl
    ·simp only[Zx,Xm,ZP,Ie,List.getElem?_cons_succ]; omega
   ·rw[cX,B' (by rw[ga]; decide)]; rfl
   ·simp only[Zx,Xm,ZP,Ie,List.getElem?_cons_succ]; omega
  have CN1:=Ou CN1;have hi8:i=8:=Qo;subst hi8;rw[show 12+8=20 from rfl,hlm];have hsh:=hp4.sh (g:=(k:Int)) (c:=c) Qo Rw c0 cS;have br:=zc2 oE (k:=(k:Int)) c0 Qo hK0;refine⟨λgl=>?_,λgl=>?_⟩
  ·have hb:Zy W2 (k:Int) c 20=true:=Iq λhb=>by rw[B' hb] at gl; revert gl; decide
   rw[C' hb];have e1:=eD.own.BM1 (k:=(k:Int)) (c:=c) Qo Qo c0 cS (j:=0) (vs:=[I (if Z6 W2 (k:Int) c 20>(Qc W2 (k:Int) c).floor then Z6 W2 (k:Int) c 20 else (Qc W2 (k:Int) c).floor)]) (s:={ Qc W2 (k:Int) c with floor:=if Z6 W2 (k:Int) c 20>(Qc W2 (k:Int) c).floor then Z6 W2 (k:Int) c 20 else (Qc W2 (k:Int) c).floor }) rfl Qs
   have heq:RF W2 (k:Int) c { Qc W2 (k:Int) c with floor:=if Z6 W2 (k:Int) c 20>(Qc W2 (k:Int) c).floor then Z6 W2 (k:Int) c 20 else (Qc W2 (k:Int) c).floor }=QT W c (k+1):=by
    rw[SP]
    by_cases hgt:Z6 W2 (k:Int) c 20>(Qc W2 (k:Int) c).floor
    ·rw[C' hgt,C' (show (gi W2.IC (k:Int)).used=true/\Zy W2 (k:Int) c 20=true/\_>_ from ⟨g,hb,hgt⟩)]; rfl
    ·rw[B' hgt,B' (λh=>hgt h.2.2)];exact zqz Qo Rw c0 cS
   have wD:Qb (RF W2 (k:Int) c { Qc W2 (k:Int) c with floor:=if Z6 W2 (k:Int) c 20>(Qc W2 (k:Int) c).floor then Z6 W2 (k:Int) c 20 else (Qc W2 (k:Int) c).floor }) m=Qb W2 m:=UZ (Tm Qo Rw).fr;refine⟨_,Zn hp4 Qo Rw c0 cS,_,Zn hp4 Qo Rw c0 cS,hsh.1,_,hsh.2 (j:=0) rfl,hsh.1,eD.own.Bv0 eD.nb Qo Qo c0 cS (j:=0) Qd,⟨Qo,Qo⟩,λw5 Sb _=>Qp (w1:=w2) Qo ⟨Qo,?_⟩⟩;rw[<-heq];exact(eD.Sl e1 (zsx Qo Qo) wD).step Sb
  ·have hb:¬Zy W2 (k:Int) c 20=true:=λhb=>by
    rw[C' hb] at gl;have:=Ou gl;omega
   refine⟨⟨Qo,Qo⟩,λw5 Sb _=>Qp (w1:=w2) Qo ⟨Qo,?_⟩⟩;rw[SP,B' (λh=>hb h.2.1)];exact eD.step Sb
 ·have RC:=Ou RC;rw[hN8 Qo];exact λw3 R3=>⟨rfl,(T'.step R3).close⟩
theorem Mp.nil{w0 w:Wo}{m0:MW}(h:Mp base pb [] w0 m0 w W m){w':Wo}(hx:Q0 [] w w'):Mp base pb [] w0 m0 w' W m:=h.step hx
theorem Jt{K:Int}(h:PW base pb w W m)(gJ:SW K W)(hK0:0<=K)(hK:K+Vu<=100000000000000000) :
  Cz Z2 #[.pointer (pA pb)] w λe w'=>e=.returned (.tuple #[])/\Mp base pb [] w m w' (Qh W) m:=by
 refine(DH (pA pb) (R:=λv w'=>v=.tuple #[]/\Mp base pb [] w m w' (Qh W) m) ?_).mono λe w' ⟨v,he,hv,h3⟩=>⟨by rw[he,hv],h3⟩
 have dD:=gJ.a.gl;have CM0:=gJ.a.c2;simp only[Vu,Qj] at hK;have hp0:=(Mp.start h).wH;refine⟨hp0.some,_,_,_,hp0.ID,?_⟩;refine XL W.ID.length 0 rfl (λk w1=>k<=W.ID.length/\Mp base pb [] w m w1 (Yl W k) m) (λw1 RR _=>⟨Ic _,(Mp.start h).M' RR⟩) λk w1 dZ ⟨hk,hM⟩=>?_
 obtain⟨hS,hO⟩:=OV (F:=K) (K:=K+Qj) (gJ.sf.mono (I2 _) (by simp only[Qj]; omega)) (I2 _) k hk;have SP:Yl W (k+1)=QJ (Yl W k) (k:Int):=rfl;have nO:k=W.ID.length->Yl W W.ID.length=Yl W k:=λe=>by rw[e]
 obtain⟨n1,n2,n3⟩:=LJ hO.fr;generalize Yl W k=W1 at hM hS hO SP nO n1 n2 n3;refine⟨λIT=>⟨_,_,Yr,λI' RR SR=>?_⟩,λRC=>?_⟩
 ·have IT:=Ot IT;have hM1:=hM.nil RR;refine I3 (Mf hM1.pw hS Qo (by simp only[Qj]; omega) (c:=(k:Int)) Qo Qo) ?_;rintro e Rr ⟨he,hy⟩;refine⟨he,Z3,⟨Qo,Qo⟩,λw3 R3 _=>Qp Qo ⟨Qo,?_⟩⟩;rw[SP];exact(hM1.call hy Qs).nil R3
 have RC:=Ou RC;have nO:=nO Qo;have Sk:Qh W=Jg (Gc W1) W.ID.length:=by unfold Qh; rw[nO]
 have hp1:=hM.wH;refine⟨hp1.some,_,_,_,hp1.IC,?_⟩;refine XL W1.IC.length 0 rfl (λg w2=>g<=8/\Mp base pb [] w m w2 (Yg W1 g) m) (λw2 R0 _=>⟨Qd,hM.nil R0⟩) λg w2 SR ⟨hg8,T'⟩=>?_
 obtain⟨oE,nN⟩:=TW hS g hg8;have AM2:Yg W1 (g+1)=if (gi (Yg W1 g).IC (g:Int)).used=true/\(gi (Yg W1 g).IC (g:Int)).IS.IX≠0 then ZV (Yg W1 g) (g:Int) (Yg W1 g).ID.length else Yg W1 g:=rfl;have AS3:g=8->Gc W1=Yg W1 g:=λe=>by rw[e]; rfl
 have hf2:=hO.fr.trans nN.fr;generalize Yg W1 g=W2 at T' oE nN AM2 AS3 hf2;obtain⟨q1,q2,q3⟩:=LJ hf2;have gW:=T'.wH;refine⟨λIT=>?_,λbP=>?_⟩
 ·have IT:=Ot IT;have Rw:(g:Int)<(W2.IC.length:Int):=Qo;have hrl:=gW.rd.g.CU1 (i:=(g:Int)) Qo Rw;refine⟨gW.some,_,_,_,gW.IC,gW.rd.g.ix Qo Rw,_,_,_,hrl,?_⟩
  by_cases hq:(gi W2.IC (g:Int)).used=true/\(gi W2.IC (g:Int)).IS.IX≠0
  ·rw[C' hq] at AM2;have hu:Q7 W2.IC (g:Int)=true:=Q4.2 ⟨Qo,Rw,hq.1⟩;have hbl:=((oE.w.a.u hu).2.2.IS hq.2).2.1;refine XL (gi W2.IC (g:Int)).IS.locals.length 0 rfl (λc w3=>c<=W2.ID.length/\Mp base pb [] w m w3 (ZV W2 (g:Int) c) m) (λw3 R3 _=>⟨Ic _,T'.nil R3⟩) λc w3 gI ⟨hc,cJ⟩=>?_
   obtain⟨hS3,hO3,hq3⟩:=Hi oE hu hq.2 c hc;have AD4:ZV W2 (g:Int) (c+1)=if gi (gi (ZV W2 (g:Int) c).IC (g:Int)).IS.locals (c:Int)>0/\QX (ZV W2 (g:Int) c) (g:Int) (c:Int)=false then RL (ZV W2 (g:Int) c) (g:Int) (YG (gi (ZV W2 (g:Int) c).IC (g:Int)).IS (c:Int)) else ZV W2 (g:Int) c:=rfl;have Bz8:c=W2.ID.length->Yg W1 (g+1)=ZV W2 (g:Int) c:=λe=>by rw[AM2,e]
   have hu3:Q7 (ZV W2 (g:Int) c).IC (g:Int)=true:=by rw[hO3.g.eB]; exact hu
   have hf3:=hf2.trans hO3.fr;generalize ZV W2 (g:Int) c=W3 at cJ hS3 hO3 hq3 AD4 Bz8 hu3 hf3;obtain⟨r1,r2,r3⟩:=LJ hf3;obtain⟨u0,u1,kF⟩:=hS3.w.a.u hu3;obtain⟨wC,Cl8,_⟩:=kF.IS hq3;have Aa5:(g:Int)<(W3.IC.length:Int):=Qo;have hp3:=cJ.wH;have hLo:=hp3.rd.g.locals (g:Int) Qo Aa5;refine⟨λkL=>?_,λAS6=>?_⟩
   ·have kL:=Ot kL;have CO0:=hLo.ix JU (i:=(c:Int)) Qo Qo;rw[Cl8,r1,<-q1,<-hbl] at CO0;have Aq6:=KM (g:=(g:Int)) (c:=(c:Int)) hp3 hS3.w.a Qo Qo;refine⟨CO0,_,hLo (c:Int) Qo Qo,_,_,λ_=>Yr,_,λ_=>Aq6,λg3 RE Sb _=>?_,λg3=>?_⟩
    ·simp only[A',Ij,IB] at g3;rw[C' g3] at AD4;have tV:=cJ.nil Sb;have B99:Zj 8 base RE (RL W3 (g:Int) (gi W3.IC (g:Int)).IS) m:=by rw[zfv Qo Aa5]; exact tV.own
     refine I3 (zt2 (op:=⟨3,(c:Int),0⟩) B99 Qo Qo wC) ?_;rintro e1 cQ ⟨eH,hB,hX⟩
     have fR:ZU (gi W3.IC (g:Int)).IS ⟨3,(c:Int),0⟩=(YG (gi W3.IC (g:Int)).IS (c:Int),0):=by
      unfold ZU;rw[B' (show ¬(3:Int)=4 by decide),B' (by rw[Qx.2 (by show 0<=(c:Int)/\(c:Int)<=_; omega)]; decide),B' (show ¬(3:Int)=1 by decide),B' (show ¬(3:Int)=2 by decide),C' rfl]
     rw[fR] at eH hB
     dsimp only at eH hB
     refine⟨_,eH,Z3,⟨Qo,Qo⟩,λw6 Wt _=>Qp Qo ⟨Qo,?_⟩⟩;rw[AD4];exact(tV.Sl hB hX (UZ (Aj Qo Aa5).fr)).nil Wt
    ·refine⟨⟨Qo,Qo⟩,λw6 Wt _=>Qp Qo ⟨Qo,?_⟩⟩;rw[AD4,B']
     ·exact cJ.nil Wt
     ·rintro⟨h1,h2⟩;rw[h2,Ih h1] at g3;cases g3
   ·have AS6:=Ou AS6;refine⟨⟨Qo,Qo⟩,λw6 Wt _=>Qp Qo ⟨Qo,?_⟩⟩;rw[Bz8 Qo];exact cJ.nil Wt
  ·rw[B' hq] at AM2
   have hz:(gi W2.IC (g:Int)).IS.locals.length=0:=by
    have hgp:=oE.w.a.grp (g:Int) Qo Qo
    cases hu:(gi W2.IC (g:Int)).used with
    | false=>exact(Hy (hgp.1 hu).b).2.2.2.1
    | true=>
     have h0:(gi W2.IC (g:Int)).IS.IX=0:=Iq λhn=>hq ⟨hu,hn⟩
     exact(Hy ((hgp.2 hu).none h0).1).2.2.2.1
   rw[hz];refine XL 0 0 rfl (λc w3=>c<=0/\Mp base pb [] w m w3 W2 m) (λw3 R3 _=>⟨Ic _,T'.nil R3⟩) λc w3 gI ⟨hc,cJ⟩=>⟨λkL=>?_,λ_=>⟨⟨Qo,Qo⟩,λw6 Wt _=>Qp Qo ⟨Qo,?_⟩⟩⟩
   ·have:=Ot kL;omega
   ·rw[AM2];exact cJ.nil Wt
 have bP:=Ou bP;have AS3:=AS3 Qo;rw[AS3] at Sk;have hS4:SW (K+Qj) W2:=oE.w;refine⟨gW.some,_,_,_,gW.ID,?_⟩;refine XL W2.ID.length 0 rfl (λk w3=>k<=W2.ID.length/\Mp base pb [] w m w3 (Jg W2 k) m) (λw3 R3 _=>⟨Ic _,T'.nil R3⟩) λk w3 gI ⟨hk,uD⟩=>?_
 obtain⟨hS7,hf7⟩:=Lu hS4 (by simp only[Qj]; omega) k hk;have AS1:Jg W2 (k+1)=VG (Jg W2 k) (k:Int):=rfl;have AS4:k=W2.ID.length->Qh W=Jg W2 k:=λe=>by rw[Sk,<-q1,e]
 have hfW:=hf2.trans hf7;obtain⟨q1,q2,q3⟩:=LJ hfW;generalize Jg W2 k=W7 at uD hS7 hf7 AS1 AS4 hfW q1 q2 q3;refine⟨λIT=>⟨_,_,Yr,λb hb S9 AD8 nP=>?_⟩,λRC=>?_⟩
 ·have IT:=Ot IT;have hM9:=(uD.add hb).M' AD8;have hk4:(k:Int)<=4:=Qo;have tU:(k:Int)<(W7.ID.length:Int):=Qo;have hSF:=hS7.sf.mono (F':=K+Qj+(k:Int)*Qj) (K':=K+Qj+(k:Int)*Qj+Qj) (I2 _) (by simp only[Qj]; omega);refine I3 (Mf hM9.pw hSF (I2 _) (by simp only[Qj]; omega) (c:=(k:Int)) Qo tU) ?_;rintro e2 fM ⟨aM,Sm⟩;obtain⟨hS8,hO8⟩:=Dc hSF (I2 _) (c:=(k:Int)) Qo tU;have hM8:=hM9.call Sm nP;refine⟨aM,hM9.kept Sm nP,λSh AT0 AD6=>?_⟩;have AR7:=hM8.step AT0;have cX:VG W7 (k:Int)=if MX (Zc (QJ W7 (k:Int)) (k:Int)) (k:Int)=true then Rp (Zc (QJ W7 (k:Int)) (k:Int)) (k:Int) else Zc (QJ W7 (k:Int)) (k:Int):=rfl;have c2':(k:Int)<((QJ W7 (k:Int)).ID.length:Int):=by rw[hO8.c]; exact tU
  refine I3 (zn3 AR7.pw hS8.w (by simp only[Qj]; omega) (by simp only[Qj]; omega) (c:=(k:Int)) Qo c2') ?_;rintro e3 vO ⟨fS,dG⟩;obtain⟨B73,B72⟩:=Mw hS8.w (by simp only[Qj]; omega) (c:=(k:Int)) Qo c2' 8 Qd;have Aa3:=AR7.call dG AD6;have A99:=AR7.kept dG AD6;have BR3:Fr W (Zc (QJ W7 (k:Int)) (k:Int)):=(hfW.trans hO8.fr).trans B72.fr;have uE:SW (K+Qj+(k:Int)*Qj+Qj) (Zc (QJ W7 (k:Int)) (k:Int)):=B73;generalize Zc (QJ W7 (k:Int)) (k:Int)=W11 at Aa3 BR3 uE cX;obtain⟨r1,r2,r3⟩:=LJ BR3;have hp:=Aa3.wH;have c3':(k:Int)<(W11.ID.length:Int):=Qo;have sA:=uE.cu (k:Int) Qo c3';have fZ:=uE.a.t
  have hT:((gi W11.ID (k:Int)).cur != -1)=true->0<=(gi W11.ID (k:Int)).cur/\(gi W11.ID (k:Int)).cur<(W11.tasks.length:Int):=λg=>by
   have:(gi W11.ID (k:Int)).cur≠-1:=by simpa using g
   exact⟨Qo,Qo⟩
  have Bs0:=LK (c:=(k:Int)) hp Qo c3';have B16:=Lt (n:=Int.toNat (k:Int)*5) (hp.rd.c (k:Int) Qo c3');have SO:=GX (hp.rd.c (k:Int) Qo c3') (j:=1) rfl
  have B01:MX W11 (k:Int)=(((gi W11.ID (k:Int)).cur != -1) && !(((Q6 W11 (gi W11.ID (k:Int)).cur).J'==(k:Int))&&ZL W11 (gi W11.ID (k:Int)).cur)):=by
   unfold MX
   have e:decide ((gi W11.ID (k:Int)).cur>=0)=((gi W11.ID (k:Int)).cur != -1):=by
    by_cases hc:(gi W11.ID (k:Int)).cur = -1
    ·rw[hc]; rfl
    ·rw[It.2 hc,Ih Qo]
   rw[e,Bool.not_and];rfl
  refine⟨fS,A99,_,Bs0,B16,_,SO,_,λ_=>Bs0,λ_=>B16,_,λ_=>SO,_,λg=>Ea hp uE.a (hT g).1 (hT g).2 Qo c3' (λhs=>(uE.li (hT g).1 (hT g).2 hs).1),λg So wS AN9=>?_,λg=>?_⟩
  ·have BA0:=Aa3.step wS;refine I3 (YT BA0.pw (c:=(k:Int)) Qo c3') ?_;rintro e4 wA ⟨he4,fL⟩;refine⟨he4,BA0.kept fL AN9,⟨Qo,Qo⟩,λw6 Wt _=>Qp Qo ⟨Qo,?_⟩⟩;rw[AS1,cX,C' (by rw[B01]; exact g)];exact((BA0.call fL AN9).step Wt).close
  ·refine⟨⟨Qo,Qo⟩,λw6 Wt _=>Qp Qo ⟨Qo,?_⟩⟩;rw[AS1,cX,B' (by rw[B01,g]; decide)];exact(Aa3.step Wt).close
 ·have RC:=Ou RC;rw[AS4 Qo];exact λw9 kS=>⟨rfl,uD.nil kS⟩
end
section
variable {b:Vv}{m:MG}{w:Wo}
theorem zqc(h1:zs8 [] w m.lO b.locals)(h2:z1g [] w m.dO b.Rz)(l1:b.locals.length<=1048576)(l2:b.Rz.length<=1048576) :
  Cz OF #[.agg (ZF b m).toArray] w λe w'=>∃p,e=.returned (.agg (ZF b p).toArray)/\Zu w.heap.size w' b p/\Q0 [] w w':=by
 refine(CX b.IX b.Rx b.Sr m.lO b.locals.length m.lC m.dO b.Rz.length m.dC (R:=λv w'=>∃p,v=.agg (ZF b p).toArray/\Zu w.heap.size w' b p/\Q0 [] w w') ?_).mono λe w' ⟨v,he,p,hv,h3⟩=>⟨p,by rw[he,hv],h3⟩
 have hm9:=Zg;intro x hx x5 Sb wr tZ hs0;have s0:Sc w [x,x5] wr:=(((Sc.start w).add hx).add Sb).M' tZ;refine⟨_,_,_,_,KS Xi Kg b.locals.length Qo Qo wr,Qf (Z9 _ _) hs0,λI' RR dZ=>?_⟩;have hL0:Ob Um 1 Qa wr.heap.size [x,x5] _ (some ⟨wr.heap.size,0,none⟩) b.locals.length (List.replicate b.locals.length (0:Int)):=Ob.of (VD (enc:=Um) Xi.len Qa b.locals.length (0:Int) wr) hs0;have s1:=(s0.M' (Z9 wr (.cells ((List.replicate b.locals.length (0:Int)).flatMap Um).toArray Qa))).step RR;have hL1:=hL0.step RR;obtain⟨n1,w2,Ax9,hL2,aR⟩:=zsp Xi Kg z2k Qd (c2:=m.lC) hL1.own (h1.ext s1.ext) (m:=b.locals) Qs Qa #[false,false];rw[List.length_replicate] at Ax9;have s2:=s1.call aR λy hy=>IA s0.ext.size (hL1.own.lt y hy).1
 have Ck1:Ob Um 1 Qa wr.heap.size [x,x5] w2 (some ⟨wr.heap.size,0,none⟩) b.locals.length b.locals:=⟨hL2,hL1.nb⟩;refine⟨_,_,Ax9,Hs aR dZ hL1.nb,λO' R0 SR=>⟨_,_,_,_,KS J8 Lv b.Rz.length Qo Qo O',Qf (Z9 _ _) SR,λRj R3 gI=>?_⟩⟩;have s3:=((s2.step R0).M' (Z9 O' (.cells ((List.replicate b.Rz.length false).flatMap Kk).toArray Yd))).step R3;have hL3:=((Ck1.step R0).M' (Z9 O' (.cells ((List.replicate b.Rz.length false).flatMap Kk).toArray Yd))).step R3;have hD0:Ob Kk 1 Yd O'.heap.size [x,x5] _ (some ⟨O'.heap.size,0,none⟩) b.Rz.length (List.replicate b.Rz.length false):=Ob.of (VD (enc:=Kk) J8.len Yd b.Rz.length false O') SR;have hD1:=hD0.step R3;obtain⟨n2,w4,Ay0,hD2,Sm⟩:=zsp J8 Lv z3t Qd (c2:=m.dC) hD1.own (h2.ext s3.ext) (m:=b.Rz) Qs Qa #[false,false];rw[List.length_replicate] at Ay0;have hz2:w.heap.size<=O'.heap.size:=(s2.step R0).ext.size;have s4:=s3.call Sm λy hy=>IA hz2 (hD1.own.lt y hy).1
 have hL4:=hL3.call Sm (hL3.own.SU hD1.own Qd);have hD3:Ob Kk 1 Yd O'.heap.size [x,x5] w4 (some ⟨O'.heap.size,0,none⟩) b.Rz.length b.Rz:=⟨hD2,hD1.nb⟩;exact⟨_,_,Ay0,Hs Sm gI hD1.nb,λRn Si=>⟨⟨some ⟨wr.heap.size,0,none⟩,b.locals.length,some ⟨O'.heap.size,0,none⟩,b.Rz.length,none,0⟩,rfl,⟨(hL4.step Si).own.mono s0.ext.size,(hD3.step Si).own.mono hz2⟩,(s4.step Si).ext⟩⟩
end
theorem BZ{α:Type}[Inhabited α]{P:Program}{enc:α->List Va}{z:Nat}{ty t:TypeId}{bytes:Nat}{zero:α}(E:zrf P enc z ty bytes zero)(ht:P.underlying t=some (.slice ty))(Bh0:∀x,Zk (enc x)=true)(hz0:0<z){w:Wo}{o:OA}{c:Nat}{l:List α}(h:Rd enc z [] w o l)(hl:l.length<=1048576)(hby:bytes<=1000)(tr:TypeId)(cs:Array Bool) :
  ∃o' c' w',(builtin .append #[t,t] tr cs #[.slice none 0 0,.slice o l.length c]).run P w=.ok (.value (.slice o' l.length c')) w'/\Vi enc z ty w.heap.size w' o' c' l/\Q0 [] w w':=by
 have hO:Vi enc z ty w.heap.size w none 0 ([]:List α):=.inl ⟨rfl,rfl,rfl⟩
 have hbb:(2*(([]:List α).length+l.length))*bytes<=281474976710656:=by
  rw[List.length_nil,Nat.zero_add];exact IA (Nat.mul_le_mul (show 2*l.length<=2097152 by omega) hby) Qd
 obtain⟨o',c',w',h1,h2,h3,_⟩:=zso E ht hO (zxx E.len Bh0 ht h (c:=c) hz0) hbb (by rw[List.length_nil]; omega) tr (I7 _);rw[List.length_nil,Nat.zero_add] at h1;exact⟨o',c',w',zc4 h1,h2,h3⟩
theorem zoo(W:Q8)(ms:Nat->MG)(n k:Nat)(hk:k<n)(p:MG):(Oh W ms n).set k (gi W.IC (k:Int),p)=Oh W (λj=>if j=k then p else ms j) n:=by
 refine zp8 (by rw[E',Xe,Xe]) λj hj=>?_
 rw[E',Xe] at hj;have:=QO (Oh W ms n) (gi W.IC (k:Int),p) (i:=(k:Int)) Qo (by rw[Xe]; omega) (j:=(j:Int)) Qo;rw[Ig] at this;rw[this,Di Qo Qo,Di Qo Qo]
 by_cases e:k=j
 ·subst e; simp
 ·rw[B' Qo,B' (by simp; omega)]
theorem zqp(W:Q8){ms ms':Nat->MG}{n:Nat}(h:∀j,j<n->ms j=ms' j):Oh W ms n=Oh W ms' n:=by
 unfold Oh;exact List.map_congr_left λj hj=>by rw[h j (List.mem_range.1 hj)]
section
variable {W:Q8}{m:MW}{w:Wo}
theorem AQ(h:XF [] w W m)(ha:WA W) :
  Cz Ut #[.agg (Qb W m).toArray] w λe w'=>∃m',e=.returned (.agg (Qb W m').toArray)/\Zj 8 w.heap.size w' W m'/\Q0 [] w w':=by
 refine(NO _ _ _ _ _ _ _ _ _ _ (R:=λv w'=>∃m',v=.agg (Qb W m').toArray/\Zj 8 w.heap.size w' W m'/\Q0 [] w w') ?_).mono λe w' ⟨v,he,m',hv,h3⟩=>⟨m',by rw[he,hv],h3⟩
 have tL:=ha.c2;have fZ:=ha.t;have dD:=ha.gl;intro x hx x1 RR x2 R0 wr tZ hs0;have s0:Sc w [x,x1,x2] wr:=((((Sc.start w).add hx).add RR).add R0).M' tZ;obtain⟨cO,cC,w1,Ax9,hC1,aR⟩:=BZ D9 KU z2j Qd (c:=m.cC) (h.c.ext s0.ext) Qo Qd Zt #[false,false];refine⟨_,_,_,_,Ax9,Qf aR hs0,λI' CS7 dZ=>?_⟩;have s1:=(s0.M' aR).step CS7;have hC2:=(Ob.of hC1 hs0).step CS7;obtain⟨tO,tC,w2,Ay0,hT1,Sm⟩:=BZ MF Kf z3v Qd (c:=m.tC) (h.t.ext s1.ext) Qo Qd Z5 #[false,false];refine⟨_,_,_,_,Ay0,Qf Sm dZ,λO' CB5 SR=>?_⟩;have s2:=(s1.M' Sm).step CB5;have hC3:=(hC2.M' Sm).step CB5;have hT3:=(Ob.of hT1 dZ).step CB5
 have hrp:Rd Oz 14 [] O' m.gO (Oh W m.ms 8):=λi h0 hi=>by
  rw[Xe] at hi;rw[Di h0 hi];exact(h.g.ext s2.ext).cells i h0 Qo
 obtain⟨gO,gC,w3,Bh4,hG1,dG⟩:=BZ Yy M4 (λp=>z3u p.1 p.2) Qd (c:=m.gC) hrp (by rw[Xe]; decide) Qd QD #[false,false];rw[Xe] at Bh4;have Bh5:(builtin .append #[QD,QD] QD #[false,false] #[.slice none 0 0,.slice m.gO W.IC.length m.gC]).run Tryz.prog O'=.ok (.value (.slice gO W.IC.length gC)) w3:=by rw[dD]; exact Bh4
 have z1:w.heap.size<=I'.heap.size:=s1.ext.size;have z2:w.heap.size<=O'.heap.size:=s2.ext.size;have s3:=s2.M' dG;have hC4:=(hC3.M' dG).mono s0.ext.size;have hT4:=(hT3.M' dG).mono z1;have hG4:=Ob.of hG1 SR
 refine⟨_,_,_,_,Bh5,Qf dG SR,λvs w4=>∃(k:Nat) (ms:Nat->MG),vs=[I (k:Int)]/\k<=8/\Sc w [x,x1,x2] w4/\O'.heap.size<=w4.heap.size/\Ob DJ 5 ZB w.heap.size [x,x1,x2] w4 cO cC W.ID/\Ob Xq 9 QS w.heap.size [x,x1,x2] w4 tO tC W.tasks/\Ob Oz 14 QW O'.heap.size [x,x1,x2] w4 gO gC (Oh W ms 8)
   /\ (∀j,j<k->Mj O'.heap.size w4 (gi W.IC (j:Int),ms j)/\∀y∈Qv (ms j),y∉[x,x1,x2])/\(∀i j,i<k->j<k->i≠j->∀y∈Qv (ms i),y∉Qv (ms j))/\(∀j,k<=j->ms j=m.ms j),
  Zx W.IC.length 0,λw4 Si _=>⟨0,m.ms,rfl,Qd,s3.step Si,IA dG.size Si.size,hC4.step Si,hT4.step Si,hG4.step Si,λj hj=>by omega,λi j hi=>by omega,λj _=>rfl⟩,?_⟩
 clear s3 hC4 hT4 hG4 hG1 hrp Bh4 Bh5 hC3 hT3 hC2 hT1 Ax9 Ay0 hC1;rintro x9 RO gI ⟨k,ms,he,hk,s3,z3,hC,hT,hG,hE,hJ,hF⟩;simp only[I4,I5,true_and,and_true] at he;subst he;refine⟨λIT=>?_,λRC=>?_⟩
 ·have IT:=Ot IT;have hrb:G9 [x,x1,x2] RO m.gO W.IC m.ms:=(h.g.wide (cs:=[x,x1,x2]) λy hm=>.inr (s3.new y hm)).ext s3.ext.of_nil;have W8:=hrb.ix (i:=(k:Int)) Qo IT;obtain⟨bl1,bl2,bl3⟩:=GW ha (k:=(k:Int)) Qo Qo;refine⟨W8,_,_,_,_,_,_,_,_,_,_,_,_,_,_,_,_,_,_,_,_,hrb.cells (k:Int) Qo IT,λb3 wC Rn Si fT=>?_⟩;have s4:=s3.put Si wC;have hC4:=hC.put Si wC;have hT4:=hT.put Si wC;have hG4:=hG.put Si wC;have hr4:=h.g.ext s4.ext;have z4:O'.heap.size<=Rn.heap.size:=IA z3 Si.size;refine I3 (zqc (hr4.locals (k:Int) Qo IT) (hr4.Rz (k:Int) Qo IT) Qo Qo) ?_;rintro e aE ⟨p,he,hB,fL⟩;have s5:=s4.M' fL;have hC5:=hC4.M' fL;have hT5:=hT4.M' fL;have hG5:=hG4.M' fL;have tX:gi (Oh W ms 8) (k:Int)=(gi W.IC (k:Int),ms k):=by rw[Di Qo Qo,Ig]
  have hmk:ms k=m.ms k:=hF k (I7 _);have hBn:∀y∈YC p,Rn.heap.size<=y:=λy hm=>(hB.lt y hm).1
  have e1:=hG5.own.R5 Yy.len (i:=(k:Int)) Qo (by rw[Xe]; omega) (j:=8) (vs:=ZF (gi W.IC (k:Int)).IS p) (x:=(gi W.IC (k:Int),KR (ms k) p)) (by rw[tX]; rfl) (by simp[ZF]);have CN2:=hG5.own.ix (i:=(k:Int)) Qo (by rw[Xe]; omega);have CN5:=hG5.own.wr Yy.len hG5.nb (i:=(k:Int)) Qo (by rw[Xe]; omega) (j:=8) (n:=5) Qd;rw[Xe] at CN2;have B00:Ix gO W.IC.length (k:Int):=by rw[dD]; exact CN2
  simp only[Ig] at e1 CN5;rw[zoo W ms 8 k Qo] at e1;refine⟨_,_,_,_,_,_,_,_,_,he,Qf fL fT,rfl,B00,CN5,λRE Sb hZ=>?_⟩;have hX5:=hG5.own.sV (k*14+8) (ZF (gi W.IC (k:Int)).IS p);have s6:=(s5.call hX5 λy hy=>IA z2 (hG5.own.lt y hy).1).step Sb;have hC6:=(hC5.call hX5 (hC5.own.SU hG5.own Qd)).step Sb;have hT6:=(hT5.call hX5 (hT5.own.SU hG5.own Qd)).step Sb;have hG6:Ob Oz 14 QW O'.heap.size ([x,x1,x2]++[b3]) RE gO gC (Oh W (λj=>if j=k then KR (ms k) p else ms j) 8):=(⟨e1,hG5.nb⟩:Ob Oz 14 QW O'.heap.size ([x,x1,x2]++[b3]) _ gO gC _).step Sb
  have Bq9:∀y∈YC p,y∉[x,x1,x2]++[b3]:=λy hm iP=>by
   have:=hBn y hm;have:=fT y iP;omega
  have hBg:∀y∈YC p,y∉QM gO:=λy hm iP=>by
   have:=hBn y hm;have:=(hG4.own.lt y iP).2;omega
  have hB6:=(hB.ext hX5 hBg).ext Sb Bq9;have z5:Rn.heap.size<=RE.heap.size:=IA (IA fL.size hX5.size) Sb.size;obtain⟨sO,sC,w6,CR2,hS6,hy6⟩:=BZ Mu M5 z2l Qd (c:=(m.ms k).sC) ((h.g.ext s6.ext).IE (k:Int) Qo IT) Qo Qd Zb #[true,false];have s7:=s6.M' hy6;have hC7:=hC6.M' hy6;have hT7:=hT6.M' hy6;have hG7:=hG6.M' hy6;have hB7:=hB6.Wu hy6
  have Cn1:gi (Oh W (λj=>if j=k then KR (ms k) p else ms j) 8) (k:Int)=(gi W.IC (k:Int),KR (ms k) p):=by
   rw[Di Qo Qo,Ig,C' rfl]
  have e2:=hG7.own.R5 Yy.len (i:=(k:Int)) Qo (by rw[Xe]; omega) (j:=13) (vs:=[.slice sO (gi W.IC (k:Int)).IE.length sC]) (x:=(gi W.IC (k:Int),⟨p.lO,p.lC,p.dO,p.dC,sO,sC⟩)) (by rw[Cn1]; rfl) Qs;have B02:=hG7.own.wr Yy.len hG7.nb (i:=(k:Int)) Qo (by rw[Xe]; omega) (j:=13) (n:=1) Qd;simp only[Ig] at e2 B02;rw[zoo _ _ 8 k Qo] at e2
  have Cp3:Oh W (λj=>if j=k then (⟨p.lO,p.lC,p.dO,p.dC,sO,sC⟩:MG) else if j=k then KR (ms k) p else ms j) 8=Oh W (λj=>if j=k then (⟨p.lO,p.lC,p.dO,p.dC,sO,sC⟩:MG) else ms j) 8:=zqp W λj _=>by
   by_cases e:j=k
   ·rw[C' e,C' e]
   ·rw[B' e,B' e,B' e]
  rw[Cp3] at e2;have hX7:=hG7.own.sV (k*14+13) [.slice sO (gi W.IC (k:Int)).IE.length sC];refine⟨_,_,_,_,CR2,Qf hy6 hZ,rfl,B00,B02,⟨Qo,Qo⟩,λw9 kS _=>⟨⟨k+1,λj=>if j=k then (⟨p.lO,p.lC,p.dO,p.dC,sO,sC⟩:MG) else ms j,rfl,Qo,?_,?_,?_,?_,?_,?_,?_,?_⟩,?_⟩⟩
  ·exact((s7.call hX7 λy hy=>IA z2 (hG7.own.lt y hy).1).step kS).sub Qs
  ·exact IA (IA (IA (IA z4 z5) hy6.size) hX7.size) kS.size
  ·exact((hC7.call hX7 (hC7.own.SU hG7.own Qd)).step kS).sub Qs
  ·exact((hT7.call hX7 (hT7.own.SU hG7.own Qd)).step kS).sub Qs
  ·exact((⟨e2,hG7.nb⟩:Ob Oz 14 QW O'.heap.size ([x,x1,x2]++[b3]) _ gO gC _).step kS).sub Qs
  ·intro j hj;have hSn:∀y∈QM sO,RE.heap.size<=y:=λy hm=>(hS6.lt y hm).1
   by_cases e:j=k
   ·subst e;simp only[if_true]
    have CL0:∀y∈QM sO,y∉[x,x1,x2]++[b3]:=λy hm iP=>by
     have:=hSn y hm;have:=hZ y iP;omega
    have hO9:Mj O'.heap.size w9 (gi W.IC (j:Int),⟨p.lO,p.lC,p.dO,p.dC,sO,sC⟩):=by
     have hB9:=((hB7.ext hX7 hBg).ext kS Bq9).mono z4;exact⟨hB9.loc,hB9.Rz,(((hS6.ext hX7 (hS6.SU hG7.own Qd)).ext kS CL0)).mono (IA z4 z5)⟩
    refine⟨hO9,λy hm iP=>?_⟩;have B96:y∈[x,x1,x2]++[b3]:=Ia _ iP;simp only[Qv,Im] at hm;rcases hm with (hm | hm) | hm
    ·exact Bq9 y (Ia _ hm) B96
    ·exact Bq9 y (Iw _ hm) B96
    ·exact CL0 y hm B96
   ·dsimp only
    rw[B' e];obtain⟨hm1,hm2⟩:=hE j Qo;refine⟨?_,hm2⟩
    have CP7:∀y∈Qv (ms j),y∉[x,x1,x2]++[b3]:=λy hm iP=>by
     rcases Im.1 iP with h1 | h1
     ·exact hm2 y hm h1
     ·have:y=b3:=by simpa using h1
      have:=(hm1.lt y hm).2;omega
    have hgg:∀y∈Qv (ms j),y∉QM gO:=JQ (p:=(gi W.IC (j:Int),ms j)) hG.own hm1;exact((((((hm1.ext Si hm2).Wu fL).ext hX5 hgg).ext Sb CP7).Wu hy6).ext hX7 hgg).ext kS CP7
  ·intro i j hi hj hij y hm iP
   dsimp only at hm iP
   have Ar0:∀y∈Qv (⟨p.lO,p.lC,p.dO,p.dC,sO,sC⟩:MG),Rn.heap.size<=y:=λy hm=>by
    simp only[Qv,Im] at hm;rcases hm with (hm | hm) | hm
    ·exact hBn y (Ia _ hm)
    ·exact hBn y (Iw _ hm)
    ·exact IA z5 (hS6.lt y hm).1
   have hold:∀j,j<k->∀y∈Qv (ms j),y<Rn.heap.size:=λj hj y hm=>Nat.lt_of_lt_of_le ((hE j hj).1.lt y hm).2 Si.size
   by_cases e1:i=k
   ·rw[C' e1] at hm
    by_cases e2:j=k
    ·omega
    ·rw[B' e2] at iP;have:=Ar0 y hm;have:=hold j Qo y iP;omega
   ·rw[B' e1] at hm
    by_cases e2:j=k
    ·rw[C' e2] at iP;have:=Ar0 y iP;have:=hold i Qo y hm;omega
    ·rw[B' e2] at iP;exact hJ i j Qo Qo hij y hm iP
  ·intro j hj
   dsimp only
   rw[B' Qo];exact hF j Qo
  ·simp only[Zx,Xm,ZP,Ie]; omega
 ·have RC:=Ou RC;have hk8:k=8:=Qo;subst hk8;refine λw9 kS=>⟨⟨cO,cC,tO,tC,gO,gC,ms⟩,rfl,⟨(hC.step kS).own,(hT.step kS).own,?_,dD⟩,(s3.step kS).ext⟩
  have e:zsk W ⟨cO,cC,tO,tC,gO,gC,ms⟩=Oh W ms 8:=by unfold zsk Oh; rw[dD]
  rw[e]
  have hgi:∀i:Int,0<=i->i<((Oh W ms 8).length:Int)->i.toNat<8/\gi (Oh W ms 8) i=(gi W.IC ((i.toNat:Nat):Int),ms i.toNat):=λi a b=>by
   rw[Xe] at b;refine⟨Qo,?_⟩;rw[Di a b,show ((i.toNat:Nat):Int)=i by omega]
  refine⟨(hG.step kS).own.mono z2,λi a b=>?_,λi j a b a' b' hij=>?_⟩
  ·obtain⟨c1,c2⟩:=hgi i a b;rw[c2];exact((hE _ c1).1.ext kS (hE _ c1).2).mono z2
  ·obtain⟨c1,c2⟩:=hgi i a b;obtain⟨d1,d2⟩:=hgi j a' b';rw[c2,d2];exact hJ _ _ c1 d1 Qo
end
end Go.Proofs.YtnclplgaicdapaaGreatDoor
