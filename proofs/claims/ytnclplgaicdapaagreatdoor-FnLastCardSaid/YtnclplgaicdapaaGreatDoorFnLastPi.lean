/- Part 9 of what the law FnLast needs. -/
import Derived.Test.YtnclplgaicdapaaGreatDoorFnLastPh
set_option linter.unusedVariables false
set_option linter.unusedSimpArgs false
set_option maxRecDepth 100000
set_option maxHeartbeats 8000000
namespace Go.Proofs.YtnclplgaicdapaaGreatDoor
open Go.RowKit
theorem zvi{F K:Int}{W:Q7}(h:SF F K W)(hk:F+Qi<=K){k c d:Int}(hu:Q6 W.ID k=true)(hd:dep 3 W.ID k=d)(d1:1<=d)(c0:0<=c)(c1:c<(W.IE.length:Int)):SF F K (Rz W k c (ZY W k c)):=by
 have hz:k≠0:=λe=>by subst e; rw[Y8] at hd; omega
 have hp:=h.w.a.up hu hz;have s1:=h.w.s k c hu c0 c1;have s2:=h.w.s _ c hp c0 c1;have f1:=h.f k c hu c0 c1;have f2:=h.f _ c hp c0 c1;have lc:=ZU ((Qc W k c).v-(Qc W (gi W.ID k).parent c).floor) (Qc W k c).w;have lm:=ZQ (Qc W k c).w;refine h.Rz hu c0 c1 s1.1 f1 (by show (Qc W k c).floor<=K; omega) ?_ ?_ s1.2.2.2.2.1 s1.2.2.2.2.2
 ·simp only[ZY]; split <;> omega
 ·simp only[ZY]; simp only[Qi] at hk; split <;> omega
structure Uj (W W':Q7):Prop where
 n:W'.now=W.now
 c:W'.IE=W.IE
 t:W'.tasks=W.tasks
 g:Z6 W.ID W'.ID
 b:∀i:Int,0<=i->(gi W'.ID i).IN=(gi W.ID i).IN
 l:∀i:Int,0<=i->(gi W'.ID i).IF.length=(gi W.ID i).IF.length
theorem Uj.refl(W:Q7):Uj W W:=⟨rfl,rfl,rfl,Z6.refl _,λ_ _=>rfl,λ_ _=>rfl⟩
theorem Uj.trans{A B C:Q7}(h:Uj A B)(k:Uj B C):Uj A C:=⟨k.n.trans h.n,k.c.trans h.c,k.t.trans h.t,h.g.trans k.g,λi hi=>(k.b i hi).trans (h.b i hi),λi hi=>(k.l i hi).trans (h.l i hi)⟩
theorem VS{W:Q7}{g c:Int}{s:KL}(h0:0<=g)(h1:g<(W.ID.length:Int)):Uj W (Rz W g c s):=⟨rfl,rfl,rfl,XW h0 h1,λ_ hi=>zg0 h0 h1 hi,λ_ hi=>Ny h0 h1 hi⟩
theorem Fp{F K:Int}{W:Q7}(h:SF F K W)(hk:F+Qi<=K){c d:Int}(d1:1<=d)(c0:0<=c)(c1:c<(W.IE.length:Int)):∀k:Nat,k<=8->SF F K (Zn W c d k)/\Uj W (Zn W c d k)
 | 0,_=>⟨h,Uj.refl _⟩
 | k+1,hk8=>by
  obtain⟨ih,io⟩:=Fp h hk (d:=d) d1 c0 c1 k Qo;have hl:=ih.w.a.gl;simp only[Zn];split
  ·rename_i hc;have hu:Q6 (Zn W c d k).ID (k:Int)=true:=Q5.2 ⟨Qo,Qo,hc.1⟩;exact⟨zvi ih hk hu hc.2 d1 c0 (by rw[io.c]; exact c1),io.trans (VS Qo Qo)⟩
  ·exact⟨ih,io⟩
theorem Hi{F K:Int}{W:Q7}(h:SF F K W)(hk:F+Qi<=K){c:Int}(c0:0<=c)(c1:c<(W.IE.length:Int)):∀j:Nat,j<=3->SF F K (YV W c j)/\Uj W (YV W c j)
 | 0,_=>⟨h,Uj.refl _⟩
 | j+1,hj=>by
  obtain⟨a1,b1⟩:=Hi h hk c0 c1 j Qo;obtain⟨a2,b2⟩:=Fp a1 hk (c:=c) (d:=3-(j:Int)) Qo c0 (by rw[b1.c]; exact c1) 8 Qo;exact⟨a2,b1.trans b2⟩
theorem Hh{F K:Int}{W:Q7}(h:SF F K W)(hk:F+Qi<=K){c:Int}(c0:0<=c)(c1:c<(W.IE.length:Int)):SF F K (QG W c)/\Uj W (QG W c):=Hi h hk c0 c1 3 (I8 _)
def Yi(W:Q7):Nat->Q7
 | 0=>W
 | c+1=>QG (Yi W c) (c:Int)
theorem Ok{F K:Int}{W:Q7}(h:SF F K W)(hk:F+Qi<=K):∀c:Nat,c<=W.IE.length->SF F K (Yi W c)/\Uj W (Yi W c)
 | 0,_=>⟨h,Uj.refl _⟩
 | c+1,hc=>by
  obtain⟨a,b⟩:=Ok h hk c Qo;obtain⟨a2,b2⟩:=Hh a hk (c:=(c:Int)) Qo (by rw[b.c]; omega);exact⟨a2,b.trans b2⟩
def ZX(b:Js)(c:Int):Js:={ b with RJ:=b.RJ+gi b.locals c,locals:=b.locals.set c.toNat 0,Ry:=if b.RJ+gi b.locals c>0 then List.replicate b.Ry.length false else b.Ry }
theorem GX(l:List Int)(c:Int)(x:Int)(c0:0<=c)(c1:c<(l.length:Int)):∀k:Nat,Vc (l.set c.toNat x) k=Vc l k+if c<(k:Int) then x-gi l c else 0
 | 0=>by simp only[Vc]; rw[C' Qo]; omega
 | k+1=>by
  simp only[Vc];rw[GX l c x c0 c1 k,QI _ _ c0 c1 Qo]
  by_cases e:c=(k:Int)
  ·subst e;rw[C' Qo,E' rfl,E' Qo]; omega
  ·rw[C' e]
   by_cases h:c<(k:Int)
   ·rw[E' h,E' Qo]; omega
   ·rw[C' h,C' Qo]; omega
theorem zki{l:List Int}(h:∀c:Int,0<=c->c<(l.length:Int)->0<=gi l c){c:Int}(c0:0<=c):∀k:Nat,k<=l.length->0<=Vc l k/\(c<(k:Int)->gi l c<=Vc l k)
 | 0,_=>by simp only[Vc]; exact⟨Qo,λh=>by omega⟩
 | k+1,hk=>by
  have ih:=zki h c0 k Qo;have:=h (k:Int) Qo Qo;simp only[Vc];refine⟨Qo,λhc=>?_⟩
  by_cases e:c=(k:Int)
  ·subst e; omega
  ·have:=ih.2 Qo; omega
theorem Pk{α:Type}[Inhabited α](n:Nat)(x:α){i:Int}(h0:0<=i)(h1:i<(n:Int)):gi (List.replicate n x) i=x:=by
 obtain⟨k,rfl⟩:=Int.eq_ofNat_of_zero_le h0;rw[U8 (by simp; omega)]; simp
theorem zlm{b:Js}(h:UP b){c:Int}(c0:0<=c)(c1:c<(b.locals.length:Int))(hp:0<gi b.locals c):UP (ZX b c)/\(ZX b c).locals.length=b.locals.length/\(ZX b c).IY=b.IY:=by
 have hs:=GX b.locals c 0 c0 c1 b.locals.length;rw[E' c1] at hs;have hn:=zki (λd d0 d1=>(h.each d d0 d1).1) c0 b.locals.length (I8 _);have hn2:=hn.2 c1;have p1:=h.p1;have s1:=h.s1;have su:=h.sum;have Bx1:b.RJ+gi b.locals c>0:=Qo;refine⟨⟨h.q1,h.q2,?_,?_,?_,?_,?_,h.s1,h.s2,λd d0 d1=>?_,?_⟩,by simp[ZX],rfl⟩
 ·simp only[ZX,H']; exact h.l1
 ·simp only[ZX,H']; exact h.l2
 ·simp only[ZX]; rw[E' Bx1]; simp[h.dl]
 ·simp only[ZX]; omega
 ·simp only[ZX]; omega
 ·simp only[ZX,H'] at d1 ⊢;have hd:=h.dl;have he:=h.each d d0 d1;rw[E' Bx1,Pk _ _ d0 Qo,QI _ _ c0 c1 d0];have:=h.q1;refine⟨?_,?_,λh=>by cases h⟩
  ·split <;> omega
  ·split <;> omega
 ·simp only[ZX,H'];rw[hs]; omega
def ZR(W:Q7)(k:Int):Nat->Q7
 | 0=>W
 | c+1=>if gi (gi (ZR W k c).ID k).IN.locals (c:Int)>0/\QV (ZR W k c) k (c:Int)=false then RP (ZR W k c) k (ZX (gi (ZR W k c).ID k).IN (c:Int)) else ZR W k c
def Ye(W:Q7):Nat->Q7
 | 0=>W
 | k+1=>if (gi (Ye W k).ID (k:Int)).used=true/\(gi (Ye W k).ID (k:Int)).IN.IY≠0 then ZR (Ye W k) (k:Int) (Ye W k).IE.length else Ye W k
def Lg(W:Q7):Q7:=Ye W 8
structure VZ (W W':Q7):Prop where
 n:W'.now=W.now
 c:W'.IE=W.IE
 t:W'.tasks=W.tasks
 g:Z6 W.ID W'.ID
 s:∀i:Int,0<=i->(gi W'.ID i).IF=(gi W.ID i).IF
theorem VZ.refl(W:Q7):VZ W W:=⟨rfl,rfl,rfl,Z6.refl _,λ_ _=>rfl⟩
theorem VZ.trans{A B C:Q7}(h:VZ A B)(k:VZ B C):VZ A C:=⟨k.n.trans h.n,k.c.trans h.c,k.t.trans h.t,h.g.trans k.g,λi hi=>(k.s i hi).trans (h.s i hi)⟩
theorem Ng{W:Q7}{g:Int}{b:Js}(h0:0<=g)(h1:g<(W.ID.length:Int)):VZ W (RP W g b):=⟨rfl,rfl,rfl,JV h0 h1 rfl rfl rfl,λi hi=>by
 unfold RP;rw[Yv h0 h1 hi];split
 ·rename_i e; subst e; rfl
 ·rfl⟩
theorem SF.BI1{F K:Int}{W W':Q7}(h:SF F K W)(ho:VZ W W')(ha:WA W'):SF F K W':=by
 have e:∀k c:Int,Q6 W'.ID k=true->Qc W' k c=Qc W k c:=λk c hu=>by unfold Qc; rw[ho.s k (Q5.1 hu).1]
 have et:∀t:Int,Q8 W' t=Q8 W t:=λt=>by unfold Q8; rw[ho.t]
 refine⟨⟨ha,λt a b n=>?_,λt a b=>by rw[et]; exact h.w.tv t a b,λk c u a b=>?_,λc a b=>?_⟩,λk c u a b=>?_⟩
 ·rw[et] at n ⊢; rw[ho.g.eO,ho.c]; exact h.w.t t a b n
 ·rw[e k c u]; rw[ho.g.eO] at u; rw[ho.c] at b; exact h.w.s k c u a b
 ·rw[ho.c] at b ⊢; exact h.w.cu c a b
 ·rw[e k c u]; rw[ho.g.eO] at u; rw[ho.c] at b; exact h.f k c u a b
theorem WA.RP{W:Q7}(ha:WA W){g:Int}{b:Js}(hu:Q6 W.ID g=true)(hq:(gi W.ID g).IN.IY≠0)(hb:UP b)(hl:b.locals.length=W.IE.length)(he:b.IY=(gi W.ID g).IN.IY):WA (RP W g b):=by
 obtain⟨u0,u1,hg⟩:=ha.u hu;have hb0:=hg.IN hq;refine ha.set u0 u1 rfl rfl rfl (λhn=>?_) λ_=>⟨hg.w1,hg.w2,hg.m,hg.m0,hg.s,hg.len,λh=>⟨(hg.root h).1,(hg.root h).2.1,by show b.IY=0; rw[he]; exact(hg.root h).2.2⟩,λh=>Is (he.symm.trans h) hq,λ_=>⟨hb,hl,hb0.2.2⟩⟩
 have:(gi W.ID g).used=false:=hn;rw[(Q5.1 hu).2.2] at this;cases this
theorem Gs{F K:Int}{W:Q7}(h:SF F K W){k:Int}(hu:Q6 W.ID k=true)(hq:(gi W.ID k).IN.IY≠0):∀c:Nat,c<=W.IE.length->SF F K (ZR W k c)/\VZ W (ZR W k c)/\(gi (ZR W k c).ID k).IN.IY≠0
 | 0,_=>⟨h,VZ.refl _,hq⟩
 | c+1,hc=>by
  obtain⟨a,b,q⟩:=Gs h hu hq c Qo;simp only[ZR];split
  ·rename_i AS2;have hu':Q6 (ZR W k c).ID k=true:=by rw[b.g.eO]; exact hu
   obtain⟨u0,u1,hg⟩:=a.w.a.u hu';have hb:=hg.IN q;have hl:=a.w.a.gl;have sK:(ZR W k c).IE.length=W.IE.length:=by rw[b.c]
   obtain⟨g1,g2,g3⟩:=zlm hb.1 (c:=(c:Int)) Qo Qo AS2.1;have ho:=Ng (W:=ZR W k c) (b:=ZX (gi (ZR W k c).ID k).IN (c:Int)) u0 Qo;refine⟨a.BI1 ho (a.w.a.RP hu' q g1 (by rw[g2,hb.2.1]) g3),b.trans ho,?_⟩;show (gi (Re _ k _).ID k).IN.IY≠0;rw[Yv u0 Qo u0,E' rfl];exact λe=>q (by rw[<-g3]; exact e)
  ·exact⟨a,b,q⟩
theorem Tp{F K:Int}{W:Q7}(h:SF F K W):∀k:Nat,k<=8->SF F K (Ye W k)/\VZ W (Ye W k)
 | 0,_=>⟨h,VZ.refl _⟩
 | k+1,hk=>by
  obtain⟨a,b⟩:=Tp h k Qo;simp only[Ye];split
  ·rename_i hc;have hl:=a.w.a.gl;obtain⟨a2,b2,_⟩:=Gs a (k:=(k:Int)) (Q5.2 ⟨Qo,Qo,hc.1⟩) hc.2 _ (I8 _);exact⟨a2,b.trans b2⟩
  ·exact⟨a,b⟩
def DI(W:Q7)(k c:Int):KL:={ Qc W k c with floor:=Z3 W k c 20 }
def QS(W:Q7)(c:Int):Nat->Q7
 | 0=>W
 | k+1=>if (gi (QS W c k).ID (k:Int)).used=true/\Zw (QS W c k) (k:Int) c 20=true/\Z3 (QS W c k) (k:Int) c 20>(Qc (QS W c k) (k:Int) c).floor then Rz (QS W c k) (k:Int) c (DI (QS W c k) (k:Int) c) else QS W c k
def Za(W:Q7)(c:Int):Q7:=QS W c 8
theorem za5{K:Int}{W:Q7}(h:SW K W){k c:Int}(c0:0<=c)(c1:c<(W.IE.length:Int))(hK:0<=K):0<=Z3 W k c 20/\Z3 W k c 20<=K:=by
 unfold Z3;split
 ·omega
 ·rename_i hn;have hl:=h.a.gl;rcases Zt (Zp W k c) (Zk W c) 20 with h1 | h1
  ·omega
  ·obtain⟨j,hj⟩:∃j:Nat,QY (Zp W k c) (Zk W c) 20=(j:Int):=⟨(QY (Zp W k c) (Zk W c) 20).toNat,Qo⟩;rw[hj,Ih] at h1 ⊢;have hp:=h1.2.2.1;unfold Zk
   by_cases h12:j<12
   ·rw[E' h12];exact h.tv (j:Int) Qo Qo
   ·rw[C' h12];unfold Zp at hp;rw[C' h12] at hp;unfold J8 at hp;simp only[A'] at hp;have hu:Q6 W.ID ((j-12:Nat):Int)=true:=Q5.2 ⟨Qo,Qo,hp.1.2.1⟩;have:=h.s _ c hu c0 c1;omega
theorem PH{K:Int}{W:Q7}(h:SW K W)(hK:0<=K){c:Int}(c0:0<=c)(c1:c<(W.IE.length:Int)):∀k:Nat,k<=8->SW K (QS W c k)/\Uj W (QS W c k)
 | 0,_=>⟨h,Uj.refl _⟩
 | k+1,hk=>by
  obtain⟨a,b⟩:=PH h hK c0 c1 k Qo;have hl:=a.a.gl;have tA:c<((QS W c k).IE.length:Int):=by rw[b.c]; exact c1
  simp only[QS];split
  ·rename_i hc;have hu:Q6 (QS W c k).ID (k:Int)=true:=Q5.2 ⟨Qo,Qo,hc.1⟩;have s1:=a.s _ c hu c0 tA;have br:=za5 a (k:=(k:Int)) c0 tA hK;exact⟨(a.sf.Rz (s:=DI (QS W c k) (k:Int) c) hu c0 tA br.1 br.2 br.2 s1.2.2.1 s1.2.2.2.1 s1.2.2.2.2.1 s1.2.2.2.2.2).w,b.trans (VS Qo Qo)⟩
  ·exact⟨a,b⟩
def J1(x:Px):Px:={ x with cur := -1,aA:=0 }
def RD(W:Q7)(c:Int):Q7:=RX W c (J1 (gi W.IE c))
theorem zri{cs nL:List Px}:∀k:Nat,(∀j:Nat,j<k->(gi nL (j:Int)).up=(gi cs (j:Int)).up)->Vd nL k=Vd cs k
 | 0,_=>rfl
 | k+1,h=>by simp only[Vd]; rw[zri k λj hj=>h j Qo,h k Qo]
theorem zkl{cs nL:List Px}(hl:nL.length=cs.length)(h:∀j:Nat,j<cs.length->(gi nL (j:Int)).up=(gi cs (j:Int)).up):J4 nL=J4 cs:=by
 unfold J4;rw[hl];exact zri _ h
theorem WA.cp{W:Q7}(ha:WA W){cs:List Px}(hl:cs.length=W.IE.length)(hu:J4 cs≠0):WA { W with IE:=cs }:=
 ⟨ha.n1,ha.n2,by show 1<=cs.length; rw[hl]; exact ha.c1,by show cs.length<=4; rw[hl]; exact ha.c2,ha.t,ha.tree,hu,λk a b=>by
  have:=ha.grp k a b;refine⟨this.1,λhu=>?_⟩;have hg:=this.2 hu
  exact⟨hg.w1,hg.w2,hg.m,hg.m0,hg.s,by show (gi W.ID k).IF.length=cs.length; rw[hl]; exact hg.len,hg.root,hg.none,λq=>by
   have:=hg.IN q;exact⟨this.1,by show (gi W.ID k).IN.locals.length=cs.length; rw[hl]; exact this.2.1,this.2.2⟩⟩⟩
theorem SW.RD{K:Int}{W:Q7}(h:SW K W){c:Int}(c0:0<=c)(c1:c<(W.IE.length:Int)):SW K (RD W c):=by
 have hl:(W.IE.set c.toNat (J1 (gi W.IE c))).length=W.IE.length:=H';have hg:∀d:Int,0<=d->gi (W.IE.set c.toNat (J1 (gi W.IE c))) d=if c=d then J1 (gi W.IE c) else gi W.IE d:=λd d0=>QI _ _ c0 c1 d0
 refine⟨h.a.cp hl ?_,λt a b n=>?_,h.tv,λk d u a b=>?_,λd a b=>?_⟩
 ·rw[zkl hl λj hj=>?_]
  ·exact h.a.wT
  ·rw[hg _ Qo];split
   ·rename_i e; rw[e]; rfl
   ·rfl
 ·show _/\_/\_<(((W.IE.set c.toNat (J1 (gi W.IE c))).length:Nat):Int);rw[hl];exact h.t t a b n
 ·have b:d<(((W.IE.set c.toNat (J1 (gi W.IE c))).length:Nat):Int):=b;rw[hl] at b;exact h.s k d u a b
 ·have b:d<(((W.IE.set c.toNat (J1 (gi W.IE c))).length:Nat):Int):=b;rw[hl] at b;show _<=(gi (W.IE.set c.toNat (J1 (gi W.IE c))) d).cur/\_;rw[show (gi (YtnclplgaicdapaaGreatDoor.RD W c).IE d).cur=(gi (W.IE.set c.toNat (J1 (gi W.IE c))) d).cur from rfl,hg _ a];split
  ·exact⟨I3 _,show (-1:Int)<12 by decide⟩
  ·exact h.cu d a b
def M7(W:Q7)(c:Int):Bool:=decide ((gi W.IE c).cur>=0)&&(((Q8 W (gi W.IE c).cur).M' != c) || !ZF W (gi W.IE c).cur)
def Vb(W:Q7)(c:Int):Q7:=if M7 (Za (QG W c) c) c=true then RD (Za (QG W c) c) c else Za (QG W c) c
def XS(W:Q7):Nat->Q7
 | 0=>W
 | c+1=>Vb (XS W c) (c:Int)
def Qg(W:Q7):Q7:=XS (Lg (Yi W W.IE.length)) W.IE.length
structure Fr (W W':Q7):Prop where
 n:W'.now=W.now
 c:W'.IE.length=W.IE.length
 t:W'.tasks=W.tasks
 g:Z6 W.ID W'.ID
theorem Fr.refl(W:Q7):Fr W W:=⟨rfl,rfl,rfl,Z6.refl _⟩
theorem Fr.trans{A B C:Q7}(h:Fr A B)(k:Fr B C):Fr A C:=⟨k.n.trans h.n,k.c.trans h.c,k.t.trans h.t,h.g.trans k.g⟩
theorem Uj.fr{W W':Q7}(h:Uj W W'):Fr W W':=⟨h.n,by rw[h.c],h.t,h.g⟩
theorem VZ.fr{W W':Q7}(h:VZ W W'):Fr W W':=⟨h.n,by rw[h.c],h.t,h.g⟩
theorem zbz(W:Q7)(c:Int):Fr W (RD W c):=⟨rfl,H',rfl,Z6.refl _⟩
theorem zwr{K:Int}{W:Q7}(h:SW K W)(hK:0<=K){c:Int}(c0:0<=c)(c1:c<(W.IE.length:Int)):SW (K+Qi) (Vb W c)/\Fr W (Vb W c):=by
 obtain⟨a1,b1⟩:=Hh (F:=K) (K:=K+Qi) (h.sf.mono (I3 _) (by simp only[Qi]; omega)) (I3 _) c0 c1;obtain⟨a2,b2⟩:=PH a1.w (by simp only[Qi]; omega) c0 (c:=c) (by rw[b1.c]; exact c1) 8 Qo;have hf:=b1.fr.trans b2.fr;unfold Vb;split
 ·exact⟨SW.RD a2 c0 (by show c<((QS (QG W c) c 8).IE.length:Int); rw[hf.c]; exact c1),hf.trans (zbz _ _)⟩
 ·exact⟨a2,hf⟩
theorem KE{K:Int}{W:Q7}(h:SW K W)(hK:0<=K):∀c:Nat,c<=W.IE.length->SW (K+(c:Int)*Qi) (XS W c)/\Fr W (XS W c)
 | 0,_=>⟨h.mono Qs,Fr.refl _⟩
 | c+1,hc=>by
  obtain⟨a,b⟩:=KE h hK c Qo;obtain⟨a2,b2⟩:=zwr a (by simp only[Qi]; omega) (c:=(c:Int)) Qo (by rw[b.c]; omega);exact⟨a2.mono (by simp only[Qi]; omega),b.trans b2⟩
abbrev UZ:Int:=5*Qi
theorem Ov{K:Int}{W:Q7}(h:SW K W)(hK:0<=K):SW (K+UZ) (Qg W)/\Fr W (Qg W):=by
 obtain⟨a1,b1⟩:=Ok (F:=K) (K:=K+Qi) (h.sf.mono (I3 _) (by simp only[Qi]; omega)) (I3 _) W.IE.length (I8 _);obtain⟨a2,b2⟩:=Tp a1 8 Qo;have hf:=b1.fr.trans b2.fr;obtain⟨a3,b3⟩:=KE a2.w (by simp only[Qi]; omega) W.IE.length (by show W.IE.length<=(Ye (Yi W W.IE.length) 8).IE.length; rw[hf.c]; exact I8 _);have:=h.a.c2;exact⟨a3.mono (by simp only[Qi,UZ]; omega),hf.trans b3⟩
abbrev Qn:Int:=50000000000000000
structure Kg (W:Q7):Prop where
 n:W.now<=Qn
 c:∀c:Int,0<=c->c<(W.IE.length:Int)->(gi W.IE c).busy<=Qn/\(gi W.IE c).idle<=Qn
 t:∀t:Int,0<=t->t<(W.tasks.length:Int)->(gi W.tasks t).v<=Qn/\(gi W.tasks t).sum<=Qn/\(gi W.tasks t).used<=Qn
 g:∀k:Int,0<=k->k<(W.ID.length:Int)->(gi W.ID k).sum<=Qn
 s:∀k c:Int,0<=k->k<(W.ID.length:Int)->0<=c->c<((gi W.ID k).IF.length:Int)->(Qc W k c).floor<=Qn/\(Qc W k c).v<=Qn/\(Qc W k c).sum<=Qn
noncomputable def QO(W:Q7):Bool:=JI (Kg W)
theorem Mq{W:Q7}(wp:J7 W)(r:Kg W):SW Qn W:=by
 have ht:=wp.a.t;have hg:=wp.a.gl;refine⟨wp.a,λt t0 t1 n=>?_,λt t0 t1=>?_,λk c u c0 c1=>?_,λc c0 c1=>?_⟩
 ·rcases wp.t t t0 t1 with h | h
  ·exact Is h.1 n
  ·exact⟨h.2.g,Gb wp.a h.2.c⟩
 ·refine⟨?_,(r.t t t0 Qo).1⟩;rcases wp.t t t0 t1 with h | h
  ·rw[h.2]; exact I3 _
  ·exact(Yq.1 h.2.v).1
 ·obtain⟨u0,u1,_⟩:=Q5.1 u;have hl:=wp.a.sl u;have hs:=wp.s k c u0 Qo c0 Qo;have hr:=r.s k c u0 u1 c0 Qo;exact⟨(Yq.1 hs.f).1,hr.1,(Yq.1 hs.v).1,hr.2.1,hs.w1,hs.w2⟩
 ·have hc:=wp.c c c0 c1;have h1:=hc.c1;have h2:=hc.c2;omega
theorem WA.tk{W:Q7}(ha:WA W){ts:List MC}(hl:ts.length=W.tasks.length):WA { W with tasks:=ts }:=
 ⟨ha.n1,ha.n2,ha.c1,ha.c2,by show ts.length=12; rw[hl]; exact ha.t,ha.tree,ha.wT,λk a b=>by
  have:=ha.grp k a b;refine⟨this.1,λhu=>?_⟩;have hg:=this.2 hu;exact⟨hg.w1,hg.w2,hg.m,hg.m0,hg.s,hg.len,hg.root,hg.none,hg.IN⟩⟩
theorem SW.IU{K:Int}{W:Q7}(h:SW K W){t:Int}(t0:0<=t)(t1:t<12){x:MC}(hx:x.state≠0->Q6 W.ID x.group=true/\0<=x.M'/\x.M'<(W.IE.length:Int))(v0:0<=x.v)(v1:x.v<=K):SW K (IU W t x):=by
 have hl:=h.a.t;have e:∀i:Int,0<=i->Q8 (YtnclplgaicdapaaGreatDoor.IU W t x) i=if t=i then x else Q8 W i:=λi i0=>QI _ _ t0 Qo i0
 refine⟨h.a.tk H',λi a b n=>?_,λi a b=>?_,h.s,h.cu⟩
 ·rw[e i a] at n ⊢;split
  ·rename_i he; rw[E' he] at n; exact hx n
  ·rename_i he; rw[C' he] at n; exact h.t i a b n
 ·rw[e i a];split
  ·exact⟨v0,v1⟩
  ·exact h.tv i a b
def KK:Q7:=⟨0,[],[],[]⟩
def zw8:MW:=⟨none,0,none,0,none,0,λ_=>⟨none,0,none,0,none,0⟩⟩
noncomputable def YK(W:Q7)(bar:Int)(W':Q7):Q7×Int:=if Qy W=false then (KK,1) else if bar≠0 then (W,bar) else (W',0)
theorem zpr{W W':Q7}{bar:Int}(h:Qy W=false):YK W bar W'=(KK,1):=E' h
theorem zps{W W':Q7}{bar:Int}(h:Qy W=true)(hb:bar≠0):YK W bar W'=(W,bar):=by unfold YK; rw[C' (by rw[h]; decide),E' hb]
theorem zt6{W W':Q7}{bar:Int}(h:Qy W=true)(hb:bar=0):YK W bar W'=(W',0):=by unfold YK; rw[C' (by rw[h]; decide),C' (by simpa using hb)]
def Yj(W:Q7)(t:Int):Bool:=YJ t 0 ((W.tasks.length:Int)-1)&&((Q8 W t).state != 0)
theorem X0{W:Q7}{t:Int}(h:Yj W t=true):0<=t/\t<(W.tasks.length:Int)/\(Q8 W t).state≠0:=by
 unfold Yj at h;simp only[A',Iu,ne_eq] at h;have:=Qt.1 h.1;exact⟨Qo,Qo,h.2⟩
noncomputable def T2(W:Q7)(t:Int):Int:=if Yj W t=false then 2 else if (Q8 W t).state≠1 then 6 else if QO W=false then 10 else 0
def ziz(W:Q7)(t:Int):Q7:=Qg (IU W t { Q8 W t with state:=2 })
theorem zkw{W:Q7}{t:Int}(hW:Qy W=true)(hb:T2 W t=0):Yj W t=true/\(Q8 W t).state=1/\SW Qn W/\SW Qn (IU W t { Q8 W t with state:=2 }):=by
 have wp:=Qj.1 hW;unfold T2 at hb
 split at hb
 ·cases hb
 ·rename_i h1
  split at hb
  ·cases hb
  ·rename_i h2
   split at hb
   ·cases hb
   ·rename_i h3;have h1:Yj W t=true:=by simpa using h1
    have h2:(Q8 W t).state=1:=by simpa using h2
    have h3:QO W=true:=by simpa using h3
    have sw:=Mq wp (Qj.1 h3);obtain⟨t0,t1,n⟩:=X0 h1;have hl:=wp.a.t;have hv:=sw.tv t t0 Qo;exact⟨h1,h2,sw,sw.IU t0 Qo (λ_=>sw.t t t0 Qo n) hv.1 hv.2⟩
theorem Ud.same{α:Type}{enc:α->List Va}{z:Nat}{ty:TypeId}{base:Nat}{w:Wo}{o:OA}{cap:Nat}{l l':List α}(h:Ud enc z ty base w o cap l)(he:l'.flatMap enc=l.flatMap enc)(hl:l'.length=l.length):Ud enc z ty base w o cap l':=by
 rcases h with ⟨h1,rfl,h3⟩ | ⟨b,sp,rfl,h1,h2,h3,h4⟩
 ·exact .inl ⟨h1,List.eq_nil_of_length_eq_zero hl,h3⟩
 ·exact .inr ⟨b,sp,rfl,h1,by rw[he]; exact h2,by rw[he]; exact h3,Qo⟩
theorem HX{α:Type}{enc:α->List Va}:∀(l:List α) (i:Nat) (x:α),(∀y,l[i]? = some y->enc x=enc y)->(l.set i x).flatMap enc=l.flatMap enc
 | [],_,_,_=>rfl
 | y::r,0,x,h=>by simp only[List.set_cons_zero,List.flatMap_cons]; rw[h y rfl]
 | y::r,i+1,x,h=>by
  simp only[List.set_cons_succ,List.flatMap_cons];rw[HX r i x λz hz=>h z (by simpa using hz)]
theorem z0t{α:Type}[Inhabited α]{l:List α}{i:Int}(h0:0<=i)(hi:i<(l.length:Int)):l[i.toNat]? = some (gi l i):=by
 obtain⟨k,rfl⟩:=Int.eq_ofNat_of_zero_le h0;rw[Ih];exact zxy Qo
section
variable {base:Nat}{w w':Wo}{o:OA}{cap:Nat}{ps:List (ZN×MG)}
theorem KN.BZ1{α:Type}{enc:α->List Va}{z:Nat}{ty:TypeId}{aP nK:Nat}{o':OA}{l:List α}(h:KN base w o cap ps)(h':Ud enc z ty aP w o' nK l)(n1:QL≠ty)(n2:Qb≠ty)(n3:Y6≠ty)(n4:YP≠ty)(hx:Q0 (QD o') w w'):KN base w' o cap ps:=
 ⟨h.row.ext hx (h.row.Wb h' n1),λi a b=>(h.each i a b).ext hx λx hm=>by
  simp only[Qm,Io] at hm;rcases hm with (hm | hm) | hm
  ·exact(h.each i a b).loc.Wb h' n2 x hm
  ·exact(h.each i a b).Ry.Wb h' n3 x hm
  ·exact(h.each i a b).shl.Wb h' n4 x hm,h.dj⟩
theorem KN.R8(h:KN base w o cap ps){i:Int}(h0:0<=i)(hi:i<(ps.length:Int)){p:ZN×MG}(hp:Py base w p)(hd:∀j:Int,0<=j->j<(ps.length:Int)->i≠j->∀b∈Qm (gi ps j).2,b∉Qm p.2){j:Nat}{vs:List Va}(he:TH p=(TH (gi ps i)).take j++vs++(TH (gi ps i)).drop (j+vs.length))(hj:j+vs.length<=14):KN base (YtnclplgaicdapaaGreatDoor.R8 w o (Int.toNat i*14+j) vs) o cap (ps.set i.toNat p):=by
 have hx:=h.row.qR (Int.toNat i*14+j) vs;have hlen:(ps.set i.toNat p).length=ps.length:=H';refine⟨h.row.R8 Y7.len h0 hi he hj,λk hk tE=>?_,λa k ha hal hk tE hak b hb iO=>?_⟩
 ·rw[hlen] at tE;rw[QI _ _ h0 hi hk];split
  ·exact hp.ext hx (XP h.row hp)
  ·exact(h.each k hk tE).ext hx (XP h.row (h.each k hk tE))
 ·rw[hlen] at hal tE;rw[QI _ _ h0 hi ha] at hb;rw[QI _ _ h0 hi hk] at iO
  by_cases e1:i=a
  ·rw[E' e1] at hb
   by_cases e2:i=k
   ·omega
   ·rw[C' e2] at iO;exact hd k hk tE e2 b iO hb
  ·rw[C' e1] at hb
   by_cases e2:i=k
   ·rw[E' e2] at iO;exact hd a ha hal e1 b hb iO
   ·rw[C' e2] at iO;exact h.dj a k ha hal hk tE hak b hb iO
theorem KN.in(h:KN base w o cap ps){i:Int}(h0:0<=i)(hi:i<(ps.length:Int)){p:ZN×MG}{bs:List Nat}(hx:Q0 bs w w')(hb:∀x∈bs,x∈Qm (gi ps i).2)(hp:Py base w' p)(hm:p.2=(gi ps i).2)(he:TH p=TH (gi ps i)):KN base w' o cap (ps.set i.toNat p):=by
 have hlen:(ps.set i.toNat p).length=ps.length:=H';refine⟨?_,λk hk tE=>?_,λa k ha hal hk tE hak b fD iO=>?_⟩
 ·refine(h.row.ext hx λb fD dJ=>XP h.row (h.each i h0 hi) b (hb b dJ) fD).same (HX _ _ _ λy hy=>?_) hlen;rw[z0t h0 hi] at hy;cases hy;exact he
 ·rw[hlen] at tE;rw[QI _ _ h0 hi hk];split
  ·exact hp
  ·rename_i fH;exact(h.each k hk tE).ext hx λb fD dJ=>h.dj i k h0 hi hk tE fH b (hb b dJ) fD
 ·rw[hlen] at hal tE;rw[QI _ _ h0 hi ha] at fD;rw[QI _ _ h0 hi hk] at iO
  have e1:b∈Qm (gi ps a).2:=by
   by_cases e:i=a
   ·rw[E' e,hm,e] at fD; exact fD
   ·rw[C' e] at fD; exact fD
  have e2:b∈Qm (gi ps k).2:=by
   by_cases e:i=k
   ·rw[E' e,hm,e] at iO; exact iO
   ·rw[C' e] at iO; exact iO
  exact h.dj a k ha hal hk tE hak b e1 e2
end
def zoq(W:Q7)(m:MW):List (ZN×MG):=(List.range W.ID.length).map λ(k:Nat)=>(gi W.ID (k:Int),m.ms k)
theorem XR(W:Q7)(m:MW):(zoq W m).length=W.ID.length:=by simp[zoq]
theorem Tw{W:Q7}{m:MW}{i:Int}(h0:0<=i)(hi:i<(W.ID.length:Int)):gi (zoq W m) i=(gi W.ID i,m.ms i.toNat):=by
 obtain⟨k,rfl⟩:=Int.eq_ofNat_of_zero_le h0;rw[U8 (by rw[XR]; omega)];simp[zoq]
def QC(n:Nat)(m:MW):List Nat:=QD m.cO++QD m.tO++QD m.gO++(List.range n).flatMap λ(k:Nat)=>Qm (m.ms k)
structure Zj (n base:Nat) (w:Wo) (W:Q7) (m:MW):Prop where
 c:Ud KU 5 Zy base w m.cO m.cC W.IE
 t:Ud Xa 9 QR base w m.tO m.tC W.tasks
 g:KN base w m.gO m.gC (zoq W m)
 len:W.ID.length=n
section
variable {n base:Nat}{w w':Wo}{W:Q7}{m:MW}{bs:List Nat}
theorem N9{x:Nat}(h:x∈QD m.cO):x∈QC n m:=by simp[QC,h]
theorem Nb{x:Nat}(h:x∈QD m.tO):x∈QC n m:=by simp[QC,h]
theorem Na{x:Nat}(h:x∈QD m.gO):x∈QC n m:=by simp[QC,h]
theorem J2{x k:Nat}(hk:k<n)(h:x∈Qm (m.ms k)):x∈QC n m:=by
 unfold QC;exact Iy _ (List.mem_flatMap.2 ⟨k,List.mem_range.2 hk,h⟩)
theorem A2{x:Nat}(h:x∈QC n m):x∈QD m.cO\/x∈QD m.tO\/x∈QD m.gO\/∃k,k<n/\x∈Qm (m.ms k):=by
 unfold QC at h;simp only[Io,List.mem_flatMap,List.mem_range] at h;rcases h with ((h | h) | h) | ⟨k,hk,h⟩
 ·exact .inl h
 ·exact .inr (.inl h)
 ·exact .inr (.inr (.inl h))
 ·exact .inr (.inr (.inr ⟨k,hk,h⟩))
theorem Zj.each(h:Zj n base w W m){i:Int}(h0:0<=i)(hi:i<(n:Int)):Py base w (gi W.ID i,m.ms i.toNat):=by
 have:=h.g.each i h0 (by rw[XR,h.len]; exact hi)
 rwa[Tw h0 (by rw[h.len]; exact hi)] at this
theorem Zj.lt(h:Zj n base w W m):∀x∈QC n m,base<=x/\x<w.heap.size:=λx hx=>by
 rcases A2 hx with hx | hx | hx | ⟨k,hk,hx⟩
 ·exact h.c.lt x hx
 ·exact h.t.lt x hx
 ·exact h.g.row.lt x hx
 ·exact(h.each (i:=(k:Int)) Qo Qo).lt x (by simpa using hx)
theorem Zj.ext(h:Zj n base w W m)(hx:Q0 bs w w')(hd:∀x∈QC n m,x∉bs):Zj n base w' W m:=
 ⟨h.c.ext hx λb hb=>hd b (N9 hb),h.t.ext hx λb hb=>hd b (Nb hb),
  ⟨h.g.row.ext hx λb hb=>hd b (Na hb),λi a b=>by
   have b':i<(W.ID.length:Int):=by rw[XR] at b; exact b
   have hl:=h.len;refine(h.g.each i a b).ext hx λx hm=>?_
   rw[Tw a b'] at hm;exact hd x (J2 Qo hm),h.g.dj⟩,h.len⟩
theorem Zj.WG(h:Zj n base w W m)(hx:Q0 [] w w'):Zj n base w' W m:=h.ext hx Qs
theorem Zj.mono{aP:Nat}(h:Zj n base w W m)(hb:aP<=base):Zj n aP w W m:=⟨h.c.mono hb,h.t.mono hb,h.g.mono hb,h.len⟩
theorem Zj.rd(h:Zj n base w W m)(hd:∀x∈QC n m,x∉bs):Xl bs w W m:=by
 have hl:=h.len;refine⟨h.c.rd KT.len λb hb=>hd b (N9 hb),h.t.rd OX.len λb hb=>hd b (Nb hb),⟨λi h0 hi=>?_,λi h0 hi=>?_,λi h0 hi=>?_,λi h0 hi=>?_⟩⟩
 ·have:=h.g.row.rd Y7.len (bs:=bs) (λb hb=>hd b (Na hb)) i h0 (by rw[XR]; exact hi)
  rwa[Tw h0 hi] at this
 ·exact(h.each h0 Qo).loc.rd Y3.len λb hb=>hd b (J2 (k:=i.toNat) Qo (by simp[Qm]; exact .inl hb))
 ·exact(h.each h0 Qo).Ry.rd Ys.len λb hb=>hd b (J2 (k:=i.toNat) Qo (by simp[Qm]; exact .inr (.inl hb)))
 ·exact(h.each h0 Qo).shl.rd VR.len λb hb=>hd b (J2 (k:=i.toNat) Qo (by simp[Qm]; exact .inr (.inr hb)))
theorem Zj.vV(h:Zj n base w W m){i:Int}(h0:0<=i)(hi:i<(W.tasks.length:Int)){j:Nat}{vs:List Va}{x:MC}(he:Xa x=(Xa (gi W.tasks i)).take j++vs++(Xa (gi W.tasks i)).drop (j+vs.length))(hj:j+vs.length<=9) :
  Zj n base (R8 w m.tO (Int.toNat i*9+j) vs) { W with tasks:=W.tasks.set i.toNat x } m:=
 ⟨h.c.ext (h.t.qR _ _) (h.c.Wb h.t Qd),h.t.R8 OX.len h0 hi he hj,h.g.BZ1 h.t Qd Qd Qd Qd (h.t.qR _ _),h.len⟩
theorem Zj.AX8(h:Zj n base w W m){i:Int}(h0:0<=i)(hi:i<(W.IE.length:Int)){j:Nat}{vs:List Va}{x:Px}(he:KU x=(KU (gi W.IE i)).take j++vs++(KU (gi W.IE i)).drop (j+vs.length))(hj:j+vs.length<=5) :
  Zj n base (R8 w m.cO (Int.toNat i*5+j) vs) { W with IE:=W.IE.set i.toNat x } m:=
 ⟨h.c.R8 KT.len h0 hi he hj,h.t.ext (h.c.qR _ _) (h.t.Wb h.c Qd),h.g.BZ1 h.c Qd Qd Qd Qd (h.c.qR _ _),h.len⟩
def PG(m:MW)(k:Nat)(p:MG):MW:={ m with ms:=λj=>if k=j then p else m.ms j }
theorem zh1(m:MW)(k:Nat):PG m k (m.ms k)=m:=by
 unfold PG
 have:(λj=>if k=j then m.ms k else m.ms j)=m.ms:=by
  funext j
  split
  ·rename_i e; rw[e]
  ·rfl
 rw[this]
theorem zj9{i:Int}(h0:0<=i)(hi:i<(W.ID.length:Int))(g:ZN)(p:MG):zoq { W with ID:=W.ID.set i.toNat g } (PG m i.toNat p)=(zoq W m).set i.toNat (g,p):=by
 refine zn1 (by rw[XR,H',H',XR]) λk hk=>?_
 rw[XR,H'] at hk;rw[Tw Qo (by rw[H']; omega),QI _ _ h0 hi Qo,QI _ _ h0 (by rw[XR]; exact hi) Qo];simp only[PG]
 by_cases e:i=(k:Int)
 ·rw[E' e,E' e,E' Qo]
 ·rw[C' e,C' e,C' Qo,Tw Qo Qo]
theorem Zj.Bu7{p:MG}(h:Zj n base w W m){i:Int}(hn:∀x∈Qm p,x∉QC n m\/x∈Qm (m.ms i.toNat))(h0:0<=i)(hi:i<(n:Int)):∀j:Int,0<=j->j<((zoq W m).length:Int)->i≠j->∀b∈Qm (gi (zoq W m) j).2,b∉Qm p:=λj hj hjl hij b hb iO=>by
 have hl:=h.len;rw[XR] at hjl;have dJ:=hb;rw[Tw hj hjl] at hb;rcases hn b iO with h1 | h1
 ·exact h1 (J2 Qo hb)
 ·have:=h.g.dj i j h0 (by rw[XR]; omega) hj (by rw[XR]; exact hjl) hij b (by rw[Tw h0 Qo]; exact h1);exact this dJ
theorem Zj.B02(h:Zj n base w W m){i:Int}(h0:0<=i)(hi:i<(n:Int)){g:ZN}{p:MG}(hp:Py base w (g,p))(hn:∀x∈Qm p,x∉QC n m\/x∈Qm (m.ms i.toNat)){j:Nat}{vs:List Va}(he:Yt g p=(Yt (gi W.ID i) (m.ms i.toNat)).take j++vs++(Yt (gi W.ID i) (m.ms i.toNat)).drop (j+vs.length))(hj:j+vs.length<=14) :
  Zj n base (R8 w m.gO (Int.toNat i*14+j) vs) { W with ID:=W.ID.set i.toNat g } (PG m i.toNat p):=by
 have hl:=h.len;have hx:=h.g.row.qR (Int.toNat i*14+j) vs;refine⟨h.c.ext hx (h.c.Wb h.g.row Qd),h.t.ext hx (h.t.Wb h.g.row Qd),?_,by rw[H']; exact hl⟩;have:=h.g.R8 h0 (by rw[XR]; omega) hp (h.Bu7 hn h0 hi) (j:=j) (vs:=vs) (by rw[Tw h0 Qo]; exact he) hj;rw[zj9 h0 Qo];exact this
theorem Zj.An0(h:Zj n base w W m){i:Int}(h0:0<=i)(hi:i<(n:Int)){g:ZN}(e1:g.IN.locals=(gi W.ID i).IN.locals)(e2:g.IN.Ry=(gi W.ID i).IN.Ry)(e3:g.IF=(gi W.ID i).IF){j:Nat}{vs:List Va}(he:Yt g (m.ms i.toNat)=(Yt (gi W.ID i) (m.ms i.toNat)).take j++vs++(Yt (gi W.ID i) (m.ms i.toNat)).drop (j+vs.length))(hj:j+vs.length<=14) :
  Zj n base (R8 w m.gO (Int.toNat i*14+j) vs) { W with ID:=W.ID.set i.toNat g } m:=by
 have hm:=h.each h0 hi;have:=h.B02 h0 hi (g:=g) (p:=m.ms i.toNat) ⟨by rw[e1]; exact hm.loc,by rw[e2]; exact hm.Ry,by rw[e3]; exact hm.shl⟩ (λx hx=>.inr hx) he hj
 rwa[zh1] at this
theorem Zj.in(h:Zj n base w W m){i:Int}(h0:0<=i)(hi:i<(n:Int)){g:ZN}(hx:Q0 bs w w')(hb:∀x∈bs,x∈Qm (m.ms i.toNat))(hp:Py base w' (g,m.ms i.toNat))(he:Yt g (m.ms i.toNat)=Yt (gi W.ID i) (m.ms i.toNat)) :
  Zj n base w' { W with ID:=W.ID.set i.toNat g } m:=by
 have hl:=h.len;have hmi:=h.each h0 hi
 have hf:∀{α:Type} {enc:α->List Va} {z:Nat} {ty:TypeId} {aP nK:Nat} {o':OA} {l:List α},Ud enc z ty aP w o' nK l->ty≠Qb->ty≠Y6->ty≠YP->∀b∈QD o',b∉bs:=λho n1 n2 n3 b fD dJ=>by
  have hm:=hb b dJ;simp only[Qm,Io] at hm;rcases hm with (hm | hm) | hm
  ·exact ho.Wb hmi.loc n1 b fD hm
  ·exact ho.Wb hmi.Ry n2 b fD hm
  ·exact ho.Wb hmi.shl n3 b fD hm
 refine⟨h.c.ext hx (hf h.c Qd Qd Qd),h.t.ext hx (hf h.t Qd Qd Qd),?_,by rw[H']; exact hl⟩;have:=h.g.in h0 (by rw[XR]; omega) (p:=(g,m.ms i.toNat)) hx (by rw[Tw h0 Qo]; exact hb) hp (by rw[Tw h0 Qo]) (by rw[Tw h0 Qo]; exact he);have hs:=zj9 (m:=m) h0 (W:=W) Qo g (m.ms i.toNat);rw[zh1] at hs;rw[hs];exact this
theorem zzb(W:Q7)(i:Int)(c:Int)(x:KL)(mg:MG):Yt { gi W.ID i with IF:=(gi W.ID i).IF.set c.toNat x } mg=Yt (gi W.ID i) mg:=by
 simp[Yt]
theorem Zj.BI3(h:Zj n base w W m){i c:Int}(h0:0<=i)(hi:i<(n:Int))(c0:0<=c)(c1:c<((gi W.ID i).IF.length:Int)){j:Nat}{vs:List Va}{x:KL}(he:PS x=(PS (gi (gi W.ID i).IF c)).take j++vs++(PS (gi (gi W.ID i).IF c)).drop (j+vs.length))(hj:j+vs.length<=5) :
  Zj n base (R8 w (m.ms i.toNat).sO (Int.toNat c*5+j) vs) { W with ID:=W.ID.set i.toNat { gi W.ID i with IF:=(gi W.ID i).IF.set c.toNat x } } m:=by
 have hm:=h.each h0 hi;have hx:=hm.shl.qR (Int.toNat c*5+j) vs;exact h.in h0 hi hx (λx hx=>by simp[Qm]; exact .inr (.inr hx)) ⟨hm.loc.ext hx (hm.loc.Wb hm.shl Qd),hm.Ry.ext hx (hm.Ry.Wb hm.shl Qd),hm.shl.R8 VR.len c0 c1 he hj⟩ (zzb _ _ _ _ _)
theorem Zj.eI(h:Zj n base w W m){i c:Int}(h0:0<=i)(hi:i<(n:Int))(c0:0<=c)(c1:c<((gi W.ID i).IN.locals.length:Int))(x:Int) :
  Zj n base (R8 w (m.ms i.toNat).lO (Int.toNat c*1+0) [I x]) { W with ID:=W.ID.set i.toNat { gi W.ID i with IN:={ (gi W.ID i).IN with locals:=(gi W.ID i).IN.locals.set c.toNat x } } } m:=by
 have hm:=h.each h0 hi;have hx:=hm.loc.qR (Int.toNat c*1+0) [I x];exact h.in h0 hi hx (λx hx=>by simp[Qm]; exact .inl hx) ⟨hm.loc.R8 Y3.len c0 c1 (j:=0) (vs:=[I x]) (x:=x) rfl Qs,hm.Ry.ext hx (hm.Ry.Wb hm.loc Qd),hm.shl.ext hx (hm.shl.Wb hm.loc Qd)⟩ (by simp[Yt])
theorem Zj.B01(h:Zj n base w W m){i c:Int}(h0:0<=i)(hi:i<(n:Int))(c0:0<=c)(c1:c<((gi W.ID i).IN.Ry.length:Int))(x:Bool) :
  Zj n base (R8 w (m.ms i.toNat).dO (Int.toNat c*1+0) [.bool x]) { W with ID:=W.ID.set i.toNat { gi W.ID i with IN:={ (gi W.ID i).IN with Ry:=(gi W.ID i).IN.Ry.set c.toNat x } } } m:=by
 have hm:=h.each h0 hi;have hx:=hm.Ry.qR (Int.toNat c*1+0) [.bool x];exact h.in h0 hi hx (λx hx=>by simp[Qm]; exact .inr (.inl hx)) ⟨hm.loc.ext hx (hm.loc.Wb hm.Ry Qd),hm.Ry.R8 Ys.len c0 c1 (j:=0) (vs:=[.bool x]) (x:=x) rfl Qs,hm.shl.ext hx (hm.shl.Wb hm.Ry Qd)⟩ (by simp[Yt])
end
structure Mv (n base:Nat) (bs:List Nat) (w0:Wo) (m0:MW) (w:Wo) (W:Q7) (m:MW):Prop where
 own:Zj n base w W m
 ext:Q0 (QC n m0) w0 w
 sub:∀x∈QC n m,x∈QC n m0\/w0.heap.size<=x
 hd:m={ m0 with ms:=m.ms }
 nb:∀x∈QC n m,x∉bs
 new:∀x∈bs,w0.heap.size<=x
section
variable {n base:Nat}{bs cs:List Nat}{w0 w w':Wo}{W W':Q7}{m0 m m':MW}{b:Nat}
theorem Mv.start(h:Zj n base w W m):Mv n base [] w m w W m:=⟨h,Q0.refl _ _,λx hx=>.inl hx,rfl,Qs,Qs⟩
theorem Mv.add(h:Mv n base bs w0 m0 w W m)(hb:w.heap.size<=b):Mv n base (bs++[b]) w0 m0 w W m:=⟨h.own,h.ext,h.sub,h.hd,λx hx hm=>by
 rcases Io.1 hm with hm | hm
 ·exact h.nb x hx hm
 ·have:x=b:=by simpa using hm
  have:=(h.own.lt x hx).2;omega,λx hm=>by
 rcases Io.1 hm with hm | hm
 ·exact h.new x hm
 ·have:x=b:=by simpa using hm
  have:=h.ext.size;omega⟩
theorem Mv.BW4(h:Mv n base bs w0 m0 w W m)(hs:∀x∈cs,x∈bs):Mv n base cs w0 m0 w W m:=⟨h.own,h.ext,h.sub,h.hd,λx hx hm=>h.nb x hx (hs x hm),λx hm=>h.new x (hs x hm)⟩
theorem Mv.close(h:Mv n base bs w0 m0 w W m):Mv n base [] w0 m0 w W m:=h.BW4 Qs
theorem Mv.step(h:Mv n base bs w0 m0 w W m)(hx:Q0 bs w w'):Mv n base bs w0 m0 w' W m:=⟨h.own.ext hx h.nb,h.ext.fresh hx λx hm=>.inl (h.new x hm),h.sub,h.hd,h.nb,h.new⟩
theorem Mv.R6(h:Mv n base bs w0 m0 w W m)(hx:Q0 [] w w'):Mv n base bs w0 m0 w' W m:=⟨h.own.WG hx,h.ext.trans hx.of_nil,h.sub,h.hd,h.nb,h.new⟩
theorem Mv.call(h:Mv n base bs w0 m0 w W m)(k:Mv n base [] w m w' W' m')(hs:∀x∈bs,x<w.heap.size):Mv n base bs w0 m0 w' W' m':=
 ⟨k.own,h.ext.fresh k.ext λx hm=>(h.sub x hm).symm,λx hx=>by
  rcases k.sub x hx with h1 | h1
  ·exact h.sub x h1
  ·have:=h.ext.size;exact .inr Qo,by rw[k.hd,h.hd],λx hx hm=>by
  rcases k.sub x hx with h1 | h1
  ·exact h.nb x h1 hm
  ·have:=hs x hm;omega,h.new⟩
theorem Mv.SA(h:Mv n base bs w0 m0 w W m)(k:Zj n base w' W' m)(hx:Q0 (QC n m) w w'):Mv n base bs w0 m0 w' W' m:=
 ⟨k,h.ext.fresh hx λx hm=>(h.sub x hm).symm,h.sub,h.hd,h.nb,h.new⟩
theorem Mv.kept(h:Mv n base bs w0 m0 w W m)(k:Mv n base [] w m w' W' m')(hs:∀x∈bs,x<w.heap.size):Q9 bs w w':=λx hm=>k.ext.block x (hs x hm) λgE=>h.nb x gE hm
theorem Mv.rd(h:Mv n base bs w0 m0 w W m):Xl bs w W m:=h.own.rd h.nb
theorem Mv.rd0(h:Mv n base bs w0 m0 w W m):Xl [] w W m:=h.own.rd Qs
theorem Mv.trans{w1:Wo}{W1:Q7}{m1:MW}(h:Mv n base [] w0 m0 w W m)(k:Mv n base [] w m w1 W1 m1):Mv n base [] w0 m0 w1 W1 m1:=h.call k Qs
theorem Mv.AO5(h:Mv n base bs w0 m0 w W m){W0:Q7}(e0:W.now=W0.now)(e1:W.IE.length=W0.IE.length)(e2:W.tasks.length=W0.tasks.length)(e3:W.ID.length=W0.ID.length):Qa W m=Qa W0 m0:=by
 rw[h.hd];simp only[Qa,e0,e1,e2,e3]
end
structure OW (n base:Nat) (bs:List Nat) (w:Wo) (W:Q7) (m:MW):Prop where
 own:Zj n base w W m
 nb:∀x∈QC n m,x∉bs
section
variable {n base:Nat}{bs cs:List Nat}{w w':Wo}{W:Q7}{m:MW}{b:Nat}
theorem OW.of(h:Zj n base w W m)(hs:∀x∈bs,x<base):OW n base bs w W m:=⟨h,λx hx hm=>by
 have:=(h.lt x hx).1;have:=hs x hm;omega⟩
theorem OW.step(h:OW n base bs w W m)(hx:Q0 bs w w'):OW n base bs w' W m:=⟨h.own.ext hx h.nb,h.nb⟩
theorem OW.R6(h:OW n base bs w W m)(hx:Q0 [] w w'):OW n base bs w' W m:=⟨h.own.WG hx,h.nb⟩
theorem OW.call(h:OW n base bs w W m)(hx:Q0 cs w w')(hd:∀x∈QC n m,x∉cs):OW n base bs w' W m:=⟨h.own.ext hx hd,h.nb⟩
theorem OW.add(h:OW n base bs w W m)(hb:w.heap.size<=b):OW n base (bs++[b]) w W m:=⟨h.own,λx hx hm=>by
 rcases Io.1 hm with hm | hm
 ·exact h.nb x hx hm
 ·have:x=b:=by simpa using hm
  have:=(h.own.lt x hx).2;omega⟩
theorem OW.put(h:OW n base bs w W m)(hx:Q0 bs w w')(hb:w.heap.size<=b):OW n base (bs++[b]) w' W m:=⟨(h.step hx).own,(h.add hb).nb⟩
theorem OW.AX7{b2:Nat}(h:OW n base bs w W m)(hx:Q0 bs w w')(hb:w.heap.size<=b)(dJ:w.heap.size<=b2):OW n base (bs++[b]++[b2]) w' W m:=⟨(h.step hx).own,((h.add hb).add dJ).nb⟩
theorem OW.sub(h:OW n base bs w W m)(hs:∀x∈cs,x∈bs):OW n base cs w W m:=⟨h.own,λx hx hm=>h.nb x hx (hs x hm)⟩
theorem OW.mono{aP:Nat}(h:OW n base bs w W m)(hb:aP<=base):OW n aP bs w W m:=⟨h.own.mono hb,h.nb⟩
theorem OW.rd(h:OW n base bs w W m):Xl bs w W m:=h.own.rd h.nb
theorem OW.rd0(h:OW n base bs w W m):Xl [] w W m:=h.own.rd Qs
end
def Jt(b:Js):Js:=⟨b.IY,b.IY,0,List.replicate b.Ry.length 0,List.replicate b.Ry.length false⟩
def Y5(b:Js)(c:Int):Js×Int:=
 if gi b.locals c>0 then (b,0)
 else (⟨b.IY,b.RJ-ZC 20 b.RJ,b.Sy,b.locals.set c.toNat (ZC 20 b.RJ),b.Ry.set c.toNat (ZC 20 b.RJ==0)⟩,if ZC 20 b.RJ=0 then 2 else 0)
def XD(b:Js)(c n:Int):Js×Int:=
 if n<1\/n>gi b.locals c then (b,3) else ({ b with Sy:=b.Sy+n,locals:=b.locals.set c.toNat (gi b.locals c-n) },0)
def ZE(b:Js)(op:zxd):Js×Int:=
 if op.kind=4 then (Jt b,0)
 else if YJ op.pK 0 ((b.locals.length:Int)-1)=false then (b,1)
 else if op.kind=1 then Y5 b op.pK
 else if op.kind=2 then XD b op.pK op.n
 else if op.kind=3 then (ZX b op.pK,0)
 else (b,1)
structure Z5 (base:Nat) (w:Wo) (b:Js) (p:MG):Prop where
 loc:Ud Jd 1 Qb base w p.lO p.lC b.locals
 Ry:Ud PR 1 Y6 base w p.dO p.dC b.Ry
def ZI(p:MG):List Nat:=QD p.lO++QD p.dO
theorem Z5.lt{base:Nat}{w:Wo}{b:Js}{p:MG}(h:Z5 base w b p):∀x∈ZI p,base<=x/\x<w.heap.size:=λx hx=>by
 rcases Io.1 hx with hx | hx
 ·exact h.loc.lt x hx
 ·exact h.Ry.lt x hx
theorem Z5.ext{base:Nat}{w w':Wo}{b:Js}{p:MG}{bs:List Nat}(h:Z5 base w b p)(hx:Q0 bs w w')(hd:∀x∈ZI p,x∉bs):Z5 base w' b p:=
 ⟨h.loc.ext hx λx hm=>hd x (Ib _ hm),h.Ry.ext hx λx hm=>hd x (Iy _ hm)⟩
theorem Z5.WG{base:Nat}{w w':Wo}{b:Js}{p:MG}(h:Z5 base w b p)(hx:Q0 [] w w'):Z5 base w' b p:=h.ext hx Qs
theorem Z5.CW7{base:Nat}{w w':Wo}{b:Js}{p:MG}{bs:List Nat}(h:Z5 base w b p)(hx:Q0 bs w w')(hb:∀x∈bs,x<base):Z5 base w' b p:=h.ext hx λx hm gE=>by
 have:=(h.lt x hm).1;have:=hb x gE;omega
theorem Z5.mono{base aP:Nat}{w:Wo}{b:Js}{p:MG}(h:Z5 base w b p)(hb:aP<=base):Z5 aP w b p:=⟨h.loc.mono hb,h.Ry.mono hb⟩
theorem Z5.eI{base:Nat}{w:Wo}{b:Js}{p:MG}(h:Z5 base w b p){c:Int}(c0:0<=c)(c1:c<(b.locals.length:Int))(x:Int):Z5 base (R8 w p.lO (Int.toNat c*1) [I x]) { b with locals:=b.locals.set c.toNat x } p:=
 ⟨h.loc.R8 Y3.len c0 c1 (j:=0) (vs:=[I x]) (x:=x) rfl Qs,h.Ry.ext (h.loc.qR _ _) (h.Ry.Wb h.loc Qd)⟩
theorem Z5.B01{base:Nat}{w:Wo}{b:Js}{p:MG}(h:Z5 base w b p){c:Int}(c0:0<=c)(c1:c<(b.Ry.length:Int))(x:Bool):Z5 base (R8 w p.dO (Int.toNat c*1) [.bool x]) { b with Ry:=b.Ry.set c.toNat x } p:=
 ⟨h.loc.ext (h.Ry.qR _ _) (h.loc.Wb h.Ry Qd),h.Ry.R8 Ys.len c0 c1 (j:=0) (vs:=[.bool x]) (x:=x) rfl Qs⟩
theorem Z5.xL{base:Nat}{w:Wo}{b:Js}{p:MG}(h:Z5 base w b p)(n:Nat)(vs:List Va):Q0 (ZI p) w (R8 w p.lO n vs):=(h.loc.qR n vs).mono λx hx=>Ib _ hx
theorem Z5.xD{base:Nat}{w:Wo}{b:Js}{p:MG}(h:Z5 base w b p)(n:Nat)(vs:List Va):Q0 (ZI p) w (R8 w p.dO n vs):=(h.Ry.qR n vs).mono λx hx=>Iy _ hx
section
variable {b:Js}{m:MG}{w:Wo}
theorem GY{α:Type}[Inhabited α]{l:List α}{i:Nat}(h:i<l.length):l.take i++[gi l (i:Int)]=l.take (i+1):=by
 rw[List.take_succ_eq_append_getElem h,U8 h]
theorem Fk(h1:znf [] w m.lO b.locals)(h2:ztv [] w m.dO b.Ry)(hd:b.Ry.length=b.locals.length)(hl:b.locals.length<=1048576) :
  Cz Ox #[.agg (QZ b m).toArray] w λe w'=>∃p,e=.returned (.agg (QZ b p).toArray)/\Z5 w.heap.size w' b p/\Q0 [] w w':=by
 refine(zjb b.IY b.RJ b.Sy m.lO b.locals.length m.lC m.dO b.Ry.length m.dC (R:=λv w'=>∃p,v=.agg (QZ b p).toArray/\Z5 w.heap.size w' b p/\Q0 [] w w') ?_).mono λe w' ⟨v,he,p,hv,h3⟩=>⟨p,by rw[he,hv],h3⟩
 intro x tF x5 Sw x6 bJ
 refine⟨λvs w1=>∃(i:Nat) (p:MG),vs=[I (i:Int),I b.IY,I b.RJ,I b.Sy,.slice p.lO (b.locals.take i).length p.lC,.slice p.dO (b.Ry.take i).length p.dC]/\i<=b.locals.length/\Sc w [x,x5,x6] w1/\Ob Jd 1 Qb w.heap.size [x,x5,x6] w1 p.lO p.lC (b.locals.take i)/\Ob PR 1 Y6 w.heap.size [x,x5,x6] w1 p.dO p.dC (b.Ry.take i),
  Zs b.locals.length 0,λwr hx _=>⟨0,⟨none,0,none,0,none,0⟩,Qs,Ie _,(((Sc.start w).add tF).add Sw |>.add bJ).R6 hx,⟨.inl ⟨rfl,rfl,rfl⟩,by simp[QD]⟩,⟨.inl ⟨rfl,rfl,rfl⟩,by simp[QD]⟩⟩,?_⟩
 rintro c1 l l1 l2 Sf Sg Si l4O l4L l4C wv hs ⟨i,p,he,hi,s1,hO,hD⟩;simp only[I5,I6,Iw,true_and,and_true] at he;obtain⟨rfl,rfl,rfl,rfl,⟨rfl,rfl,rfl⟩,rfl,rfl,rfl⟩:=he;refine⟨λIT=>?_,λRN=>?_⟩
 ·have IT:=Ot IT;have wC:=h1.scb s1;refine⟨wC.ix Jy Qo IT,_,wC i Qo IT,λb8 hb8=>⟨rfl,λRu Ra fX Ws=>?_⟩⟩;have s2:=s1.put Ra hb8;have oK:=hO.put Ra hb8;have hD2:=hD.put Ra hb8;obtain⟨o2,c2,w2,WH,vP,hO3,SJ⟩:=oK.AQ6 Y3 P6 (x:=gi b.locals (i:Int)) fX s2.ext.size Ws (z1f _) (by rw[List.length_take]; omega) Qd ZV #[false,false];rw[GY Qo] at WH hO3;have s3:=s2.call SJ λx hm=>(oK.own.lt x hm).1
  have hD3:=hD2.call SJ (hD2.own.Wb oK.own Qd);have uN:=h2.scb s3;refine⟨_,_,_,w2,WH,vP,uN.ix DF Qo Qo,_,uN i Qo Qo,λb9 hb9=>⟨rfl,λRC SZ eM CL8=>?_⟩⟩;have s4:=s3.put SZ hb9;have hO4:=hO3.put SZ hb9;have hD4:=hD3.put SZ hb9;obtain⟨o4,c4,w4,CF8,hk4,hD5,lB⟩:=hD4.AQ6 Ys KG (x:=gi b.Ry (i:Int)) eM s4.ext.size CL8 (z2m _) (by rw[List.length_take]; omega) Qd J3 #[false,false];rw[GY Qo] at CF8 hD5;have s5:=s4.call lB λx hm=>(hD4.own.lt x hm).1
  have hO5:=hO4.call lB (hO4.own.Wb hD4.own Qd);refine⟨_,_,_,w4,CF8,hk4,⟨Qo,Qo⟩,λw5 Sw _=>⟨⟨i+1,⟨o2,c2,o4,c4,none,0⟩,rfl,Qo,(s5.step Sw).sub Qs,(hO5.step Sw).sub Qs,(hD5.step Sw).sub Qs⟩,?_⟩⟩;simp only[Zs,Xg,ZW,Ig];omega
 ·have RN:=Ou RN;have e1:b.locals.take i=b.locals:=List.take_of_length_le Qo;have e2:b.Ry.take i=b.Ry:=List.take_of_length_le Qo;rw[e1] at hO ⊢;rw[e2] at hD ⊢;exact λw2 R3=>⟨p,rfl,⟨(hO.step R3).own,(hD.step R3).own⟩,(s1.step R3).ext⟩
theorem zm6(l:List Bool)(k:Nat)(h:k<l.length):(List.replicate k false++l.drop k).set k false=List.replicate (k+1) false++l.drop (k+1):=by
 rw[List.set_append,C' Qs,List.length_replicate,Nat.sub_self,List.drop_eq_getElem_cons h,List.set_cons_zero,List.replicate_succ',List.append_assoc,List.singleton_append]
theorem Fl{base:Nat}(h:Z5 base w b m)(hl:b.Ry.length<=1048576) :
  Cz Oy #[.agg (QZ b m).toArray] w λe w'=>e=.returned (.agg (QZ b m).toArray)/\Z5 base w' { b with Ry:=List.replicate b.Ry.length false } m/\Q0 (ZI m) w w':=by
 refine(zjc b.IY b.RJ b.Sy m.lO b.locals.length m.lC m.dO b.Ry.length m.dC (R:=λv w'=>v=.agg (QZ b m).toArray/\Z5 base w' { b with Ry:=List.replicate b.Ry.length false } m/\Q0 (ZI m) w w') ?_).mono λe w' ⟨v,he,hv,h3⟩=>⟨by rw[he,hv],h3⟩
 intro x tF x5 Sw
 have hnb:∀y∈ZI m,y∉[x,x5]:=λy hy hm=>by
  have:=(h.lt y hy).2;simp only[Ij,List.not_mem_nil,or_false] at hm;rcases hm with rfl | rfl <;> omega
 have wB:∀y∈[x,x5],w.heap.size<=y:=λy hm=>by
  simp only[Ij,List.not_mem_nil,or_false] at hm;rcases hm with rfl | rfl <;> assumption
 refine XC b.Ry.length 0 rfl (λk w1=>k<=b.Ry.length/\Z5 base w1 { b with Ry:=List.replicate k false++b.Ry.drop k } m/\Q0 (ZI m) w w1) (λw1 S4 _=>⟨Ie _,by simpa using h.WG S4,S4.of_nil⟩) λk w1 hs ⟨hk,hO,hX⟩=>⟨λIT=>?_,λRN=>?_⟩
 ·have IT:=Ot IT;have hlen:(List.replicate k false++b.Ry.drop k).length=b.Ry.length:=by simp; omega
  have e1:=hO.B01 (c:=(k:Int)) Qo (by show (k:Int)<((List.replicate k false++b.Ry.drop k).length:Int); rw[hlen]; exact IT) false;have e2:({ b with Ry:=(List.replicate k false++b.Ry.drop k).set k false }:Js)={ b with Ry:=List.replicate (k+1) false++b.Ry.drop (k+1) }:=by rw[zm6 _ _ Qo]
  have Wg:=hO.Ry.ix (i:=(k:Int)) Qo (by show (k:Int)<((List.replicate k false++b.Ry.drop k).length:Int); rw[hlen]; exact IT);have vR:=hO.Ry.wr Ys.len (bs:=[x,x5]) (λy hy=>hnb y (Iy _ hy)) (i:=(k:Int)) Qo (by show (k:Int)<((List.replicate k false++b.Ry.drop k).length:Int); rw[hlen]; exact IT) (j:=0) (n:=1) Qd;refine⟨by rw[<-hlen]; exact Wg,vR,⟨Qo,Qo⟩,λw2 R3 _=>Qp Qo ⟨Qo,?_,(hX.trans (hO.xD _ _)).fresh R3 λy hy=>.inl (wB y hy)⟩⟩;rw[Ih] at e1;have:=(e2▸e1:Z5 base (R8 w1 m.dO (k*1) [.bool false]) { b with Ry:=List.replicate (k+1) false++b.Ry.drop (k+1) } m);exact this.ext (by rw[Ih] at R3; exact R3) hnb
 ·have RN:=Ou RN;have vP:k=b.Ry.length:=Qo;subst vP;rw[List.drop_length,List.append_nil] at hO;exact λw2 R3=>⟨rfl,hO.ext R3 hnb,hX.fresh R3 λy hy=>.inl (wB y hy)⟩
theorem k9{p:Int}(h:0<=p):0<=ZC 20 p/\ZC 20 p<=p:=by unfold ZC; split <;> omega
theorem JR{op:zxd}(hb:UP b)(h1:znf [] w m.lO b.locals)(h2:ztv [] w m.dO b.Ry) :
  Cz Yu #[.agg (QZ b m).toArray,.agg (zr2 op).toArray] w λe w'=>∃p,e=.returned (.tuple #[.agg (QZ (ZE b op).1 p).toArray,I (ZE b op).2])/\Z5 w.heap.size w' (ZE b op).1 p/\Q0 [] w w':=by
 refine(zfe b.IY b.RJ b.Sy m.lO b.locals.length m.lC m.dO b.Ry.length m.dC op.kind op.pK op.n (R:=λv w'=>∃p,v=.tuple #[.agg (QZ (ZE b op).1 p).toArray,I (ZE b op).2]/\Z5 w.heap.size w' (ZE b op).1 p/\Q0 [] w w') ?_).mono λe w' ⟨v,he,p,hv,h3⟩=>⟨p,by rw[he,hv],h3⟩
 have hm9:=Zo;have hl2:=hb.l2;have hdl:=hb.dl;have q1:=hb.q1;have q2:=hb.q2;have p1:=hb.p1;have p2:=hb.p2;have s1':=hb.s1;have s2':=hb.s2;intro x tF x5 Sw x6 bJ;have hok:=D5 (bs:=[]) h1 h2 Qo;rw[Qj.2 hb] at hok;refine⟨true,hok,λh=>by simp at h,λ_ J' S4 dE=>?_⟩;have t1:=((((Sc.start w).add tF).add Sw).add bJ).R6 S4;refine(Fk (h1.ext S4) (h2.ext S4) hdl Qo).mono λe wv ⟨p,he,hO,cX⟩=>⟨_,_,_,_,_,_,_,_,_,he,Qe cX dE,λg4=>?_,λg4=>?_⟩
 ·have g4:op.kind=4:=by simpa using g4
  have t2:=t1.R6 cX;have hbl:∀y∈[x,x5,x6],y<J'.heap.size:=dE;refine λO' R3 Wc=>⟨_,_,_,_,Kd Y3 P6 b.Ry.length Qo Qo O',Qe (Z8 _ _) Wc,λRu Ra fX=>?_⟩
  have hLo:=(V7 (enc:=Jd) Y3.len Qb b.Ry.length (0:Int) O').ext Ra λy hy hm=>by
   have:y=O'.heap.size:=by simpa[QD] using hy
   have:=Wc y hm;omega
  have hD3:Ud PR 1 Y6 J'.heap.size Ru p.dO p.dC b.Ry:=((hO.CW7 R3 hbl).WG (Z8 O' _)).CW7 Ra hbl |>.Ry
  have C44:J'.heap.size<=O'.heap.size:=IB cX.size R3.size;have hB3:Z5 J'.heap.size Ru { b with locals:=List.replicate b.Ry.length 0 } ⟨some ⟨O'.heap.size,0,none⟩,b.Ry.length,p.dO,p.dC,none,0⟩:=⟨hLo.mono C44,hD3⟩;have t3:=((t2.step R3).R6 (Z8 O' (.cells ((List.replicate b.Ry.length (0:Int)).flatMap Jd).toArray Qb))).step Ra;have hw:=Fl (b:=⟨b.IY,b.IY,0,List.replicate b.Ry.length 0,b.Ry⟩) (m:=⟨some ⟨O'.heap.size,0,none⟩,b.Ry.length,p.dO,p.dC,none,0⟩) (base:=J'.heap.size) ⟨hB3.loc,hB3.Ry⟩ (by show b.Ry.length<=_; omega);simp only[QZ,List.length_replicate] at hw;refine I4 hw λe w4 ⟨he4,hO4,lB⟩=>⟨_,_,_,_,_,_,_,_,_,he4,λy hm=>lB.block y (fX y hm) λgE=>?_,λRC SZ=>⟨⟨some ⟨O'.heap.size,0,none⟩,b.Ry.length,p.dO,p.dC,none,0⟩,?_,?_,?_⟩⟩
  ·have:=(hB3.lt y gE).1;have:=dE y hm;omega
  ·have:ZE b op=(Jt b,0):=by unfold ZE; rw[E' g4]
   rw[this]; simp[QZ,Jt]
  ·have:ZE b op=(Jt b,0):=by unfold ZE; rw[E' g4]
   rw[this]
   exact(Z5.mono ⟨hO4.loc,hO4.Ry⟩ S4.size).ext SZ λy hy hm=>by
    have:=(hB3.lt y hy).1;have:=dE y hm;omega
  ·exact((t3.call lB λy hy=>IB S4.size (hB3.lt y hy).1).step SZ).ext
 ·have g4:¬op.kind=4:=by simpa using g4
  have t2:=t1.R6 cX
  have hbl:∀y∈ZI p,y∉[x,x5,x6]:=λy hy hm=>by
   have:=(hO.lt y hy).1;have:=dE y hm;omega
  have hO0:Z5 w.heap.size wv b p:=hO.mono S4.size
  have fin:∀{b':Js} {c:Int} {w1 w2:Wo},ZE b op=(b',c)->Z5 w.heap.size w1 b' p->Q0 (ZI p) wv w1->Q0 [x,x5,x6] w1 w2->Z5 w.heap.size w2 (ZE b op).1 p/\Q0 [] w w2:=λe hB hX hx=>by
   rw[e];exact⟨hB.ext hx hbl,((t2.call hX λy hy=>(hO0.lt y hy).1).step hx).ext⟩
  have wC:znf [x,x5,x6] wv p.lO b.locals:=hO.loc.rd Y3.len λy hy=>hbl y (Ib _ hy)
  refine⟨⟨Qo,Qo⟩,_,Qr,λg5 wr hx=>⟨p,?_,fin (b':=b) (c:=1) ?_ hO0 (Q0.refl _ _) hx⟩,λg5=>?_⟩
  ·have:ZE b op=(b,1):=by unfold ZE; rw[C' g4,E' (by simpa using g5)]
   rw[this]; rfl
  ·unfold ZE; rw[C' g4,E' (by simpa using g5)]
  have g5':YJ op.pK 0 ((b.locals.length:Int)-1)=true:=by simpa using g5
  have fQ:ZE b op=if op.kind=1 then Y5 b op.pK else if op.kind=2 then XD b op.pK op.n else if op.kind=3 then (ZX b op.pK,0) else (b,1):=by
   unfold ZE; rw[C' g4,C' (by rw[g5']; decide)]
  obtain⟨c0,c1⟩:=Qt.1 g5';have c1:op.pK<(b.locals.length:Int):=Qo;have he':=hb.each _ c0 c1;have Wg:=wC.ix Jy c0 c1;have hwL:Yk [x,x5,x6] wv p.lO (Int.toNat op.pK*1) 1:=hO.loc.wr Y3.len (λy hy=>hbl y (Ib _ hy)) c0 c1 (j:=0) Qd;refine⟨λg6=>?_,λg6=>?_⟩
  ·have g6:op.kind=1:=by simpa using g6
   rw[E' g6] at fQ;refine⟨Wg,_,wC _ c0 c1,λg7 wr hx=>⟨p,?_,fin (b':=b) (c:=0) ?_ hO0 (Q0.refl _ _) hx⟩,λg7=>?_⟩
   ·rw[fQ]; unfold Y5; rw[E' (Ot g7)]; rfl
   ·rw[fQ]; unfold Y5; rw[E' (Ot g7)]
   have g7:=Ou g7;have ht:Y5 b op.pK=(⟨b.IY,b.RJ-ZC 20 b.RJ,b.Sy,b.locals.set op.pK.toNat (ZC 20 b.RJ),b.Ry.set op.pK.toNat (ZC 20 b.RJ==0)⟩,if ZC 20 b.RJ=0 then 2 else 0):=by unfold Y5; rw[C' g7]
   rw[ht] at fQ;have hm:=k9 p1;have e1:=hO0.eI c0 c1 (ZC 20 b.RJ);have e2:=e1.B01 (c:=op.pK) c0 (by show op.pK<(b.Ry.length:Int); omega) (ZC 20 b.RJ==0);have hX:=(hO0.xL (Int.toNat op.pK*1) [I (ZC 20 b.RJ)]).trans (e1.xD (Int.toNat op.pK*1) [.bool (ZC 20 b.RJ==0)]);refine⟨_,JF,⟨Qo,Qo⟩,Wg,hwL,e1.Ry.ix c0 (by show op.pK<(b.Ry.length:Int); omega),e1.Ry.wr Ys.len (λy hy=>hbl y (Iy _ hy)) c0 (by show op.pK<(b.Ry.length:Int); omega) (j:=0) Qd,λg8 wr hx=>⟨p,?_,fin fQ ⟨e2.loc,e2.Ry⟩ hX hx⟩,λg8 wr hx=>⟨p,?_,fin fQ ⟨e2.loc,e2.Ry⟩ hX hx⟩⟩
   ·rw[fQ,E' (by simpa using g8)]; simp[QZ]
   ·rw[fQ,C' (by simpa using g8)]; simp[QZ]
  ·have g6:¬op.kind=1:=by simpa using g6
   rw[C' g6] at fQ;refine⟨λg7=>?_,λg7=>?_⟩
   ·have g7:op.kind=2:=by simpa using g7
    rw[E' g7] at fQ;refine⟨λ_=>Wg,_,λ_=>wC _ c0 c1,λg8 wr hx=>⟨p,?_,fin (b':=b) (c:=3) ?_ hO0 (Q0.refl _ _) hx⟩,λg8=>?_⟩
    ·rw[fQ]; unfold XD; rw[E' (by simpa using g8)]; rfl
    ·rw[fQ]; unfold XD; rw[E' (by simpa using g8)]
    have g8':¬(op.n<1\/op.n>gi b.locals op.pK):=by simpa using g8
    have ht:XD b op.pK op.n=({ b with Sy:=b.Sy+op.n,locals:=b.locals.set op.pK.toNat (gi b.locals op.pK-op.n) },0):=by unfold XD; rw[C' g8']
    rw[ht] at fQ;have e1:=hO0.eI c0 c1 (gi b.locals op.pK-op.n);refine⟨Wg,_,wC _ c0 c1,⟨Qo,Qo⟩,Wg,hwL,⟨Qo,Qo⟩,λwr hx=>⟨p,?_,fin fQ ⟨e1.loc,e1.Ry⟩ (hO0.xL _ _) hx⟩⟩;rw[fQ]; simp[QZ]
   ·have g7:¬op.kind=2:=by simpa using g7
    rw[C' g7] at fQ;refine⟨λg8=>?_,λg8 wr hx=>⟨p,?_,fin (b':=b) (c:=1) ?_ hO0 (Q0.refl _ _) hx⟩⟩
    ·have g8:op.kind=3:=by simpa using g8
     rw[E' g8] at fQ;have e1:=hO0.eI c0 c1 0;refine⟨Wg,_,wC _ c0 c1,⟨Qo,Qo⟩,Wg,hwL,λg9 wr hx hs=>?_,λg9 wr hx=>⟨p,?_,fin fQ ?_ (hO0.xL _ _) hx⟩⟩
     ·have g9:=Ot g9;have e2:Z5 w.heap.size wr ⟨b.IY,b.RJ+gi b.locals op.pK,b.Sy,b.locals.set op.pK.toNat 0,b.Ry⟩ p:=Z5.ext ⟨e1.loc,e1.Ry⟩ hx hbl;have hw:=Fl e2 (by show b.Ry.length<=_; omega);simp only[QZ,H'] at hw;refine I4 hw λe w4 ⟨he4,hO4,lB⟩=>⟨_,_,_,_,_,_,_,_,_,he4,λy hm=>lB.block y (hs y hm) λgE=>hbl y gE hm,λRC SZ=>⟨p,?_,?_,?_⟩⟩
      ·rw[fQ]; simp[QZ,ZX,E' g9]
      ·rw[fQ];have:ZX b op.pK=⟨b.IY,b.RJ+gi b.locals op.pK,b.Sy,b.locals.set op.pK.toNat 0,List.replicate b.Ry.length false⟩:=by unfold ZX; rw[E' g9]
       rw[this];exact Z5.ext ⟨hO4.loc,hO4.Ry⟩ SZ hbl
      ·exact((((t2.call (hO0.xL _ _) λy hy=>(hO0.lt y hy).1).step hx).call lB λy hy=>(hO0.lt y hy).1).step SZ).ext
     ·have g9:=Ou g9;rw[fQ]; simp[QZ,ZX,C' g9]
     ·have g9:=Ou g9;have:ZX b op.pK=⟨b.IY,b.RJ+gi b.locals op.pK,b.Sy,b.locals.set op.pK.toNat 0,b.Ry⟩:=by unfold ZX; rw[C' g9]
      rw[this];exact⟨e1.loc,e1.Ry⟩
    ·rw[fQ,C' (by simpa using g8)]; rfl
    ·rw[fQ,C' (by simpa using g8)]
end
section
variable {base:Nat}{W:Q7}{m:MW}{w:Wo}
theorem Yw{w:Wo}{x x1:Nat}(h:w.heap.size<=x)(h1:w.heap.size<=x1):∀y∈[x,x1],w.heap.size<=y:=λy hm=>by
 simp only[Ij,List.not_mem_nil,or_false] at hm;rcases hm with rfl | rfl <;> assumption
theorem Mv.two{n:Nat}(h:Zj n base w W m){x x1:Nat}(hx:w.heap.size<=x)(S4:w.heap.size<=x1):Mv n base [x,x1] w m w W m:=((Mv.start h).add hx).add S4
theorem NE{n:Nat}{m:MW}{w:Wo}{k:Nat}{vs:List Va}:Q0 (QC n m) w (R8 w m.cO k vs):=Ub λa ha=>N9 (by rw[ha]; simp[QD])
theorem L8{n:Nat}{m:MW}{w:Wo}{k:Nat}{vs:List Va}:Q0 (QC n m) w (R8 w m.tO k vs):=Ub λa ha=>Nb (by rw[ha]; simp[QD])
theorem FV{n:Nat}{m:MW}{w:Wo}{k:Nat}{vs:List Va}:Q0 (QC n m) w (R8 w m.gO k vs):=Ub λa ha=>Na (by rw[ha]; simp[QD])
theorem NF{n:Nat}{m:MW}{w:Wo}{i k:Nat}{vs:List Va}(hi:i<n):Q0 (QC n m) w (R8 w (m.ms i).sO k vs):=Ub λa ha=>J2 hi (by simp[Qm,QD,ha])
theorem zzf{n:Nat}{m:MW}{w:Wo}{i k:Nat}{vs:List Va}(hi:i<n):Q0 (QC n m) w (R8 w (m.ms i).lO k vs):=Ub λa ha=>J2 hi (by simp[Qm,QD,ha])
theorem z2t{n:Nat}{m:MW}{w:Wo}{i k:Nat}{vs:List Va}(hi:i<n):Q0 (QC n m) w (R8 w (m.ms i).dO k vs):=Ub λa ha=>J2 hi (by simp[Qm,QD,ha])
theorem zpg{n:Nat}{bs:List Nat}(h:Zj n base w W m)(hd:∀x∈QC n m,x∉bs){i:Int}(h0:0<=i)(h1:i<(W.IE.length:Int)){j k:Nat}(hj:j+k<=5):Yk bs w m.cO (Int.toNat i*5+j) k:=h.c.wr KT.len (λb hb=>hd b (N9 hb)) h0 h1 hj
theorem zgv{n:Nat}{bs:List Nat}(h:Zj n base w W m)(hd:∀x∈QC n m,x∉bs){i:Int}(h0:0<=i)(h1:i<(W.tasks.length:Int)){j k:Nat}(hj:j+k<=9):Yk bs w m.tO (Int.toNat i*9+j) k:=h.t.wr OX.len (λb hb=>hd b (Nb hb)) h0 h1 hj
theorem zd7{n:Nat}{bs:List Nat}(h:Zj n base w W m)(hd:∀x∈QC n m,x∉bs){i:Int}(h0:0<=i)(h1:i<(n:Int)){j k:Nat}(hj:j+k<=14):Yk bs w m.gO (Int.toNat i*14+j) k:=h.g.row.wr Y7.len (λb hb=>hd b (Na hb)) h0 (by rw[XR,h.len]; exact h1) hj
theorem zzl{n:Nat}{bs:List Nat}(h:Zj n base w W m)(hd:∀x∈QC n m,x∉bs){i c:Int}(h0:0<=i)(h1:i<(n:Int))(c0:0<=c)(c1:c<((gi W.ID i).IF.length:Int)){j k:Nat}(hj:j+k<=5):Yk bs w (m.ms i.toNat).sO (Int.toNat c*5+j) k:=
 (h.each h0 h1).shl.wr VR.len (λb hb=>hd b (J2 (k:=i.toNat) Qo (by simp[Qm]; exact .inr (.inr hb)))) c0 c1 hj
theorem z3v{n:Nat}{bs:List Nat}(h:Zj n base w W m)(hd:∀x∈QC n m,x∉bs){i c:Int}(h0:0<=i)(h1:i<(n:Int))(c0:0<=c)(c1:c<((gi W.ID i).IN.locals.length:Int)){j k:Nat}(hj:j+k<=1):Yk bs w (m.ms i.toNat).lO (Int.toNat c*1+j) k:=
 (h.each h0 h1).loc.wr Y3.len (λb hb=>hd b (J2 (k:=i.toNat) Qo (by simp[Qm]; exact .inl hb))) c0 c1 hj
theorem z3u{n:Nat}{bs:List Nat}(h:Zj n base w W m)(hd:∀x∈QC n m,x∉bs){i c:Int}(h0:0<=i)(h1:i<(n:Int))(c0:0<=c)(c1:c<((gi W.ID i).IN.Ry.length:Int)){j k:Nat}(hj:j+k<=1):Yk bs w (m.ms i.toNat).dO (Int.toNat c*1+j) k:=
 (h.each h0 h1).Ry.wr Ys.len (λb hb=>hd b (J2 (k:=i.toNat) Qo (by simp[Qm]; exact .inr (.inl hb)))) c0 c1 hj
theorem zqt{n:Nat}(h:Zj n base w W m){c:Int}(c0:0<=c)(c1:c<(W.IE.length:Int)) :
  (Zj n base (R8 w m.cO (Int.toNat c*5+1) [I (-1)]) { W with IE:=W.IE.set c.toNat { gi W.IE c with cur := -1 } } m)/\
  Zj n base (R8 (R8 w m.cO (Int.toNat c*5+1) [I (-1)]) m.cO (Int.toNat c*5+2) [I 0]) (RD W c) m:=by
 have e1:=h.AX8 c0 c1 (j:=1) (vs:=[I (-1)]) (x:={ gi W.IE c with cur := -1 }) rfl Qd;refine⟨e1,?_⟩;have hg:gi (W.IE.set c.toNat { gi W.IE c with cur := -1 }) c={ gi W.IE c with cur := -1 }:=by rw[QI _ _ c0 c1 c0,E' rfl]
 have e2:=e1.AX8 c0 (by simpa using c1) (j:=2) (vs:=[I 0]) (x:=J1 (gi W.IE c)) (by rw[hg]; rfl) Qd;rw[List.set_set] at e2;exact e2
theorem ZA{n:Nat}(h:Zj n base w W m){c:Int}(c0:0<=c)(c1:c<(W.IE.length:Int)) :
  Cz Ze #[.agg (Qa W m).toArray,I c] w λe w'=>e=.returned (.agg (Qa (RD W c) m).toArray)/\Mv n base [] w m w' (RD W c) m:=by
 refine(zjd _ _ _ _ _ _ _ _ _ _ c (R:=λv w'=>v=.agg (Qa (RD W c) m).toArray/\Mv n base [] w m w' (RD W c) m) ?_).mono λe w' ⟨v,he,hv,h3⟩=>⟨by rw[he,hv],h3⟩
 intro x hx x1 S4;obtain⟨e1,e2⟩:=zqt h c0 c1;have hr:=h.rd (bs:=[]) Qs;refine⟨hr.c.ix ZT c0 c1,zpg h Qs c0 c1 Qd,hr.c.ix ZT c0 c1,zpg e1 Qs c0 (by simpa using c1) Qd,λwr R3=>⟨by simp[Qa,RD,RX],((Mv.start h).SA e2 (NE.trans NE)).R6 R3⟩⟩
theorem zz6{W:Q7}{g c:Int}{s:KL}:Rz W g c s={ W with ID:=W.ID.set g.toNat { gi W.ID g with IF:=(gi W.ID g).IF.set c.toNat s } }:=rfl
theorem Uz{W W':Q7}{m:MW}(h:Fr W W'):Qa W' m=Qa W m:=by
 simp only[Qa,h.n,h.c,h.t,h.g.len]
theorem zi3{gs:List ZN}(ht:Yc gs){k:Int}(hu:Q6 gs k=true):P2 (gs.length+1) gs k 0=dep 3 gs k:=by
 have hp:∀g:Int,g≠0->Q6 gs g=true->Q6 gs (gi gs g).parent=true:=λg hz hu=>(Yd ht hu hz).1
 have hd:0<=dep 3 gs k/\dep 3 gs k<=3:=by
  by_cases hz:k=0
  ·subst hz; rw[Y8]; omega
  ·obtain⟨_,_,_,d,e,_,hd⟩:=Yd ht hu hz;omega
 have hm:=Ge gs 3 gs.length k hd.1 (by rw[ht.len]; omega);rw[Fo hp _ _ _ hu,hm,C' Qo];omega
theorem zcp{F K:Int}{n:Nat}(gI:SF F K W)(h:Zj n base w W m)(hk:F+Qi<=K){k c:Int}(hu:Q6 W.ID k=true)(hn:n=8)(c0:0<=c)(c1:c<(W.IE.length:Int))(s:KL) :
  Zj n base (R8 w (m.ms k.toNat).sO (Int.toNat c*5) (PS s)) (Rz W k c s) m:=by
 obtain⟨u0,u1,_⟩:=Q5.1 hu;have hl:=gI.w.a.gl;have hs:=gI.w.a.sl hu;exact h.BI3 u0 Qo c0 Qo (j:=0) (vs:=PS s) (x:=s) (by simp[PS]) (by simp[PS])
theorem GB{F K:Int}(h:Zj 8 base w W m)(gI:SF F K W)(hk:F+Qi<=K)(hK:K<=1000000000000000000){c:Int}(c0:0<=c)(c1:c<(W.IE.length:Int)) :
  Cz Vm #[.agg (Qa W m).toArray,I c] w λe w'=>e=.returned (.agg (Qa W m).toArray)/\Mv 8 base [] w m w' (QG W c) m:=by
 refine(zbo _ _ _ _ _ _ _ _ _ _ c (R:=λv w'=>v=.agg (Qa W m).toArray/\Mv 8 base [] w m w' (QG W c) m) ?_).mono λe w' ⟨v,he,hv,h3⟩=>⟨by rw[he,hv],h3⟩
 intro x hx x1 S4;have cJ:=gI.w.a.gl
 refine⟨λvs w1=>∃(j:Nat),vs=[I (3-(j:Int))]/\j<=3/\Mv 8 base [x,x1] w m w1 (YV W c j) m,
  λvs _=>(ZW 0 vs).toNat,λwr tF _=>⟨0,rfl,Qd,(Mv.two h hx S4).R6 tF⟩,?_⟩
 rintro d wv hs ⟨j,he,j3,hM⟩;obtain⟨hS,hO⟩:=Hi gI hk c0 c1 j j3;have hN:YV W c (j+1)=Zn (YV W c j) c (3-(j:Int)) 8:=rfl;have hE:j=3->YV W c j=QG W c:=λe=>by rw[e]; rfl
 generalize YV W c j=W1 at hM hS hO hN hE;simp only[I5,I6,true_and,and_true] at he;refine⟨λhd=>?_,λhd=>?_⟩
 ·have hd:=Ot hd;have tA:c<(W1.IE.length:Int):=by rw[hO.c]; exact c1
  refine XC W.ID.length 1 rfl (λk w2=>1<=k/\k<=8/\Mv 8 base [x,x1] w m w2 (Zn W1 c d k) m) (λw2 R3 _=>⟨I8 _,Qd,?_⟩) λk w2 Wc ⟨hk1,hk8,WN⟩=>?_
  ·have e:Zn W1 c d 1=W1:=zsn Qo;rw[e];exact hM.step R3
  obtain⟨pL,oK⟩:=Fp hS hk (c:=c) (d:=d) Qo c0 tA k hk8;have hf2:=hO.trans oK;have e0:Qa (Zn W1 c d k) m=Qa W m:=Uz hf2.fr;have hr:=WN.rd;have sS:(Zn W1 c d k).ID.length=W.ID.length:=hf2.g.len;have AH2:(Zn W1 c d k).IE.length=W.IE.length:=by rw[hf2.c]
  have Wf:Zn W1 c d (k+1)=if (gi (Zn W1 c d k).ID (k:Int)).used=true/\dep 3 (Zn W1 c d k).ID (k:Int)=d then Rz (Zn W1 c d k) (k:Int) c (ZY (Zn W1 c d k) (k:Int) c) else Zn W1 c d k:=rfl;have hN8:k=8->YV W c (j+1)=Zn W1 c d k:=λe=>by rw[hN,<-he,e]
  generalize Zn W1 c d k=W2 at WN pL oK hf2 e0 hr sS AH2 Wf hN8;refine⟨λIT=>?_,λRN=>?_⟩
  ·have IT:=Ot IT;have RM:(k:Int)<(W2.ID.length:Int):=Qo;have hdp:=Mf (g:=(k:Int)) (c:=m.gC) hr.g (by have:=Zo; omega);rw[sS] at hdp;refine⟨by have:=hr.g.ix (i:=(k:Int)) Qo RM; rwa[sS] at this,(gi W2.ID (k:Int)).used,hr.g.used Qo RM,_,λ_=>hdp,λg=>?_,λg=>?_⟩
   ·refine⟨⟨Qo,Qo⟩,λw3 Ra _=>Qp Qo ⟨Qo,Qo,?_⟩⟩;rw[Wf,C']
    ·exact WN.step Ra
    ·rintro⟨h1,h2⟩;have hu:Q6 W2.ID (k:Int)=true:=Q5.2 ⟨Qo,RM,h1⟩;have:=zi3 pL.w.a.tree hu;rw[sS] at this;rw[this,h1,h2] at g;simp at g
   ·simp only[I0,I7,bne_eq_false_iff_eq] at g;have hu:Q6 W2.ID (k:Int)=true:=Q5.2 ⟨Qo,RM,g.1⟩;have hdk:=zi3 pL.w.a.tree hu;rw[sS,g.2] at hdk;rw[E' ⟨g.1,hdk.symm⟩] at Wf;have hsl:=pL.w.a.sl hu;have hz:(k:Int)≠0:=Qo;have hp:=pL.w.a.up hu hz;obtain⟨p0,p1,_⟩:=Q5.1 hp;have hpl:=pL.w.a.sl hp;have s1:=pL.w.s _ c hu c0 Qo;have s2:=pL.w.s _ c hp c0 Qo;have lc:=ZU ((Qc W2 (k:Int) c).v-(Qc W2 (gi W2.ID (k:Int)).parent c).floor) (Qc W2 (k:Int) c).w;have lm:=ZQ (Qc W2 (k:Int) c).w;have Wg:Ix m.gO W.ID.length (k:Int):=by have:=hr.g.ix (i:=(k:Int)) Qo RM; rwa[sS] at this
    have AM8:=(hr.g.IF (k:Int) Qo RM).ix ZZ c0 Qo;have A70:=Po (g:=(k:Int)) hr pL.w.a c0 Qo;have Bi3:=KX (g:=(k:Int)) hr pL.w.a hu c0 Qo;rw[e0] at A70 Bi3;have SY:=λs=>zcp pL WN.own hk hu rfl c0 (c:=c) Qo s
    have BS7:∀{vs:List Va},Q0 (QC 8 m) w2 (R8 w2 (m.ms k).sO (Int.toNat c*5) vs):=λ{vs}=>NF Qo
    have vR:=zzl WN.own WN.nb (i:=(k:Int)) Qo Qo c0 Qo (j:=0) (k:=5) Qd;simp only[Ih] at SY vR AM8;refine⟨Wg,_,_,_,hr.g.RE Qo RM,AM8,_,_,_,_,_,(hr.g.IF (k:Int) Qo RM) c c0 Qo,λb2 dJ=>⟨QV W2 (k:Int) c,A70,Uf W2 (k:Int) c,λ_=>Bi3,λg2=>?_,λg2=>?_⟩⟩
    ·have wD:ZY W2 (k:Int) c=⟨(Qc W2 (k:Int) c).floor,QV W2 (k:Int) c && !Uf W2 (k:Int) c,(Qc W2 (gi W2.ID (k:Int)).parent c).floor+Yh ((Qc W2 (k:Int) c).v-(Qc W2 (gi W2.ID (k:Int)).parent c).floor) (Qc W2 (k:Int) c).w,(Qc W2 (k:Int) c).w,(Qc W2 (k:Int) c).sum⟩:=by
      unfold ZY;rw[E']
      simpa[Qc] using g2
     have SY:=SY (ZY W2 (k:Int) c);rw[wD] at SY;have AH4:Ix m.gO W.ID.length (gi W2.ID (k:Int)).parent:=by have:=hr.g.ix p0 p1; rwa[sS] at this
     refine⟨Wg,_,hr.g.parent Qo RM,AH4,_,_,_,hr.g.RE p0 p1,(hr.g.IF _ p0 p1).ix ZZ c0 Qo,_,zna.f (hr.g.IF _ p0 p1) c0 Qo (j:=0) rfl,⟨by show _<=(Qc W2 (k:Int) c).v-(Qc W2 (gi W2.ID (k:Int)).parent c).floor; omega,by show (Qc W2 (k:Int) c).v-(Qc W2 (gi W2.ID (k:Int)).parent c).floor<=_; omega⟩,_,K9,⟨?_,?_⟩,Wg,_,_,_,hr.g.RE Qo RM,AM8,vR,⟨Qo,Qo⟩,λw3 Ra _=>Qp Qo ⟨Qo,Qo,?_⟩⟩
     ·show -9223372036854775808<=(Qc W2 (gi W2.ID (k:Int)).parent c).floor+Yh ((Qc W2 (k:Int) c).v-(Qc W2 (gi W2.ID (k:Int)).parent c).floor) (Qc W2 (k:Int) c).w;omega
     ·show (Qc W2 (gi W2.ID (k:Int)).parent c).floor+Yh ((Qc W2 (k:Int) c).v-(Qc W2 (gi W2.ID (k:Int)).parent c).floor) (Qc W2 (k:Int) c).w<=9223372036854775807;omega
     ·rw[Wf,wD];exact(WN.SA SY BS7).step Ra
    ·have wD:ZY W2 (k:Int) c=⟨(Qc W2 (k:Int) c).floor,QV W2 (k:Int) c && !Uf W2 (k:Int) c,(Qc W2 (k:Int) c).v,(Qc W2 (k:Int) c).w,(Qc W2 (k:Int) c).sum⟩:=by
      unfold ZY;rw[C'];intro h1;rw[h1.1,show (gi (gi W2.ID (k:Int)).IF c).on=false from h1.2] at g2;cases g2
     have SY:=SY (ZY W2 (k:Int) c);rw[wD] at SY;refine⟨Wg,_,_,_,hr.g.RE Qo RM,AM8,vR,⟨Qo,Qo⟩,λw3 Ra _=>Qp Qo ⟨Qo,Qo,?_⟩⟩;rw[Wf,wD];exact(WN.SA SY BS7).step Ra
  ·have RN:=Ou RN;have hN8:=hN8 Qo;refine⟨⟨Qo,Qo⟩,λw3 Ra _=>⟨⟨j+1,?_,Qo,?_⟩,?_⟩⟩
   ·rw[show d-1=3-((j+1:Nat):Int) by omega]
   ·rw[hN8];exact WN.step Ra
   ·show (d-1).toNat<d.toNat;omega
 ·have hd:=Ou hd;rw[<-hE Qo];exact λw2 R3=>⟨rfl,(hM.step R3).close⟩
end
theorem Oq{n:Nat}{m:MW}{i:Nat}{p:MG}:∀x∈QC n (PG m i p),x∈QC n m\/x∈Qm p:=λx hx=>by
 rcases A2 hx with h | h | h | ⟨k,hk,h⟩
 ·exact .inl (N9 h)
 ·exact .inl (Nb h)
 ·exact .inl (Na h)
 ·simp only[PG] at h
  split at h
  ·exact .inr h
  ·exact .inl (J2 hk h)
theorem Mv.swap{n base:Nat}{bs:List Nat}{w0 w w':Wo}{W W':Q7}{m0 m m':MW}(h:Mv n base bs w0 m0 w W m)(k:Zj n base w' W' m')(hx:Q0 (QC n m) w w')(hm:m'={ m with ms:=m'.ms })(BS7:∀x∈QC n m',x∈QC n m\/(w0.heap.size<=x/\x∉bs)):Mv n base bs w0 m0 w' W' m':=
 ⟨k,h.ext.fresh hx λx hm=>(h.sub x hm).symm,λx hx=>by
  rcases BS7 x hx with h1 | h1
  ·exact h.sub x h1
  ·exact .inr h1.1,by rw[hm,h.hd],λx hx=>by
  rcases BS7 x hx with h1 | h1
  ·exact h.nb x h1
  ·exact h1.2,h.new⟩
section
variable {base:Nat}{W:Q7}{m:MW}{w:Wo}
theorem Cm{K:Int}(h:Zj 8 base w W m)(gI:SW K W)(hK:0<=K){c:Int}(c0:0<=c)(c1:c<(W.IE.length:Int)) :
  Cz Oc #[.agg (Qa W m).toArray,I c] w λe w'=>e=.returned (.agg (Qa W m).toArray)/\Mv 8 base [] w m w' (Za W c) m:=by
 refine(C3 _ _ _ _ _ _ _ _ _ _ c (R:=λv w'=>v=.agg (Qa W m).toArray/\Mv 8 base [] w m w' (Za W c) m) ?_).mono λe w' ⟨v,he,hv,h3⟩=>⟨by rw[he,hv],h3⟩
 intro x hx x1 S4;have cJ:=gI.a.gl;refine XC W.ID.length 0 rfl (λk w2=>k<=8/\Mv 8 base [x,x1] w m w2 (QS W c k) m) (λw2 R3 _=>⟨Qd,(Mv.two h hx S4).R6 R3⟩) λk w2 Wc ⟨hk8,WN⟩=>?_
 obtain⟨pL,oK⟩:=PH gI hK c0 c1 k hk8;have e0:Qa (QS W c k) m=Qa W m:=Uz oK.fr;have hr:=WN.rd;have sS:(QS W c k).ID.length=W.ID.length:=oK.g.len;have AH2:(QS W c k).IE.length=W.IE.length:=by rw[oK.c]
 have Wf:QS W c (k+1)=if (gi (QS W c k).ID (k:Int)).used=true/\Zw (QS W c k) (k:Int) c 20=true/\Z3 (QS W c k) (k:Int) c 20>(Qc (QS W c k) (k:Int) c).floor then Rz (QS W c k) (k:Int) c (DI (QS W c k) (k:Int) c) else QS W c k:=rfl;have hN8:k=8->Za W c=QS W c k:=λe=>by rw[e]; rfl
 generalize QS W c k=W2 at WN pL oK e0 hr sS AH2 Wf hN8;refine⟨λIT=>?_,λRN=>?_⟩
 ·have IT:=Ot IT;have RM:(k:Int)<(W2.ID.length:Int):=Qo;have Wg:Ix m.gO W.ID.length (k:Int):=by have:=hr.g.ix (i:=(k:Int)) Qo RM; rwa[sS] at this
  refine⟨Wg,(gi W2.ID (k:Int)).used,hr.g.used Qo RM,λg=>?_,λg=>?_⟩
  ·refine⟨⟨Qo,Qo⟩,λw3 Ra _=>Qp Qo ⟨Qo,?_⟩⟩;rw[Wf,C' (λh1=>by rw[h1.1] at g; cases g)];exact WN.step Ra
  ·have g:(gi W2.ID (k:Int)).used=true:=by simpa using g
   have hu:Q6 W2.ID (k:Int)=true:=Q5.2 ⟨Qo,RM,g⟩;have hsl:=pL.a.sl hu;have hle:=GA (g:=(k:Int)) hr pL.a c0 Qo;rw[e0] at hle;have wD:=hr.g.IF (k:Int) Qo RM;have AM8:=wD.ix ZZ c0 Qo;have vR:=zzl WN.own WN.nb (i:=(k:Int)) Qo Qo c0 Qo (j:=0) (k:=1) Qd;have SY:=WN.own.BI3 (i:=(k:Int)) Qo Qo c0 Qo (j:=0) (vs:=[I (Z3 W2 (k:Int) c 20)]) (x:=DI W2 (k:Int) c) rfl Qs;rw[<-zz6] at SY;have BS7:Q0 (QC 8 m) w2 (R8 w2 (m.ms k).sO (Int.toNat c*5+0) [I (Z3 W2 (k:Int) c 20)]):=NF Qo;simp only[Ih] at vR AM8 SY;refine⟨_,_,hle,λ_=>Wg,_,_,_,λ_=>hr.g.RE Qo RM,λ_=>AM8,_,λ_=>zna.f wD c0 Qo (j:=0) rfl,λg2=>?_,λg2=>?_⟩
   ·refine⟨Wg,_,_,_,hr.g.RE Qo RM,AM8,vR,⟨Qo,Qo⟩,λw3 Ra _=>Qp Qo ⟨Qo,?_⟩⟩;rw[Wf,E' ⟨g,by simpa[Qc] using g2⟩];exact(WN.SA SY BS7).step Ra
   ·refine⟨⟨Qo,Qo⟩,λw3 Ra _=>Qp Qo ⟨Qo,?_⟩⟩;rw[Wf,C']
    ·exact WN.step Ra
    ·rintro⟨_,h1,h2⟩;rw[h1,show decide (Z3 W2 (k:Int) c 20>(gi (gi W2.ID (k:Int)).IF c).floor)=true from Ii h2] at g2;cases g2
 ·have RN:=Ou RN;rw[hN8 Qo];exact λw3 Ra=>⟨rfl,(WN.step Ra).close⟩
theorem Ld.Ci1{bs:List Nat}{w:Wo}{gs:List ZN}{ms:Nat->MG}{o:OA}(h:Ld bs w o gs ms){i:Int}(h0:0<=i)(h1:i<(gs.length:Int)):Q1 bs w o (Int.toNat i*14+8+3) [.slice (ms i.toNat).lO (gi gs i).IN.locals.length (ms i.toNat).lC]:=(h.cells i h0 h1).get 11 _ rfl
theorem Ld.quo{bs:List Nat}{w:Wo}{gs:List ZN}{ms:Nat->MG}{o:OA}(h:Ld bs w o gs ms){i:Int}(h0:0<=i)(h1:i<(gs.length:Int)):Q1 bs w o (Int.toNat i*14+8+0) [I (gi gs i).IN.IY]:=(h.cells i h0 h1).get 8 _ rfl
def TL(m:MG)(p:MG):MG:=⟨p.lO,p.lC,p.dO,p.dC,m.sO,m.sC⟩
theorem On{m p:MG}:∀x∈Qm (TL m p),x∈ZI p\/x∈Qm m:=λx hx=>by
 simp only[Qm,TL,ZI,Io] at hx ⊢;rcases hx with (h | h) | h
 ·exact .inl (.inl h)
 ·exact .inl (.inr h)
 ·exact .inr (.inr h)
theorem Zj.B97{n:Nat}(h:Zj n base w W m){i:Int}(h0:0<=i)(hi:i<(n:Int)){b:Js}{p:MG}(hb:Z5 base w b p)(hn:∀x∈ZI p,x∉QC n m) :
  Zj n base (R8 w m.gO (Int.toNat i*14+8) (QZ b p)) (RP W i b) (PG m i.toNat (TL (m.ms i.toNat) p)):=by
 have hm:=h.each h0 hi;refine h.B02 h0 hi (g:={ gi W.ID i with IN:=b }) (p:=TL (m.ms i.toNat) p) ⟨hb.loc,hb.Ry,hm.shl⟩ (λx hx=>?_) rfl (by simp[QZ]);rcases On x hx with h1 | h1
 ·exact .inl (hn x h1)
 ·exact .inr h1
theorem zfw{F K:Int}(h:Zj 8 base w W m)(gI:SF F K W)(tN:base<=w.heap.size) :
  Cz M2 #[.agg (Qa W m).toArray] w λe w'=>∃m',e=.returned (.agg (Qa W m).toArray)/\Mv 8 base [] w m w' (Lg W) m':=by
 refine(zfh _ _ _ _ _ _ _ _ _ _ (R:=λv w'=>∃m',v=.agg (Qa W m).toArray/\Mv 8 base [] w m w' (Lg W) m') ?_).mono λe w' ⟨v,he,m',hv,h3⟩=>⟨m',by rw[he,hv],h3⟩
 intro x hx x1 S4;have cJ:=gI.w.a.gl;have CZ8:=gI.w.a.c2;have pQ:=Yw hx S4;refine XC W.ID.length 0 rfl (λk w2=>k<=8/\∃m2,Mv 8 base [x,x1] w m w2 (Ye W k) m2) (λw2 R3 _=>⟨Qd,m,(Mv.two h hx S4).R6 R3⟩) λk w2 Wc ⟨hk8,m2,WN⟩=>?_
 obtain⟨pL,oK⟩:=Tp gI k hk8;have sS:(Ye W k).ID.length=W.ID.length:=oK.g.len;have AH2:(Ye W k).IE.length=W.IE.length:=by rw[oK.c]
 have Wf:Ye W (k+1)=if (gi (Ye W k).ID (k:Int)).used=true/\(gi (Ye W k).ID (k:Int)).IN.IY≠0 then ZR (Ye W k) (k:Int) (Ye W k).IE.length else Ye W k:=rfl;have hN8:k=8->Lg W=Ye W k:=λe=>by rw[e]; rfl
 generalize Ye W k=W2 at WN pL oK sS AH2 Wf hN8;have hmg:m2.gO=m.gO:=by rw[WN.hd]
 have hr:=WN.rd;refine⟨λIT=>?_,λRN=>?_⟩
 ·have IT:=Ot IT;have RM:(k:Int)<(W2.ID.length:Int):=Qo;have Wg:Ix m.gO W.ID.length (k:Int):=by have:=hr.g.ix (i:=(k:Int)) Qo RM; rwa[sS,hmg] at this
  have hru:=hr.g.used (i:=(k:Int)) Qo RM;have hrq:=hr.g.quo (i:=(k:Int)) Qo RM;rw[hmg] at hru hrq;refine⟨Wg,(gi W2.ID (k:Int)).used,hru,λ_=>Wg,_,λ_=>hrq,λg=>?_,λg=>?_⟩
  ·refine⟨⟨Qo,Qo⟩,λw3 Ra _=>Qp Qo ⟨Qo,m2,?_⟩⟩;rw[Wf,C']
   ·exact WN.step Ra
   ·rintro⟨h1,h2⟩;rw[h1] at g;simp[h2] at g
  ·simp only[I0,I7,beq_eq_false_iff_ne] at g;have hu:Q6 W2.ID (k:Int)=true:=Q5.2 ⟨Qo,RM,g.1⟩;rw[E' ⟨g.1,g.2⟩] at Wf;refine XC W.IE.length 0 rfl (λc w3=>c<=W.IE.length/\∃m3,Mv 8 base [x,x1] w m w3 (ZR W2 (k:Int) c) m3) (λw3 Ra _=>⟨Ie _,m2,WN.step Ra⟩) λc w3 fX ⟨hc,m3,hZ⟩=>?_
   obtain⟨hS3,hO3,hq3⟩:=Gs pL hu g.2 c Qo;have Cb3:(ZR W2 (k:Int) c).ID.length=W.ID.length:=by rw[hO3.g.len,sS]
   have CZ7:(ZR W2 (k:Int) c).IE.length=W.IE.length:=by rw[hO3.c,AH2]
   have AC6:ZR W2 (k:Int) (c+1)=if gi (gi (ZR W2 (k:Int) c).ID (k:Int)).IN.locals (c:Int)>0/\QV (ZR W2 (k:Int) c) (k:Int) (c:Int)=false then RP (ZR W2 (k:Int) c) (k:Int) (ZX (gi (ZR W2 (k:Int) c).ID (k:Int)).IN (c:Int)) else ZR W2 (k:Int) c:=rfl;have hN3:c=W.IE.length->Ye W (k+1)=ZR W2 (k:Int) c:=λe=>by rw[Wf,AH2,e]
   have e3:Qa (ZR W2 (k:Int) c) m3=Qa W m:=hZ.AO5 (by rw[hO3.n,oK.n]) CZ7 (by rw[hO3.t,oK.t]) Cb3;have hu3:Q6 (ZR W2 (k:Int) c).ID (k:Int)=true:=by rw[hO3.g.eO]; exact hu
   generalize ZR W2 (k:Int) c=W3 at hZ hS3 hO3 hq3 Cb3 CZ7 AC6 hN3 e3 hu3;have Cd0:m3.gO=m.gO:=by rw[hZ.hd]
   have hr3:=hZ.rd;refine⟨λCc9=>?_,λBw3=>?_⟩
   ·have Cc9:=Ot Cc9;obtain⟨u0,u1,lM⟩:=hS3.w.a.u hu3;obtain⟨hb,hbl,_⟩:=lM.IN hq3;have Aj8:(k:Int)<(W3.ID.length:Int):=Qo;have hrl:=hr3.g.Ci1 (i:=(k:Int)) Qo Aj8;have hrb:=hr3.g.IN (i:=(k:Int)) Qo Aj8;rw[Cd0] at hrl hrb;have hLo:=hr3.g.locals (k:Int) Qo Aj8;have hDo:=hr3.g.Ry (k:Int) Qo Aj8;have A70:=Po (g:=(k:Int)) (c:=(c:Int)) hr3 hS3.w.a Qo Qo;rw[e3] at A70;refine⟨Wg,_,_,_,hrl,hLo.ix Jy Qo Qo,_,hLo (c:Int) Qo Qo,_,λ_=>A70,λg3=>?_,λg3=>?_⟩
    ·simp only[A',Ik,IC] at g3;rw[E' g3] at AC6;refine⟨Wg,_,_,_,_,_,_,_,_,_,hrb,λRu Ra eM=>?_⟩;have iT:=hZ.step Ra;have hr4:=iT.rd0;refine I4 (JR (op:=⟨3,(c:Int),0⟩) hb (hr4.g.locals (k:Int) Qo Aj8) (hr4.g.Ry (k:Int) Qo Aj8)) ?_;rintro e Rr ⟨p,he,hO,hy⟩
     have fQ:ZE (gi W3.ID (k:Int)).IN ⟨3,(c:Int),0⟩=(ZX (gi W3.ID (k:Int)).IN (c:Int),0):=by
      unfold ZE;rw[C' (show ¬(3:Int)=4 by decide),C' (by rw[Qt.2 (by show 0<=(c:Int)/\(c:Int)<=_; omega)]; decide),C' (show ¬(3:Int)=1 by decide),C' (show ¬(3:Int)=2 by decide),E' rfl]
     rw[fQ] at he hO
     dsimp only at he hO
     have hM5:=iT.R6 hy;have hbs:base<=Ru.heap.size:=by have:=iT.ext.size; omega
     have hOb:∀y∈ZI p,Ru.heap.size<=y:=λy hy=>(hO.lt y hy).1
     have BS5:=hM5.own.B97 (i:=(k:Int)) Qo Qo (hO.mono hbs) (λy hy hm=>by have:=hOb y hy; have:=(iT.own.lt y hm).2; omega);have vR:=zd7 hM5.own hM5.nb (i:=(k:Int)) Qo Qo (j:=8) (k:=5) Qd;have nH:=iT.ext.size
     have hM6:=hM5.swap BS5 FV rfl λy hy=>by
      rcases Oq y hy with h1 | h1
      ·exact .inl h1
      ·rcases On y h1 with h2 | h2
       ·have:=hOb y h2;exact .inr ⟨Qo,λhm=>by have:=eM y hm; omega⟩
       ·exact .inl (J2 Qo h2)
     rw[Cd0] at vR hM6;refine⟨_,_,_,_,_,_,_,_,_,_,he,Qe hy eM,λb2 dJ=>⟨Wg,vR,⟨Qo,Qo⟩,λw5 Sw _=>Qp (w1:=w3) Qo ⟨Qo,PG m3 (Int.toNat (k:Int)) (TL (m3.ms (Int.toNat (k:Int))) p),?_⟩⟩⟩;rw[AC6];exact hM6.step Sw
    ·refine⟨⟨Qo,Qo⟩,λw5 Sw _=>Qp Qo ⟨Qo,m3,?_⟩⟩;rw[AC6,C']
     ·exact hZ.step Sw
     ·rintro⟨h1,h2⟩;rw[h2,Ii h1] at g3;cases g3
   ·have Bw3:=Ou Bw3;refine⟨⟨Qo,Qo⟩,λw5 Sw _=>Qp Qo ⟨Qo,m3,?_⟩⟩;rw[hN3 Qo];exact hZ.step Sw
 ·have RN:=Ou RN;rw[hN8 Qo];exact λw3 Ra=>⟨m2,rfl,(WN.step Ra).close⟩
end
section
variable {base:Nat}{W:Q7}{m:MW}{w:Wo}
theorem KW{W W':Q7}(h:Fr W W'):W'.IE.length=W.IE.length/\W'.tasks.length=W.tasks.length/\W'.ID.length=W.ID.length:=⟨h.c,by rw[h.t],h.g.len⟩
theorem zn3{n:Nat}{bs:List Nat}{w0 w:Wo}{W0 W:Q7}{m0 m:MW}(h:Mv n base bs w0 m0 w W m)(hf:Fr W0 W):Qa W m=Qa W0 m0:=h.AO5 hf.n hf.c (by rw[hf.t]) hf.g.len
theorem Qv{K:Int}(h:Zj 8 base w W m)(gI:SW K W)(hK0:0<=K)(hK:K<=100000000000000000)(tN:base<=w.heap.size) :
  Cz Qq #[.agg (Qa W m).toArray] w λe w'=>∃m',e=.returned (.agg (Qa (Qg W) m').toArray)/\Mv 8 base [] w m w' (Qg W) m':=by
 refine(C4 _ _ _ _ _ _ _ _ _ _ (R:=λv w'=>∃m',v=.agg (Qa (Qg W) m').toArray/\Mv 8 base [] w m w' (Qg W) m') ?_).mono λe w' ⟨v,he,m',hv,h3⟩=>⟨m',by rw[he,hv],h3⟩
 intro x hx x1 S4;have cJ:=gI.a.gl;have CZ8:=gI.a.c2;have hm9:=Zo;refine⟨λvs w1=>∃(k:Nat),vs=I (k:Int)::Qa W m/\k<=W.IE.length/\Mv 8 base [x,x1] w m w1 (Yi W k) m,Zs W.IE.length 0,λw1 tF _=>⟨0,rfl,Ie _,(Mv.two h hx S4).R6 tF⟩,?_⟩;rintro c1 l Sd Sn Sr Sj Sp Sq Sf Sg Si Rr Wc ⟨k,he,hk,hM⟩;obtain⟨hS,hO⟩:=Ok (F:=K) (K:=K+Qi) (gI.sf.mono (I3 _) (by simp only[Qi]; omega)) (I3 _) k hk;have Wf:Yi W (k+1)=QG (Yi W k) (k:Int):=rfl;have oM:k=W.IE.length->Yi W W.IE.length=Yi W k:=λe=>by rw[e]
 have e0:=zn3 hM hO.fr;obtain⟨n1,n2,n3⟩:=KW hO.fr;simp only[Qa,I5,I6,Iw,true_and,and_true] at he;obtain⟨rfl,rfl,⟨rfl,rfl,rfl⟩,⟨rfl,rfl,rfl⟩,rfl,rfl,rfl⟩:=he;generalize Yi W k=W1 at hM hS hO Wf oM e0 n1 n2 n3;refine⟨λIT Ru Ra fX=>?_,λRN RQ Sw lV=>?_⟩
 ·have IT:=Ot IT;have hZ:=hM.step Ra;have Rt:=GB hZ.own hS Qo (by simp only[Qi]; omega) (c:=(k:Int)) Qo Qo;rw[e0] at Rt;refine I4 Rt ?_;rintro e S5 ⟨he,hy⟩;refine⟨_,_,_,_,_,_,_,_,_,_,he,hZ.kept hy fX,⟨Qo,Qo⟩,λRC SZ _=>⟨⟨k+1,rfl,Qo,?_⟩,?_⟩⟩
  ·rw[Wf];exact(hZ.call hy fX).step SZ
  ·simp only[Zs,Xg,ZW,Ig]; omega
 ·have RN:=Ou RN;have hkk:k=W.IE.length:=Qo;have oM:=oM hkk;have hM5:=hM.step Sw;have hb5:base<=RQ.heap.size:=by have:=hM5.ext.size; omega
  have Rt:=zfw hM5.own hS hb5;rw[e0] at Rt;refine I4 Rt ?_;rintro e2 bV ⟨m4,aE,SJ⟩;obtain⟨hS4,hO4⟩:=Tp hS 8 Qd;have hM6:=hM5.call SJ lV;have SY:Qg W=XS (Lg W1) W.IE.length:=by unfold Qg; rw[oM]
  have hf4:Fr W (Lg W1):=hO.fr.trans hO4.fr;have CY4:SW (K+Qi) (Lg W1):=hS4.w;have Cc4:=KW hf4;generalize Lg W1=W4 at hM6 SY hf4 CY4 Cc4;refine⟨_,_,_,_,_,_,_,_,_,_,aE,hM5.kept SJ lV,λvs w1=>∃(k:Nat) (m1:MW),vs=I (k:Int)::Qa W m/\k<=W.IE.length/\Mv 8 base [x,x1] w m w1 (XS W4 k) m1,Zs W.IE.length 0,λw1 tF _=>⟨0,m4,rfl,Ie _,hM6.step tF⟩,?_⟩;rintro c3 l Sd Sn Sr Sj Sp Sq Sf Sg Si dP hs7 ⟨k,m7,he,hk,wH⟩;obtain⟨hS7,hf7⟩:=KE CY4 (by simp only[Qi]; omega) k Qo;have AS3:XS W4 (k+1)=Vb (XS W4 k) (k:Int):=rfl;have AS5:k=W.IE.length->Qg W=XS W4 k:=λe=>by rw[SY,e]
  have hfW:=hf4.trans hf7;have e7:=zn3 wH hfW;obtain⟨q1,q2,q3⟩:=KW hfW;simp only[Qa,I5,I6,Iw,true_and,and_true] at he;obtain⟨rfl,rfl,⟨rfl,rfl,rfl⟩,⟨rfl,rfl,rfl⟩,rfl,rfl,rfl⟩:=he;generalize XS W4 k=W7 at wH hS7 hf7 AS3 AS5 hfW e7 q1 q2 q3;refine⟨λIT WQ mF hs9=>?_,λRN=>?_⟩
  ·have IT:=Ot IT;have hM9:=wH.step mF;have hk4:(k:Int)<=4:=Qo;have hKb:K+Qi+(k:Int)*Qi+Qi<=1000000000000000000:=by simp only[Qi]; omega
   have tA:(k:Int)<(W7.IE.length:Int):=Qo;have hSF:=hS7.sf.mono (F':=K+Qi+(k:Int)*Qi) (K':=K+Qi+(k:Int)*Qi+Qi) (I3 _) (by simp only[Qi]; omega);have Rt:=GB hM9.own hSF (I3 _) hKb (c:=(k:Int)) Qo tA;rw[e7] at Rt;refine I4 Rt ?_;rintro e4 qW ⟨he4,lB⟩;obtain⟨hS8,hO8⟩:=Hh hSF (I3 _) (c:=(k:Int)) Qo tA;have hM8:=hM9.call lB hs9;refine⟨_,_,_,_,_,_,_,_,_,_,he4,hM9.kept lB hs9,λS9 AD0 oP=>?_⟩;have BR1:=hM8.step AD0;have cZ:Vb W7 (k:Int)=if M7 (Za (QG W7 (k:Int)) (k:Int)) (k:Int)=true then RD (Za (QG W7 (k:Int)) (k:Int)) (k:Int) else Za (QG W7 (k:Int)) (k:Int):=rfl;have c2':(k:Int)<((QG W7 (k:Int)).IE.length:Int):=by rw[hO8.c]; exact tA
   have Bv7:=Cm BR1.own hS8.w (by simp only[Qi]; omega) (c:=(k:Int)) Qo c2';rw[Uz hO8.fr,e7] at Bv7;obtain⟨CK9,CK8⟩:=PH hS8.w (by simp only[Qi]; omega) (c:=(k:Int)) Qo c2' 8 Qd;refine I4 Bv7 ?_;rintro e5 pH ⟨he5,hy5⟩;have Aj6:=BR1.call hy5 oP;have BQ9:=BR1.kept hy5 oP;have Bi4:Fr W (Za (QG W7 (k:Int)) (k:Int)):=(hfW.trans hO8.fr).trans CK8.fr;have tM:SW (K+Qi+(k:Int)*Qi+Qi) (Za (QG W7 (k:Int)) (k:Int)):=CK9;generalize Za (QG W7 (k:Int)) (k:Int)=W11 at Aj6 Bi4 tM cZ;have e11:=zn3 Aj6 Bi4;have B83:m7.cO=m.cO/\m7.tO=m.tO:=by rw[wH.hd]; exact⟨rfl,rfl⟩
   obtain⟨r1,r2,r3⟩:=KW Bi4;have hr:=Aj6.rd;have c3':(k:Int)<(W11.IE.length:Int):=Qo;have rI:=tM.cu (k:Int) Qo c3';have kG:=tM.a.t;have Cb9:=hr.c.ix ZT (i:=(k:Int)) Qo c3';have hrC:=hr.c.f (i:=(k:Int)) Qo c3' (j:=1) rfl
   have hT:(decide ((gi W11.IE (k:Int)).cur>=0))=true->0<=(gi W11.IE (k:Int)).cur/\(gi W11.IE (k:Int)).cur<(W11.tasks.length:Int):=λg=>by
    have:=Ot g;exact⟨this,Qo⟩
   have nV:∀g:(decide ((gi W11.IE (k:Int)).cur>=0))=true,PX [x,x1] YH #[.agg (Qa W m).toArray,I (gi W11.IE (k:Int)).cur] pH (.bool (ZF W11 (gi W11.IE (k:Int)).cur)):=λg=>by
    have:=Vr hr tM.a (hT g).1 (hT g).2 (λhs=>tM.li (hT g).1 (hT g).2 hs)
    rwa[e11] at this
   rw[r1,B83.1] at Cb9;rw[B83.1] at hrC;refine⟨_,_,_,_,_,_,_,_,_,_,he5,BQ9,Cb9,_,hrC,λg=>?_,(Q8 W11 (gi W11.IE (k:Int)).cur).M',λg=>?_,ZF W11 (gi W11.IE (k:Int)).cur,λ_ g=>nV g,λg Sm AT2 AC9=>?_,λg=>?_⟩
   ·have:=hr.t.ix QM (hT g).1 (hT g).2
    rwa[r2,B83.2] at this
   ·have:=hr.t.f (hT g).1 (hT g).2 (j:=2) rfl
    rwa[B83.2] at this
   ·have BR2:=Aj6.step AT2;have Bv8:=ZA BR2.own (c:=(k:Int)) Qo c3';rw[e11] at Bv8;refine I4 Bv8 ?_;rintro e6 dD ⟨he6,hy6⟩;have e12:=Uz (m:=m7) (zbz W11 (k:Int));rw[e11] at e12;rw[e12] at he6;refine⟨_,_,_,_,_,_,_,_,_,_,he6,BR2.kept hy6 AC9,⟨Qo,Qo⟩,λSv wL _=>⟨⟨k+1,m7,rfl,Qo,?_⟩,?_⟩⟩
    ·rw[AS3,cZ,E' (by unfold M7; exact g)];exact(BR2.call hy6 AC9).step wL
    ·simp only[Zs,Xg,ZW,Ig]; omega
   ·refine⟨⟨Qo,Qo⟩,λSv wL _=>⟨⟨k+1,m7,rfl,Qo,?_⟩,?_⟩⟩
    ·rw[AS3,cZ,C' (by unfold M7; rw[g]; decide)];exact Aj6.step wL
    ·simp only[Zs,Xg,ZW,Ig]; omega
  ·have RN:=Ou RN;have AS5:=AS5 Qo;rw[AS5];refine λw9 mF=>⟨m7,?_,(wH.step mF).close⟩
   rw[e7]; rfl
end
theorem Yr{n:Int}{w:Wo}{bs:List Nat}:PX bs Zx #[I n] w (.bool (decide (n<=Qn))):=zgk n λwr hx=>rfl
section
variable {W:Q7}{m:MW}{w:Wo}{bs:List Nat}
theorem Oj(h:Xl bs w W m)(hl:Xz W):PX bs XM #[.agg (Qa W m).toArray] w (.bool (JI (J7 W/\Kg W))):=
 Nq _ _ _ _ _ _ _ _ _ _ λwr hx=>by
  have h:=(h.ext hx).less (cs:=[]) Qs;intro x hx;refine⟨_,Ur h hl.c hl.t hl.g hl.f,_,λ_=>Yr,λg=>LI ?_,λg=>?_⟩
  ·rintro⟨wp,r⟩;rw[show Qy W=true from Qj.2 wp,show decide (W.now<=Qn)=true from Ii r.n] at g;cases g
  ·simp only[I0,I7] at g;have wp:J7 W:=Qj.1 g.1;have Cd6:=Ot g.2;have cJ:=wp.a.gl;have kG:=wp.a.t;have sK:=wp.a.c2;refine XB W.IE.length 0 rfl (λk=>k<=W.IE.length/\∀c:Int,0<=c->c<(k:Int)->(gi W.IE c).busy<=Qn/\(gi W.IE c).idle<=Qn) ⟨Ie _,λc a b=>by omega⟩ λk ⟨hk,hI⟩=>⟨λIT=>?_,λRN=>?_⟩
   ·have IT:=Ot IT;refine⟨h.c.ix ZT Qo IT,_,h.c.f Qo IT (j:=3) rfl,_,Yr,λ_=>h.c.ix ZT Qo IT,_,λ_=>h.c.f Qo IT (j:=4) rfl,_,λ_=>Yr,λg2=>LI ?_,λg2=>⟨⟨Qo,Qo⟩,QE Qo ⟨Qo,λc a b=>?_⟩⟩⟩
    ·rintro⟨_,r⟩;have:=r.c (k:Int) Qo IT;rw[Ii this.1,Ii this.2] at g2;cases g2
    ·by_cases e:c=(k:Int)
     ·subst e;simp only[I0,I7] at g2;exact⟨Ot g2.1,Ot g2.2⟩
     ·exact hI c a Qo
   have RN:=Ou RN;have hC:∀c:Int,0<=c->c<(W.IE.length:Int)->(gi W.IE c).busy<=Qn/\(gi W.IE c).idle<=Qn:=λc a b=>hI c a Qo
   clear hI;refine XB W.tasks.length 0 rfl (λk=>k<=W.tasks.length/\∀t:Int,0<=t->t<(k:Int)->(gi W.tasks t).v<=Qn/\(gi W.tasks t).sum<=Qn/\(gi W.tasks t).used<=Qn) ⟨Ie _,λc a b=>by omega⟩ λk ⟨hk,hI⟩=>⟨λIT=>?_,λRN=>?_⟩
   ·have IT:=Ot IT;have Wg:=h.t.ix QM (i:=(k:Int)) Qo IT;refine⟨Wg,_,h.t.f Qo IT (j:=5) rfl,_,Yr,λ_=>Wg,_,λ_=>h.t.f Qo IT (j:=6) rfl,_,λ_=>Yr,λ_=>Wg,_,λ_=>h.t.f Qo IT (j:=7) rfl,_,λ_=>Yr,λg2=>LI ?_,λg2=>⟨⟨Qo,Qo⟩,QE Qo ⟨Qo,λc a b=>?_⟩⟩⟩
    ·rintro⟨_,r⟩;have:=r.t (k:Int) Qo IT;rw[Ii this.1,Ii this.2.1,Ii this.2.2] at g2;cases g2
    ·by_cases e:c=(k:Int)
     ·subst e;simp only[I0,I7] at g2;exact⟨Ot g2.1.1,Ot g2.1.2,Ot g2.2⟩
     ·exact hI c a Qo
   have RN:=Ou RN;have hT:∀t:Int,0<=t->t<(W.tasks.length:Int)->(gi W.tasks t).v<=Qn/\(gi W.tasks t).sum<=Qn/\(gi W.tasks t).used<=Qn:=λc a b=>hI c a Qo
   clear hI;refine XB W.ID.length 0 rfl (λk=>k<=W.ID.length/\∀j:Int,0<=j->j<(k:Int)->(gi W.ID j).sum<=Qn/\∀c:Int,0<=c->c<((gi W.ID j).IF.length:Int)->(Qc W j c).floor<=Qn/\(Qc W j c).v<=Qn/\(Qc W j c).sum<=Qn) ⟨Ie _,λc a b=>by omega⟩ λk ⟨hk,hI⟩=>⟨λIT=>?_,λRN=>?_⟩
   ·have IT:=Ot IT;have Wg:=h.g.ix (i:=(k:Int)) Qo IT
    have hsl:(gi W.ID (k:Int)).IF.length<=4:=by
     have:=wp.a.grp (k:Int) Qo Qo
     cases hu:(gi W.ID (k:Int)).used with
     | true=>have:=(this.2 hu).len; omega
     | false=>have:=(this.1 hu).l; omega
    refine⟨Wg,_,(h.g.cells (k:Int) Qo IT).get 7 _ rfl,_,Yr,λg2=>LI ?_,λg2=>?_⟩
    ·rintro⟨_,r⟩;have:=r.g (k:Int) Qo IT;rw[Ii this] at g2;cases g2
    have g2:(gi W.ID (k:Int)).sum<=Qn:=by simpa using g2
    have wJ:=h.g.IF (k:Int) Qo IT;refine XB (gi W.ID (k:Int)).IF.length 0 rfl (λq=>q<=(gi W.ID (k:Int)).IF.length/\∀c:Int,0<=c->c<(q:Int)->(Qc W (k:Int) c).floor<=Qn/\(Qc W (k:Int) c).v<=Qn/\(Qc W (k:Int) c).sum<=Qn) ⟨Ie _,λc a b=>by omega⟩ λq ⟨hq,hJ⟩=>⟨Wg,_,_,_,h.g.RE Qo IT,λRM=>?_,λbK=>?_⟩
    ·have RM:=Ot RM;refine⟨Wg,_,_,_,h.g.RE Qo IT,wJ.ix ZZ Qo RM,_,_,_,_,_,wJ (q:Int) Qo RM,λb1 fD=>⟨_,Yr,_,λ_=>Yr,_,λ_=>Yr,λg3=>LI ?_,λg3=>⟨⟨Qo,Qo⟩,QE Qo ⟨Qo,λc a b=>?_⟩⟩⟩⟩
     ·rintro⟨_,r⟩;have:=r.s (k:Int) (q:Int) Qo IT Qo RM;unfold Qc at this;rw[Ii this.1,Ii this.2.1,Ii this.2.2] at g3;cases g3
     ·by_cases e:c=(q:Int)
      ·subst e;simp only[I0,I7] at g3;exact⟨Ot g3.1.1,Ot g3.1.2,Ot g3.2⟩
      ·exact hJ c a Qo
    ·have bK:=Ou bK;refine⟨⟨Qo,Qo⟩,QE Qo ⟨Qo,λj a b=>?_⟩⟩
     by_cases e:j=(k:Int)
     ·subst e;exact⟨g2,λc a b=>hJ c a Qo⟩
     ·exact hI j a Qo
   ·have RN:=Ou RN;exact zm8 ⟨wp,⟨Cd6,hC,hT,λj a b=>(hI j a Qo).1,λj c a b c0 c1=>(hI j a Qo).2 c c0 c1⟩⟩
theorem JS{t:Int}(h:Xl bs w W m)(hl:W.tasks.length<=maxLen):PX bs YT #[.agg (Qa W m).toArray,I t] w (.bool (Yj W t)):=
 zgm _ _ _ _ _ _ _ _ _ _ t λwr hx=>by
  have h:=(h.ext hx).less (cs:=[]) Qs;intro x hx;have:=XF;refine⟨⟨Qo,Qo⟩,_,Qr,λg=>?_,_,λg=>?_,rfl⟩
  ·have:=Qt.1 g;exact h.t.ix QM Qo Qo
  ·have:=Qt.1 g;exact h.t.f Qo Qo (j:=0) rfl
end
structure B6 (base:Nat) (bs:List Nat) (w:Wo) (o:OA) (cap:Nat) (ps:List (ZN×MG)):Prop where
 own:KN base w o cap ps
 nb:∀x∈QD o,x∉bs
 nm:∀i:Int,0<=i->i<(ps.length:Int)->∀x∈Qm (gi ps i).2,x∉bs
section
variable {base:Nat}{bs cs:List Nat}{w w':Wo}{o:OA}{cap:Nat}{ps:List (ZN×MG)}{b:Nat}
theorem B6.lt(h:B6 base bs w o cap ps):(∀x∈QD o,base<=x/\x<w.heap.size)/\∀i:Int,0<=i->i<(ps.length:Int)->∀x∈Qm (gi ps i).2,base<=x/\x<w.heap.size:=⟨h.own.row.lt,λi a b=>(h.own.each i a b).lt⟩
theorem B6.ext(h:B6 base bs w o cap ps)(hx:Q0 cs w w')(h1:∀x∈QD o,x∉cs)(h2:∀i:Int,0<=i->i<(ps.length:Int)->∀x∈Qm (gi ps i).2,x∉cs):B6 base bs w' o cap ps:=
 ⟨⟨h.own.row.ext hx h1,λi a b=>(h.own.each i a b).ext hx (h2 i a b),h.own.dj⟩,h.nb,h.nm⟩
theorem B6.step(h:B6 base bs w o cap ps)(hx:Q0 bs w w'):B6 base bs w' o cap ps:=h.ext hx h.nb h.nm
theorem B6.R6(h:B6 base bs w o cap ps)(hx:Q0 [] w w'):B6 base bs w' o cap ps:=h.ext hx Qs Qs
theorem B6.add(h:B6 base bs w o cap ps)(hb:w.heap.size<=b):B6 base (bs++[b]) w o cap ps:=
 have key:∀x,x<w.heap.size->x∉bs->x∉bs++[b]:=λx hl hx hm=>by
  rcases Io.1 hm with hm | hm
  ·exact hx hm
  ·have:x=b:=by simpa using hm
   omega
 ⟨h.own,λx hx=>key x (h.lt.1 x hx).2 (h.nb x hx),λi a c x hx=>key x (h.lt.2 i a c x hx).2 (h.nm i a c x hx)⟩
theorem B6.put(h:B6 base bs w o cap ps)(hx:Q0 bs w w')(hb:w.heap.size<=b):B6 base (bs++[b]) w' o cap ps:=⟨(h.step hx).own,(h.add hb).nb,(h.add hb).nm⟩
theorem B6.sub(h:B6 base bs w o cap ps)(hs:∀x∈cs,x∈bs):B6 base cs w o cap ps:=⟨h.own,λx hx hm=>h.nb x hx (hs x hm),λi a c x hx hm=>h.nm i a c x hx (hs x hm)⟩
theorem B6.nil(base:Nat)(bs:List Nat)(w:Wo):B6 base bs w none 0 []:=⟨⟨.inl ⟨rfl,rfl,rfl⟩,λi a b=>by simp at b; omega,λi j a b=>by simp at b; omega⟩,by simp[QD],λi a b=>by simp at b; omega⟩
theorem z0s{α:Type}[Inhabited α]{l:List α}{x:α}{i:Int}(h0:0<=i)(h1:i<(l.length:Int)):gi (l++[x]) i=gi l i:=by
 obtain⟨k,rfl⟩:=Int.eq_ofNat_of_zero_le h0;rw[U8 (by simp; omega),U8 Qo,List.getElem_append_left]
theorem zxx{α:Type}[Inhabited α]{l:List α}{x:α}:gi (l++[x]) (l.length:Int)=x:=by
 rw[U8 Qs]; simp
theorem B6.AQ6{p:ZN×MG}{t':TypeId}{fz:Nat×Nat}(h:B6 base bs w o cap ps)(hs:∀x∈bs,x<w.heap.size)(tN:base<=w.heap.size)(hp:Py base w p)(hpb:∀x∈Qm p.2,x∉bs)(hd:∀i:Int,0<=i->i<(ps.length:Int)->∀x∈Qm (gi ps i).2,x∉Qm p.2)(hb:w.heap[b]? = some (.cells (TH p).toArray t' fz))(h1:Zi (TH p)=true)(hl:ps.length<=1048576)(tr:TypeId)(cs:Array Bool) :
  ∃o' nK w',(builtin .append #[QA,QA] tr cs #[.slice o ps.length cap,.slice (some ⟨b,0,none⟩) 1 1]).run Tryz.prog w=.ok (.value (.slice o' (ps++[p]).length nK)) w'/\Q9 bs w w'/\B6 base bs w' o' nK (ps++[p])/\Q0 (QD o) w w':=by
 obtain⟨o2,c2,w2,WH,hk,hO,hx⟩:=Ob.AQ6 Y7 Pp (⟨h.own.row,h.nb⟩:Ob TH 14 QL base bs w o cap ps) hs tN hb h1 hl Qd tr cs;have hlen:(ps++[p]).length=ps.length+1:=Qs
 have BZ5:∀i:Int,0<=i->i<((ps++[p]).length:Int)->(i<(ps.length:Int)/\gi (ps++[p]) i=gi ps i)\/(i=(ps.length:Int)/\gi (ps++[p]) i=p):=λi a b=>by
  by_cases e:i<(ps.length:Int)
  ·exact .inl ⟨e,z0s a e⟩
  ·have:i=(ps.length:Int):=Qo;subst this;exact .inr ⟨rfl,zxx⟩
 refine⟨o2,c2,w2,WH,hk,⟨⟨hO.own,λi a b=>?_,λi j a b c d e=>?_⟩,hO.nb,λi a b=>?_⟩,hx⟩
 ·rcases BZ5 i a b with ⟨hi,hg⟩ | ⟨hi,hg⟩
  ·rw[hg]; exact(h.own.each i a hi).ext hx (XP h.own.row (h.own.each i a hi))
  ·rw[hg]; exact hp.ext hx (XP h.own.row hp)
 ·rcases BZ5 i a b with ⟨hi,hg⟩ | ⟨hi,hg⟩ <;> rcases BZ5 j c d with ⟨hj,hg'⟩ | ⟨hj,hg'⟩
  ·rw[hg,hg']; exact h.own.dj i j a hi c hj e
  ·rw[hg,hg']; exact hd i a hi
  ·rw[hg,hg']; exact λx hx hm=>hd j c hj x hm hx
  ·omega
 ·rcases BZ5 i a b with ⟨hi,hg⟩ | ⟨hi,hg⟩
  ·rw[hg]; exact h.nm i a hi
  ·rw[hg]; exact hpb
end
theorem z2n(g:ZN)(m:MG):Zi (Yt g m)=true:=rfl
theorem Kk{W:Q7}(ha:WA W){k:Int}(k0:0<=k)(k1:k<8):(gi W.ID k).IN.Ry.length=(gi W.ID k).IN.locals.length/\(gi W.ID k).IN.locals.length<=4/\(gi W.ID k).IF.length<=4:=by
 have hg:=ha.grp k k0 k1;have hc:=ha.c2
 cases hu:(gi W.ID k).used with
 | false=>
  have:=hg.1 hu;have hb:=GJ this.b;have:=this.l;omega
 | true=>
  have:=hg.2 hu;have hl:=this.len
  by_cases hq:(gi W.ID k).IN.IY=0
  ·have hb:=GJ (this.none hq).1;omega
  ·have hb:=(this.IN hq).1;have h1:=hb.dl;have h2:=hb.l2;omega
section
variable {W:Q7}{m:MW}{w:Wo}{bs:List Nat}
def TK(W:Q7)(ms:Nat->MG)(k:Nat):List (ZN×MG):=(List.range k).map λ(j:Nat)=>(gi W.ID (j:Int),ms j)
theorem YW(W:Q7)(ms:Nat->MG)(k:Nat):(TK W ms k).length=k:=by simp[TK]
theorem Ho{W:Q7}{ms:Nat->MG}{k:Nat}{i:Int}(h0:0<=i)(h1:i<(k:Int)):gi (TK W ms k) i=(gi W.ID i,ms i.toNat):=by
 obtain⟨j,rfl⟩:=Int.eq_ofNat_of_zero_le h0;rw[U8 (by rw[YW]; omega)];simp[TK]
theorem zs5(W:Q7)(ms:Nat->MG)(k:Nat)(p:MG):TK W (λj=>if j=k then p else ms j) (k+1)=TK W ms k++[(gi W.ID (k:Int),p)]:=by
 unfold TK;rw[List.range_succ,List.map_append]
 congr 1
 ·refine List.map_congr_left λj hj=>?_
  have:=List.mem_range.1 hj;show (_,if j=k then p else ms j)=_;rw[C' Qo]
 ·simp
theorem PC(h:Xl [] w W m)(ha:WA W) :
  Cz JQ #[.agg (Qa W m).toArray] w λe w'=>∃m',e=.returned (.agg (Qa W m').toArray)/\Zj 8 w.heap.size w' W m'/\Q0 [] w w':=by
 refine(zje _ _ _ _ _ _ _ _ _ _ (R:=λv w'=>∃m',v=.agg (Qa W m').toArray/\Zj 8 w.heap.size w' W m'/\Q0 [] w w') ?_).mono λe w' ⟨v,he,m',hv,h3⟩=>⟨m',by rw[he,hv],h3⟩
 have sK:=ha.c2;have kG:=ha.t;have cJ:=ha.gl;intro x hx x1 S4 x2 R3;have s0:Sc w [x,x1,x2] w:=(((Sc.start w).add hx).add S4).add R3
 refine⟨λvs w1=>∃(i:Nat) (cO:OA) (cC:Nat),vs=[I (i:Int),I W.now,.slice cO (W.IE.take i).length cC,.slice none 0 0,.slice none 0 0]/\i<=W.IE.length/\Sc w [x,x1,x2] w1/\Ob KU 5 Zy w.heap.size [x,x1,x2] w1 cO cC (W.IE.take i),
  Zs W.IE.length 0,λwr hx _=>⟨0,none,0,Qs,Ie _,s0.R6 hx,⟨.inl ⟨rfl,rfl,rfl⟩,by simp[QD]⟩⟩,?_⟩
 rintro c1 l Sd Sn Sr Sj Sp Sq Sf Sg Si Rr Wc ⟨i,cO,cC,he,hi,s1,hC⟩;simp only[I5,I6,Iw,true_and,and_true] at he;obtain⟨rfl,rfl,⟨rfl,rfl,rfl⟩,⟨rfl,rfl,rfl⟩,rfl,rfl,rfl⟩:=he;refine⟨λIT=>?_,λRN=>?_⟩
 ·have IT:=Ot IT;have hr:=h.c.scb s1;refine⟨hr.ix ZT Qo IT,_,_,_,_,_,hr i Qo IT,λb4 hb4=>⟨rfl,λRu Ra fX Ws=>?_⟩⟩;have s2:=s1.put Ra hb4;have hC2:=hC.put Ra hb4;obtain⟨o2,c2,w2,WH,vP,hC3,SJ⟩:=hC2.AQ6 KT Kf (x:=gi W.IE (i:Int)) fX s2.ext.size Ws (z1e _) (by rw[List.length_take]; omega) Qd Zr #[false,false];rw[GY Qo] at WH hC3;have s3:=s2.call SJ λy hm=>(hC2.own.lt y hm).1
  refine⟨_,_,_,w2,WH,vP,⟨Qo,Qo⟩,λw5 Sw _=>⟨⟨i+1,o2,c2,rfl,Qo,(s3.step Sw).sub Qs,(hC3.step Sw).sub Qs⟩,?_⟩⟩;simp only[Zs,Xg,ZW,Ig]; omega
 have RN:=Ou RN;rw[show W.IE.take i=W.IE from List.take_of_length_le Qo] at hC ⊢
 refine⟨λvs w1=>∃(i:Nat) (tO:OA) (tC:Nat),vs=[I (i:Int),I W.now,.slice Sd W.IE.length Sr,.slice tO (W.tasks.take i).length tC,.slice none 0 0]/\i<=W.tasks.length/\Sc w [x,x1,x2] w1/\Ob KU 5 Zy w.heap.size [x,x1,x2] w1 Sd Sr W.IE/\Ob Xa 9 QR w.heap.size [x,x1,x2] w1 tO tC (W.tasks.take i),
  Zs W.tasks.length 0,λwr hx _=>⟨0,none,0,Qs,Ie _,s1.step hx,hC.step hx,⟨.inl ⟨rfl,rfl,rfl⟩,by simp[QD]⟩⟩,?_⟩
 clear hC s1 hi RN Wc;rintro t1 l4 nP jS nO nJ qC nI lW oX nQ fI hs6 ⟨i,tO,tC,he,hi,s1,hC,hT⟩;simp only[I5,I6,Iw,true_and,and_true] at he;obtain⟨rfl,rfl,⟨rfl,rfl,rfl⟩,⟨rfl,rfl,rfl⟩,rfl,rfl,rfl⟩:=he;refine⟨λIT=>?_,λRN=>?_⟩
 ·have IT:=Ot IT;have hr:=h.t.scb s1;refine⟨hr.ix QM Qo IT,_,_,_,_,_,_,_,_,_,hr i Qo IT,λb4 hb4=>⟨rfl,λRu Ra fX Ws=>?_⟩⟩;have s2:=s1.put Ra hb4;have hC2:=hC.put Ra hb4;have hT2:=hT.put Ra hb4;obtain⟨o2,c2,w2,WH,vP,hT3,SJ⟩:=hT2.AQ6 OX Ms (x:=gi W.tasks (i:Int)) fX s2.ext.size Ws (z2o _) (by rw[List.length_take]; omega) Qd Z2 #[false,false];rw[GY Qo] at WH hT3;have s3:=s2.call SJ λy hm=>(hT2.own.lt y hm).1
  have hC3:=hC2.call SJ (hC2.own.Wb hT2.own Qd);refine⟨_,_,_,w2,WH,vP,⟨Qo,Qo⟩,λw5 Sw _=>⟨⟨i+1,o2,c2,rfl,Qo,(s3.step Sw).sub Qs,(hC3.step Sw).sub Qs,(hT3.step Sw).sub Qs⟩,?_⟩⟩;simp only[Zs,Xg,ZW,Ig]; omega
 have RN:=Ou RN;rw[show W.tasks.take i=W.tasks from List.take_of_length_le Qo] at hT ⊢
 refine⟨λvs w1=>∃(i:Nat) (gO:OA) (gC:Nat) (ms:Nat->MG),vs=[I (i:Int),I W.now,.slice nP W.IE.length nO,.slice nJ W.tasks.length nI,.slice gO (TK W ms i).length gC]/\i<=W.ID.length/\Sc w [x,x1,x2] w1/\Ob KU 5 Zy w.heap.size [x,x1,x2] w1 nP nO W.IE/\Ob Xa 9 QR w.heap.size [x,x1,x2] w1 nJ nI W.tasks/\B6 w.heap.size [x,x1,x2] w1 gO gC (TK W ms i),
  Zs W.ID.length 0,λwr hx _=>⟨0,none,0,λ_=>default,by simp[TK],Ie _,s1.step hx,hC.step hx,hT.step hx,B6.nil _ _ _⟩,?_⟩
 clear hC hT s1 hi RN hs6;rintro k1 l22 BE9 Bj7 BE8 BF1 Bj8 BF0 BT5 Bx9 BT4 fA DV9 ⟨i,gO,gC,ms,he,hi,s1,hC,hT,hG⟩;simp only[I5,I6,Iw,true_and,and_true] at he;obtain⟨rfl,rfl,⟨rfl,rfl,rfl⟩,⟨rfl,rfl,rfl⟩,rfl,rfl,rfl⟩:=he;refine⟨λIT=>?_,λRN=>?_⟩
 ·have IT:=Ot IT;have hr:=h.g.ext s1.ext;have hrb:Ld [x,x1,x2] fA m.gO W.ID m.ms:=(h.g.wide (cs:=[x,x1,x2]) λy hm=>.inr (s1.new y hm)).ext s1.ext.of_nil;have Wg:=hrb.ix (i:=(i:Int)) Qo IT;obtain⟨bl1,bl2,bl3⟩:=Kk ha (k:=(i:Int)) Qo Qo;refine⟨Wg,_,_,_,_,_,_,_,_,_,_,_,_,_,_,_,_,_,_,_,_,hrb.cells (i:Int) Qo IT,λmC B73=>⟨Wg,_,_,_,_,_,_,_,_,_,hrb.IN Qo IT,λcW B89 CO2=>?_⟩⟩;have s2:=s1.put B89 B73;have hC2:=hC.put B89 B73;have hT2:=hT.put B89 B73;have hG2:=hG.put B89 B73;have uN:=h.g.ext s2.ext;refine I4 (Fk (uN.locals (i:Int) Qo IT) (uN.Ry (i:Int) Qo IT) bl1 Qo) ?_;rintro e gU ⟨p,he,hB,hy⟩;have s3:=s2.R6 hy;have hC3:=hC2.R6 hy;have hT3:=hT2.R6 hy;have hG3:=hG2.R6 hy;have hBn:∀y∈ZI p,cW.heap.size<=y:=λy hm=>(hB.lt y hm).1
  have hBb:∀y∈ZI p,y∉[x,x1,x2]++[mC]:=λy hm gE=>by
   have:=hBn y hm;have:=CO2 y gE;omega
  refine⟨_,_,_,_,_,_,_,_,_,he,Qe hy CO2,λvs w1=>∃(c:Nat) (sO:OA) (sC:Nat),vs=[I (c:Int),.bool (gi W.ID (i:Int)).used,I (gi W.ID (i:Int)).parent,.string (gi W.ID (i:Int)).name,I (gi W.ID (i:Int)).weight,I (gi W.ID (i:Int)).IE,I (gi W.ID (i:Int)).period,I (gi W.ID (i:Int)).next,I (gi W.ID (i:Int)).sum,I (gi W.ID (i:Int)).IN.IY,I (gi W.ID (i:Int)).IN.RJ,I (gi W.ID (i:Int)).IN.Sy,.slice p.lO (gi W.ID (i:Int)).IN.locals.length p.lC,.slice p.dO (gi W.ID (i:Int)).IN.Ry.length p.dC,.slice sO ((gi W.ID (i:Int)).IF.take c).length sC]/\c<=(gi W.ID (i:Int)).IF.length/\Sc w ([x,x1,x2]++[mC]) w1/\cW.heap.size<=w1.heap.size/\Ob KU 5 Zy w.heap.size ([x,x1,x2]++[mC]) w1 BE9 BE8 W.IE/\Ob Xa 9 QR w.heap.size ([x,x1,x2]++[mC]) w1 BF1 BF0 W.tasks/\B6 w.heap.size ([x,x1,x2]++[mC]) w1 BT5 BT4 (TK W ms i)/\Z5 cW.heap.size w1 (gi W.ID (i:Int)).IN p/\Ob PS 5 YP cW.heap.size ([x,x1,x2]++[mC]) w1 sO sC ((gi W.ID (i:Int)).IF.take c),
   Zs (gi W.ID (i:Int)).IF.length 0,λwr hx _=>⟨0,none,0,Qs,Ie _,s3.step hx,IB hy.size hx.size,hC3.step hx,hT3.step hx,hG3.step hx,hB.ext hx hBb,⟨.inl ⟨rfl,rfl,rfl⟩,by simp[QD]⟩⟩,?_⟩
  have nH:w.heap.size<=cW.heap.size:=s2.ext.size;have CX8:=hG2.lt;clear hB s3 hC3 hT3 hG3 hC2 hT2;rintro c4 l26 l27 l28 l29 l30 l31 l32 l33 l34 l35 l36 BF4 BF3 BF2 BF7 BF6 BF5 A82 BT6 A81 iM DW0 ⟨c,sO,sC,he,hc,s4,hz4,hC4,hT4,hG4,hB4,hS4⟩;simp only[I5,I6,Iw,Value.bool.injEq,Value.string.injEq,true_and,and_true] at he;obtain⟨rfl,rfl,rfl,rfl,rfl,rfl,rfl,rfl,rfl,rfl,rfl,rfl,⟨rfl,rfl,rfl⟩,⟨rfl,rfl,rfl⟩,rfl,rfl,rfl⟩:=he;have CN8:Ld ([x,x1,x2]++[mC]) iM m.gO W.ID m.ms:=(h.g.wide (cs:=[x,x1,x2]++[mC]) λy hm=>.inr (s4.new y hm)).ext s4.ext.of_nil;refine⟨Wg,_,_,_,CN8.RE Qo IT,λRM=>?_,λbK=>?_⟩
  ·have RM:=Ot RM;have wJ:=CN8.IF (i:Int) Qo IT;refine⟨Wg,_,_,_,CN8.RE Qo IT,wJ.ix ZZ Qo RM,_,_,_,_,_,wJ c Qo RM,λsG Bv3=>⟨rfl,λfN BT0 C38 Ws=>?_⟩⟩;have s5:=s4.put BT0 Bv3;have hS5:=hS4.put BT0 Bv3;have Cf9:cW.heap.size<=fN.heap.size:=IB hz4 BT0.size;obtain⟨o2,c2,w2,WH,vP,hS6,SJ⟩:=hS5.AQ6 VR Pq (x:=gi (gi W.ID (i:Int)).IF (c:Int)) C38 Cf9 Ws (z1g _) (by rw[List.length_take]; omega) Qd Z9 #[false,false];rw[GY Qo] at WH hS6;have hG5:=hG4.put BT0 Bv3;have hC5:=hC4.put BT0 Bv3;have hT5:=hT4.put BT0 Bv3;have hB5:=hB4.ext BT0 hBb;have s6:=s5.call SJ λy hm=>IB nH (hS5.own.lt y hm).1
   have hC6:=hC5.call SJ (hC5.own.Wb hS5.own Qd);have hT6:=hT5.call SJ (hT5.own.Wb hS5.own Qd)
   have hG6:=hG5.ext SJ (hG5.own.row.Wb hS5.own Qd) λj a b y hm gE=>by
    have:=(CX8.2 j a b y hm).2;have:=(hS5.own.lt y gE).1;omega
   have Cw0:∀y∈ZI p,y∉[x,x1,x2]++[mC]++[sG]:=λy hm gE=>by
    rcases Io.1 gE with h2 | h2
    ·exact hBb y hm h2
    ·have:y=sG:=by simpa using h2
     have:=(hB4.lt y hm).2;omega
   have hB6:=hB5.ext SJ λy hm=>by
    rcases Io.1 hm with hm | hm
    ·exact hB5.loc.Wb hS5.own Qd y hm
    ·exact hB5.Ry.Wb hS5.own Qd y hm
   refine⟨_,_,_,w2,WH,vP,⟨Qo,Qo⟩,λw5 Sw _=>⟨⟨c+1,o2,c2,rfl,Qo,(s6.step Sw).sub Qs,?_,(hC6.step Sw).sub Qs,(hT6.step Sw).sub Qs,(hG6.step Sw).sub Qs,hB6.ext Sw Cw0,(hS6.step Sw).sub Qs⟩,?_⟩⟩
   ·have:=SJ.size;have:=Sw.size;omega
   ·simp only[Zs,Xg,ZW,Ig]; omega
  ·have bK:=Ou bK;rw[show (gi W.ID (i:Int)).IF.take c=(gi W.ID (i:Int)).IF from List.take_of_length_le Qo] at hS4 ⊢;intro b13 Bv4 fZ Bj4 C39 Ws;have s5:=s4.put Bj4 Bv4;have hG5:=hG4.put Bj4 Bv4;have hC5:=hC4.put Bj4 Bv4;have hT5:=hT4.put Bj4 Bv4;have hB5:=hB4.ext Bj4 hBb;have hS5:=hS4.put Bj4 Bv4
   have CF2:∀y∈Qm ⟨p.lO,p.lC,p.dO,p.dC,A82,A81⟩,cW.heap.size<=y/\y<iM.heap.size:=λy hm=>by
    simp only[Qm,Io] at hm;rcases hm with (hm | hm) | hm
    ·exact hB4.loc.lt y hm
    ·exact hB4.Ry.lt y hm
    ·exact hS4.own.lt y hm
   obtain⟨o2,c2,w2,WH,vP,hG6,SJ⟩:=hG5.AQ6 (p:=(gi W.ID (i:Int),⟨p.lO,p.lC,p.dO,p.dC,A82,A81⟩)) C39 s5.ext.size ⟨(hB5.mono nH).loc,(hB5.mono nH).Ry,hS5.own.mono nH⟩ (λy hm gE=>by
     have h1:=CF2 y hm;rcases Io.1 gE with h2 | h2
     ·have:=CO2 y h2; omega
     ·have:y=b13:=by simpa using h2
      omega) (λj a b y hm gE=>by
     have:=(CX8.2 j a b y hm).2;have:=(CF2 y gE).1;omega) Ws (z2n _ _) (by rw[YW]; omega) QA #[false,false]
   rw[<-zs5] at WH hG6;have s6:=s5.call SJ λy hm=>(hG5.own.row.lt y hm).1
   have hC6:=hC5.call SJ (hC5.own.Wb hG5.own.row Qd);have hT6:=hT5.call SJ (hT5.own.Wb hG5.own.row Qd);refine⟨_,_,_,w2,WH,vP,⟨Qo,Qo⟩,λw5 Sw _=>⟨⟨i+1,o2,c2,_,rfl,Qo,(s6.step Sw).sub Qs,(hC6.step Sw).sub Qs,(hT6.step Sw).sub Qs,(hG6.step Sw).sub Qs⟩,?_⟩⟩;simp only[Zs,Xg,ZW,Ig]; omega
 ·have RN:=Ou RN;have hi8:i=W.ID.length:=Qo;subst hi8;refine λw9 mF=>⟨⟨BE9,BE8,BF1,BF0,BT5,BT4,ms⟩,?_,⟨(hC.step mF).own,(hT.step mF).own,(hG.step mF).own,cJ⟩,(s1.step mF).ext⟩
  rw[YW];rfl
theorem Zh(h:Xl [] w W m)(hl:Xz W) :
  Cz QX #[.agg (Qa W m).toArray] w λe w'=>(Qy W=false/\e=.returned (.tuple #[.agg (Qa KK zw8).toArray,I 1])/\Q0 [] w w')\/(Qy W=true/\∃m',e=.returned (.tuple #[.agg (Qa W m').toArray,I (if QO W=true then 0 else 10)])/\Zj 8 w.heap.size w' W m'/\Q0 [] w w'):=by
 refine(C0 _ _ _ _ _ _ _ _ _ _ (R:=λv w'=>(Qy W=false/\v=.tuple #[.agg (Qa KK zw8).toArray,I 1]/\Q0 [] w w')\/(Qy W=true/\∃m',v=.tuple #[.agg (Qa W m').toArray,I (if QO W=true then 0 else 10)]/\Zj 8 w.heap.size w' W m'/\Q0 [] w w')) ?_).mono λe w' ⟨v,he,h3⟩=>by
  rw[he];rcases h3 with ⟨a,hv,b⟩ | ⟨a,m',hv,b⟩
  ·exact .inl ⟨a,by rw[hv],b⟩
  ·exact .inr ⟨a,m',by rw[hv],b⟩
 intro x hx x1 S4;refine⟨_,Ur h hl.c hl.t hl.g hl.f,λg wr hx=>.inl ⟨by simpa using g,rfl,hx⟩,λg J' R3 dE=>?_⟩;have hW:Qy W=true:=by simpa using g
 have wp:=Qj.1 hW;refine I4 (PC (h.ext R3) wp.a) ?_;rintro e wv ⟨m',he,hM,hy⟩
 have hnb:∀y∈QC 8 m',y∉[x,x1]:=λy hy hm=>by
  have:=(hM.lt y hy).1;have:=dE y hm;omega
 have hro:=Oj (hM.rd hnb) hl;have BC8:∀w2,Q0 [x,x1] wv w2->Zj 8 w.heap.size w2 W m'/\Q0 [] w w2:=λw2 h2=>⟨(hM.mono R3.size).ext h2 hnb,(R3.trans hy).fresh h2 λy hm=>.inl (Yw hx S4 y hm)⟩
 refine⟨_,_,_,_,_,_,_,_,_,_,he,Qe hy dE,_,hro,λg2 w2 h2=>.inr ⟨hW,m',?_,BC8 w2 h2⟩,λg2 w2 h2=>.inr ⟨hW,m',?_,BC8 w2 h2⟩⟩
 ·have:¬QO W=true:=λhr=>by
   rw[show JI (J7 W/\Kg W)=true from Qj.2 ⟨wp,Qj.1 hr⟩] at g2;cases g2
  rw[C' this]; rfl
 ·have hd:JI (J7 W/\Kg W)=true:=by simpa using g2
  have:QO W=true:=Qj.2 (Qj.1 hd).2;rw[E' this]; rfl
end
structure Wk (n:Nat) (bs:List Nat) (w0 w:Wo) (W:Q7) (m:MW):Prop where
 s:Sc w0 bs w
 o:OW n w0.heap.size bs w W m
section
variable {n:Nat}{bs cs:List Nat}{w0 w w':Wo}{W W':Q7}{m m':MW}{b:Nat}
theorem Wk.step(h:Wk n bs w0 w W m)(hx:Q0 bs w w'):Wk n bs w0 w' W m:=⟨h.s.step hx,h.o.step hx⟩
theorem Wk.R6(h:Wk n bs w0 w W m)(hx:Q0 [] w w'):Wk n bs w0 w' W m:=⟨h.s.R6 hx,h.o.R6 hx⟩
theorem Wk.add(h:Wk n bs w0 w W m)(hb:w.heap.size<=b):Wk n (bs++[b]) w0 w W m:=⟨h.s.add hb,h.o.add hb⟩
theorem Wk.sub(h:Wk n bs w0 w W m)(hs:∀x∈cs,x∈bs):Wk n cs w0 w W m:=⟨h.s.sub hs,h.o.sub hs⟩
theorem Wk.rd(h:Wk n bs w0 w W m):Xl bs w W m:=h.o.rd
theorem Wk.own(h:Wk n bs w0 w W m):Zj n w0.heap.size w W m:=h.o.own
theorem Wk.nb(h:Wk n bs w0 w W m):∀x∈QC n m,x∉bs:=h.o.nb
theorem Wk.base(h:Wk n bs w0 w W m):w0.heap.size<=w.heap.size:=h.s.ext.size
theorem Wk.SA(h:Wk n bs w0 w W m)(k:Mv n w0.heap.size [] w m w' W' m')(hs:∀x∈bs,x<w.heap.size):Wk n bs w0 w' W' m':=
 ⟨h.s.call k.ext λx hx=>(h.o.own.lt x hx).1,⟨k.own,λx hx hm=>by
  rcases k.sub x hx with h1 | h1
  ·exact h.o.nb x h1 hm
  ·have:=hs x hm;omega⟩⟩
theorem Wk.kept(h:Wk n bs w0 w W m)(k:Mv n w0.heap.size [] w m w' W' m')(hs:∀x∈bs,x<w.heap.size):Q9 bs w w':=λx hm=>k.ext.block x (hs x hm) λgE=>h.o.nb x gE hm
theorem Wk.R8(h:Wk n bs w0 w W m)(k:Zj n w0.heap.size w' W' m)(hx:Q0 (QC n m) w w'):Wk n bs w0 w' W' m:=⟨h.s.call hx λx hx=>(h.o.own.lt x hx).1,⟨k,h.o.nb⟩⟩
theorem Wk.fin(h:Wk n bs w0 w W m):Zj n w0.heap.size w W m/\Q0 [] w0 w:=⟨h.o.own,h.s.ext⟩
end
def QP(r:Q7×Int)(w:Wo)(v:Va)(w':Wo):Prop:=∃n m',v=.tuple #[.agg (Qa r.1 m').toArray,I r.2]/\Zj n w.heap.size w' r.1 m'/\Q0 [] w w'
theorem Zj.zero(base:Nat)(w:Wo):Zj 0 base w KK zw8:=⟨.inl ⟨rfl,rfl,rfl⟩,.inl ⟨rfl,rfl,rfl⟩,⟨.inl ⟨rfl,rfl,rfl⟩,λi a b=>by simp[zoq,KK] at b; omega,λi j a b=>by simp[zoq,KK] at b; omega⟩,rfl⟩
section
variable {W W':Q7}{m:MW}{w:Wo}{bar:Int}
theorem QP.bad{w':Wo}(hW:Qy W=false)(hx:Q0 [] w w'):QP (YK W bar W') w (.tuple #[.agg (Qa KK zw8).toArray,I 1]) w':=by
 rw[zpr hW];exact⟨0,zw8,rfl,Zj.zero _ _,hx⟩
theorem QP.no{n:Nat}{bs:List Nat}{w':Wo}{m':MW}(hW:Qy W=true)(hb:bar≠0)(hk:Wk n bs w w' W m'){c:Int}(hc:bar=c):QP (YK W bar W') w (.tuple #[.agg (Qa W m').toArray,I c]) w':=by
 rw[zps hW hb,hc];exact⟨n,m',rfl,hk.fin⟩
theorem QP.ok{n:Nat}{bs:List Nat}{w':Wo}{m':MW}(hW:Qy W=true)(hb:bar=0)(hk:Wk n bs w w' W' m'):QP (YK W bar W') w (.tuple #[.agg (Qa W' m').toArray,I 0]) w':=by
 rw[zt6 hW hb];exact⟨n,m',rfl,hk.fin⟩
theorem Wk.begin{x x1:Nat}{wr wv:Wo}{m':MW}(hx:w.heap.size<=x)(S4:w.heap.size<=x1)(R3:Q0 [] w wr)(hs:∀y∈[x,x1],y<wr.heap.size)(hM:Zj 8 wr.heap.size wv W m')(hy:Q0 [] wr wv):Wk 8 [x,x1] w wv W m':=
 ⟨⟨R3.trans hy,Yw hx S4⟩,(OW.of hM hs).mono R3.size⟩
theorem N1{t:Int}(h:Xl [] w W m)(hl:Xz W) :
  Cz Tg #[.agg (Qa W m).toArray,I t] w λe w'=>∃v,e=.returned v/\QP (YK W (T2 W t) (ziz W t)) w v w':=by
 refine BJ _ _ _ _ _ _ _ _ _ _ t (R:=λv w'=>QP (YK W (T2 W t) (ziz W t)) w v w') ?_;intro x hx x1 S4 wr R3 Wc;refine I4 (Zh (h.ext R3) hl) ?_;rintro e wv (⟨hW,he,hy⟩ | ⟨hW,m',he,hM,hy⟩)
 ·exact⟨_,_,_,_,_,_,_,_,_,_,_,he,Qe hy Wc,λ_ J' Ra=>QP.bad hW ((R3.trans hy).fresh Ra λy hm=>.inl (Yw hx S4 y hm)),λg=>by simp at g⟩
 have hK:=Wk.begin hx S4 R3 Wc hM hy;have hr:=hK.rd;refine⟨_,_,_,_,_,_,_,_,_,_,_,he,Qe hy Wc,λg=>by split at g <;> simp at g,λ_=>⟨_,JS hr hl.t,λg O' Ra=>?_,λg=>?_⟩⟩
 ·have g:Yj W t=false:=by simpa using g
  have hb:T2 W t=2:=by unfold T2; rw[E' g]
  exact QP.no hW (by rw[hb]; decide) (hK.step Ra) hb
 have g:Yj W t=true:=by simpa using g
 obtain⟨t0,t1,tn⟩:=X0 g;have Wg:=hr.t.ix QM t0 t1;refine⟨Wg,_,hr.t.f t0 t1 (j:=0) rfl,λg2 Ru Ra=>?_,λg2=>⟨λg3 RC Ra=>?_,λg3=>?_⟩⟩
 ·have g2:(Q8 W t).state≠1:=by simpa[Q8] using g2
  have hb:T2 W t=6:=by unfold T2; rw[C' (by rw[g]; decide),E' g2]
  exact QP.no hW (by rw[hb]; decide) (hK.step Ra) hb
 ·have g2:¬(Q8 W t).state≠1:=by simpa[Q8] using g2
  have bU:¬QO W=true:=λhr=>by rw[E' hr] at g3; simp at g3
  have hb:T2 W t=10:=by unfold T2; rw[C' (by rw[g]; decide),C' g2,E' (by simpa using bU)]
  rw[C' bU];exact QP.no hW (by rw[hb]; decide) (hK.step Ra) hb
 ·have g2:¬(Q8 W t).state≠1:=by simpa[Q8] using g2
  have bU:QO W=true:=Ir λhr=>by rw[C' hr] at g3; simp at g3
  have hb:T2 W t=0:=by unfold T2; rw[C' (by rw[g]; decide),C' g2,C' (by rw[bU]; decide)]
  obtain⟨_,_,sw,sw1⟩:=zkw hW hb;have SY:Zj 8 w.heap.size _ (IU W t { Q8 W t with state:=2 }) m':=hK.own.vV t0 t1 (j:=0) (vs:=[I 2]) (x:={ Q8 W t with state:=2 }) rfl Qs;refine⟨Wg,zgv hK.own hK.nb t0 t1 Qd,λRQ Sw lV=>?_⟩;have dR:=(hK.R8 SY L8).step Sw;have Rt:=Qv dR.own sw1 Qd Qd dR.base;have e5:Qa (IU W t { Q8 W t with state:=2 }) m'=Qa W m':=by simp[Qa,IU]
  rw[e5] at Rt;refine I4 Rt ?_;rintro e1 R4 ⟨m1,gW,cX⟩;exact⟨_,_,_,_,_,_,_,_,_,_,gW,dR.kept cX lV,λSh bJ=>QP.ok hW hb ((dR.SA cX lV).step bJ)⟩
end
theorem KD{α:Type}[Inhabited α]{l:List α}{i:Int}(h0:0<=i)(h1:i<(l.length:Int)):l.set i.toNat (gi l i)=l:=by
 obtain⟨k,rfl⟩:=Int.eq_ofNat_of_zero_le h0;rw[U8 Qo,Ih,List.set_getElem_self]
theorem Ml{W:Q7}{k:Int}{b:Js}(h0:0<=k)(h1:k<(W.ID.length:Int)):gi (RP W k b).ID k={ gi W.ID k with IN:=b }:=by
 unfold RP;rw[Yv h0 h1 h0,E' rfl]
theorem zhz{W:Q7}{k:Int}{b b':Js}(h0:0<=k)(h1:k<(W.ID.length:Int)):RP (RP W k b) k b'=RP W k b':=by
 show Re (RP W k b) k { gi (RP W k b).ID k with IN:=b' }=_;rw[Ml h0 h1];unfold RP Re;rw[List.set_set]
theorem zh0{W:Q7}{k:Int}{x y:ZN}:Re (Re W k x) k y=Re W k y:=by unfold Re; rw[List.set_set]
theorem zdr{W:Q7}{k:Int}(h0:0<=k)(h1:k<(W.ID.length:Int)):RP W k (gi W.ID k).IN=W:=by
 show Re W k (gi W.ID k)=W;unfold Re;rw[KD h0 h1]
section
variable {base:Nat}{W:Q7}{m:MW}{w:Wo}{k:Int}{b:Js}
abbrev zmg(m:MW)(k:Int):OA:=m.gO.map (·.add (Int.toNat k*14+8))
theorem Bz(h:Zj 8 base w (RP W k b) m):W.ID.length=8:=by
 have:=h.len
 simpa[RP,Re] using this
theorem Zj.BB7(h:Zj 8 base w (RP W k b) m)(k0:0<=k)(k8:k<8):Q1 [] w m.gO (Int.toNat k*14+8) (QZ b (m.ms k.toNat))/\znf [] w (m.ms k.toNat).lO b.locals/\ztv [] w (m.ms k.toNat).dO b.Ry:=by
 have hr:=(h.rd (bs:=[]) Qs).g;have hl:=Bz h;have hl2:=h.len;have hg:=Ml (W:=W) (b:=b) k0 Qo;have h1:=hr.IN k0 Qo;have h2:=hr.locals k k0 Qo;have h3:=hr.Ry k k0 Qo;rw[hg] at h1 h2 h3;exact⟨h1,h2,h3⟩
theorem Zj.bdC(h:Zj 8 base w (RP W k b) m)(k0:0<=k)(k8:k<8){j:Nat}{v:Va}(hj:(QZ b (m.ms k.toNat))[j]? = some v):Q1 [] w (zmg m k) (0+j) [v]:=zba (h.BB7 k0 k8).1 hj
theorem Zj.tJ(h:Zj 8 base w (RP W k b) m)(k0:0<=k)(k8:k<8):(zmg m k).isSome=true:=GW (h.BB7 k0 k8).1
theorem Zj.Bt6(h:Zj 8 base w (RP W k b) m)(k0:0<=k)(k8:k<8){j n:Nat}(hj:j+n<=5):Yk [] w (zmg m k) (0+j) n:=by
 have:=zd7 h (bs:=[]) Qs k0 Qo (j:=8+j) (k:=n) Qo;refine B4.2 ?_;rw[Nat.zero_add,Nat.add_assoc];exact this
theorem Zj.BY9(h:Zj 8 base w (RP W k b) m)(k0:0<=k)(k8:k<8){c:Int}(c0:0<=c)(c1:c<(b.locals.length:Int)):Yk [] w (m.ms k.toNat).lO (Int.toNat c*1) 1:=by
 have hl:=Bz h;have:=z3v h (bs:=[]) Qs k0 Qo (c:=c) c0 (by rw[Ml k0 Qo]; exact c1) (j:=0) (k:=1) Qd;exact this
theorem Zj.CC7(h:Zj 8 base w (RP W k b) m)(k0:0<=k)(k8:k<8){c:Int}(c0:0<=c)(c1:c<(b.Ry.length:Int)):Yk [] w (m.ms k.toNat).dO (Int.toNat c*1) 1:=by
 have hl:=Bz h;have:=z3u h (bs:=[]) Qs k0 Qo (c:=c) c0 (by rw[Ml k0 Qo]; exact c1) (j:=0) (k:=1) Qd;exact this
theorem Zj.BB8(h:Zj 8 base w (RP W k b) m)(k0:0<=k)(k8:k<8){b':Js}(e1:b'.locals=b.locals)(e2:b'.Ry=b.Ry){j:Nat}{vs:List Va}(he:QZ b' (m.ms k.toNat)=(QZ b (m.ms k.toNat)).take j++vs++(QZ b (m.ms k.toNat)).drop (j+vs.length))(hj:j+vs.length<=5) :
  Zj 8 base (R8 w (zmg m k) (0+j) vs) (RP W k b') m:=by
 have hl:=Bz h;have hg:=Ml (W:=W) (b:=b) k0 Qo
 have this:Zj 8 base _ (Re (RP W k b) k { gi W.ID k with IN:=b' }) m:=h.An0 k0 Qo (g:={ gi W.ID k with IN:=b' }) (by rw[hg]; exact e1) (by rw[hg]; exact e2) (by rw[hg]) (j:=8+j) (vs:=vs) (by
  rw[hg];have e:∀x:Js,Yt { gi W.ID k with IN:=x } (m.ms k.toNat)=(Yt (gi W.ID k) (m.ms k.toNat)).take 8++QZ x (m.ms k.toNat)++[.slice (m.ms k.toNat).sO (gi W.ID k).IF.length (m.ms k.toNat).sC]:=λx=>rfl
  rw[e b',e b,he];have l8:((Yt (gi W.ID k) (m.ms k.toNat)).take 8).length=8:=rfl;have l5:(QZ b (m.ms k.toNat)).length=5:=rfl;generalize (Yt (gi W.ID k) (m.ms k.toNat)).take 8=A at l8;generalize QZ b (m.ms k.toNat)=B at l5
  have t1:(A++B++[Value.slice (m.ms k.toNat).sO (gi W.ID k).IF.length (m.ms k.toNat).sC]).take (8+j)=A++B.take j:=by
   rw[List.append_assoc,List.take_append,List.take_of_length_le Qo,l8,show 8+j-8=j by omega,List.take_append,show j-B.length=0 by omega,List.take_zero,List.append_nil]
  have t2:(A++B++[Value.slice (m.ms k.toNat).sO (gi W.ID k).IF.length (m.ms k.toNat).sC]).drop (8+j+vs.length)=B.drop (j+vs.length)++[Value.slice (m.ms k.toNat).sO (gi W.ID k).IF.length (m.ms k.toNat).sC]:=by
   rw[List.append_assoc,List.drop_append,List.drop_eq_nil_iff.2 Qo,List.nil_append,l8,show 8+j+vs.length-8=j+vs.length by omega,List.drop_append,show j+vs.length-B.length=0 by omega,List.drop_zero]
  rw[t1,t2];simp only[List.append_assoc]) Qo
 rw[show Re (RP W k b) k { gi W.ID k with IN:=b' }=RP W k b' from zh0] at this;rw[L7,Nat.zero_add,Nat.add_assoc];exact this
theorem Zj.AQ8{j:Nat}{vs:List Va}:Q0 (QC 8 m) w (R8 w (zmg m k) (0+j) vs):=by rw[L7]; exact FV
theorem Zj.A67(h:Zj 8 base w (RP W k b) m)(k0:0<=k)(k8:k<8){c:Int}(c0:0<=c)(c1:c<(b.locals.length:Int))(x:Int) :
  Zj 8 base (R8 w (m.ms k.toNat).lO (Int.toNat c*1) [I x]) (RP W k { b with locals:=b.locals.set c.toNat x }) m:=by
 have hl:=Bz h;have hg:=Ml (W:=W) (b:=b) k0 Qo;have hb:(gi (RP W k b).ID k).IN=b:=by rw[hg]
 have this:Zj 8 base _ (RP (RP W k b) k { (gi (RP W k b).ID k).IN with locals:=(gi (RP W k b).ID k).IN.locals.set c.toNat x }) m:=h.eI k0 Qo c0 (by rw[hg]; exact c1) x;rw[zhz k0 Qo,hb] at this;exact this
theorem Zj.Bt5(h:Zj 8 base w (RP W k b) m)(k0:0<=k)(k8:k<8){c:Int}(c0:0<=c)(c1:c<(b.Ry.length:Int))(x:Bool) :
  Zj 8 base (R8 w (m.ms k.toNat).dO (Int.toNat c*1) [.bool x]) (RP W k { b with Ry:=b.Ry.set c.toNat x }) m:=by
 have hl:=Bz h;have hg:=Ml (W:=W) (b:=b) k0 Qo;have hb:(gi (RP W k b).ID k).IN=b:=by rw[hg]
 have this:Zj 8 base _ (RP (RP W k b) k { (gi (RP W k b).ID k).IN with Ry:=(gi (RP W k b).ID k).IN.Ry.set c.toNat x }) m:=h.B01 k0 Qo c0 (by rw[hg]; exact c1) x;rw[zhz k0 Qo,hb] at this;exact this
def zpi(base:Nat)(W:Q7)(m:MW)(k:Int)(b':Js)(w w':Wo):Prop:=Zj 8 base w' (RP W k b') m/\Q0 (QC 8 m) w w'
theorem zcj(h:Zj 8 base w (RP W k b) m)(k0:0<=k)(k8:k<8)(hl:b.Ry.length<=1048576) :
  Cz UB #[.pointer (zmg m k)] w λe w'=>e=.returned (.tuple #[])/\zpi base W m k { b with Ry:=List.replicate b.Ry.length false } w w':=by
 refine(AK (zmg m k) (R:=λv w'=>v=.tuple #[]/\zpi base W m k { b with Ry:=List.replicate b.Ry.length false } w w') ?_).mono λe w' ⟨v,he,hv,h3⟩=>⟨by rw[he,hv],h3⟩
 refine⟨h.tJ k0 k8,_,_,_,h.bdC k0 k8 (j:=4) rfl,?_⟩;refine XC b.Ry.length 0 rfl (λj w1=>j<=b.Ry.length/\Zj 8 base w1 (RP W k { b with Ry:=List.replicate j false++b.Ry.drop j }) m/\Q0 (QC 8 m) w w1) (λw1 S4 _=>⟨Ie _,by simpa using h.WG S4,S4.of_nil⟩) λj w1 hs ⟨hj,hO,hX⟩=>⟨λIT=>?_,λRN=>?_⟩
 ·have IT:=Ot IT;have hlen:(List.replicate j false++b.Ry.drop j).length=b.Ry.length:=by simp; omega
  have c1:(j:Int)<((List.replicate j false++b.Ry.drop j).length:Int):=by rw[hlen]; exact IT
  have e1:=hO.Bt5 k0 k8 (c:=(j:Int)) Qo c1 false;have Ws:=hO.bdC k0 k8 (j:=4) rfl;have Wg:=(hO.BB7 k0 k8).2.2.ix DF (i:=(j:Int)) Qo c1;refine⟨hO.tJ k0 k8,_,_,_,Ws,Wg,hO.CC7 k0 k8 Qo c1,⟨Qo,Qo⟩,λw2 R3 _=>Qp Qo ⟨Qo,?_,?_⟩⟩
  ·have e2:=e1.WG R3;simp only[Ih] at e2;rw[zm6 _ _ Qo] at e2;exact e2
  ·exact(hX.trans (z2t Qo)).trans R3.of_nil
 ·have RN:=Ou RN;have vP:j=b.Ry.length:=Qo;subst vP;rw[List.drop_length,List.append_nil] at hO;exact λw2 R3=>⟨rfl,hO.WG R3,hX.trans R3.of_nil⟩
theorem zcg(h:Zj 8 base w (RP W k b) m)(k0:0<=k)(k8:k<8)(hb:UP b){c:Int}(c0:0<=c)(c1:c<(b.locals.length:Int)) :
  Cz Ul #[.pointer (zmg m k),I c] w λe w'=>e=.returned (I 0)/\zpi base W m k (ZX b c) w w':=by
 refine(HI (zmg m k) c (R:=λv w'=>v=I 0/\zpi base W m k (ZX b c) w w') ?_).mono λe w' ⟨v,he,hv,h3⟩=>⟨by rw[he,hv],h3⟩
 have he':=hb.each c c0 c1;have p1:=hb.p1;have p2:=hb.p2;have q2:=hb.q2;have hs:=h.tJ k0 k8;have hL:=(h.BB7 k0 k8).2.1;have Wg:=hL.ix Jy c0 c1;have e1:=h.BB8 k0 k8 (b':={ b with RJ:=b.RJ+gi b.locals c }) rfl rfl (j:=1) (vs:=[I (b.RJ+gi b.locals c)]) rfl Qs;have e2:=e1.A67 k0 k8 c0 c1 0;have hX:=(Zj.AQ8 (m:=m) (k:=k) (w:=w) (j:=1) (vs:=[I (b.RJ+gi b.locals c)])).trans (zzf (m:=m) (k:=Int.toNat c*1) (vs:=[I 0]) (i:=k.toNat) Qo);refine⟨hs,_,h.bdC k0 k8 (j:=1) rfl,hs,_,_,_,h.bdC k0 k8 (j:=3) rfl,Wg,_,hL c c0 c1,⟨Qo,Qo⟩,hs,h.Bt6 k0 k8 (j:=1) Qd,hs,_,_,_,e1.bdC k0 k8 (j:=3) rfl,Wg,e1.BY9 k0 k8 c0 c1,hs,_,e2.bdC k0 k8 (j:=1) rfl,λg wr hx _=>?_,λg wr hx=>⟨rfl,?_,hX.trans hx.of_nil⟩⟩
 ·have g:=Ot g;refine I4 (zcj (e2.WG hx) k0 k8 (by show b.Ry.length<=_; have:=hb.dl; have:=hb.l2; omega)) ?_;rintro e wv ⟨he,hM,hy⟩;refine⟨he,Yo,λJ' S4=>⟨rfl,?_,((hX.trans hx.of_nil).trans hy).trans S4.of_nil⟩⟩;have:ZX b c=⟨b.IY,b.RJ+gi b.locals c,b.Sy,b.locals.set c.toNat 0,List.replicate b.Ry.length false⟩:=by unfold ZX; rw[E' g]
  rw[this];exact hM.WG S4
 ·have g:=Ou g;have:ZX b c=⟨b.IY,b.RJ+gi b.locals c,b.Sy,b.locals.set c.toNat 0,b.Ry⟩:=by unfold ZX; rw[C' g]
  rw[this];exact e2.WG hx
theorem znw(l:List Int)(k:Nat)(h:k<l.length):(List.replicate k (0:Int)++l.drop k).set k 0=List.replicate (k+1) 0++l.drop (k+1):=by
 rw[List.set_append,C' Qs,List.length_replicate,Nat.sub_self,List.drop_eq_getElem_cons h,List.set_cons_zero,List.replicate_succ',List.append_assoc,List.singleton_append]
theorem zcf(h:Zj 8 base w (RP W k b) m)(k0:0<=k)(k8:k<8)(hb:UP b) :
  Cz Uk #[.pointer (zmg m k)] w λe w'=>e=.returned (I 0)/\zpi base W m k (Jt b) w w':=by
 refine(HH (zmg m k) (R:=λv w'=>v=I 0/\zpi base W m k (Jt b) w w') ?_).mono λe w' ⟨v,he,hv,h3⟩=>⟨by rw[he,hv],h3⟩
 have hdl:=hb.dl;have hl2:=hb.l2;have hs:=h.tJ k0 k8;have e1:=h.BB8 k0 k8 (b':={ b with RJ:=b.IY }) rfl rfl (j:=1) (vs:=[I b.IY]) rfl Qs;have e2:=e1.BB8 k0 k8 (b':={ b with RJ:=b.IY,Sy:=0 }) rfl rfl (j:=2) (vs:=[I 0]) rfl Qs;have hX2:=(Zj.AQ8 (m:=m) (k:=k) (w:=w) (j:=1) (vs:=[I b.IY])).trans (Zj.AQ8 (m:=m) (k:=k) (j:=2) (vs:=[I 0]));refine⟨hs,_,h.bdC k0 k8 (j:=0) rfl,hs,h.Bt6 k0 k8 (j:=1) Qd,hs,e1.Bt6 k0 k8 (j:=2) Qd,hs,_,_,_,e2.bdC k0 k8 (j:=3) rfl,?_⟩;refine XC b.locals.length 0 rfl (λj w1=>j<=b.locals.length/\Zj 8 base w1 (RP W k { b with RJ:=b.IY,Sy:=0,locals:=List.replicate j 0++b.locals.drop j }) m/\Q0 (QC 8 m) w w1) (λw1 S4 _=>⟨Ie _,by simpa using e2.WG S4,hX2.trans S4.of_nil⟩) λj w1 hs ⟨hj,hO,hX⟩=>⟨λIT=>?_,λRN=>?_⟩
 ·have IT:=Ot IT;have hlen:(List.replicate j (0:Int)++b.locals.drop j).length=b.locals.length:=by simp; omega
  have c1:(j:Int)<((List.replicate j (0:Int)++b.locals.drop j).length:Int):=by rw[hlen]; exact IT
  have e1:=hO.A67 k0 k8 (c:=(j:Int)) Qo c1 0;have Ws:=hO.bdC k0 k8 (j:=3) rfl;have Wg:=(hO.BB7 k0 k8).2.1.ix Jy (i:=(j:Int)) Qo c1;refine⟨hO.tJ k0 k8,_,_,_,Ws,Wg,hO.BY9 k0 k8 Qo c1,⟨Qo,Qo⟩,λw2 R3 _=>Qp Qo ⟨Qo,?_,?_⟩⟩
  ·have e2:=e1.WG R3;simp only[Ih] at e2;rw[znw _ _ Qo] at e2;exact e2
  ·exact(hX.trans (zzf Qo)).trans R3.of_nil
 ·have RN:¬(j:Int)<(b.locals.length:Int):=Ou RN;have vP:j=b.locals.length:=Qo;subst vP;rw[List.drop_length,List.append_nil] at hO;intro O' R3 _;refine I4 (zcj (hO.WG R3) k0 k8 (by show b.Ry.length<=_; omega)) ?_;rintro e wv ⟨he,hM,hy⟩;refine⟨he,Yo,λJ' S4=>⟨rfl,?_,((hX.trans R3.of_nil).trans hy).trans S4.of_nil⟩⟩;unfold Jt;rw[show List.replicate b.Ry.length (0:Int)=List.replicate b.locals.length 0 by rw[hdl]];exact hM.WG S4
theorem z2h(p:Int):(if p<20 then p else 20)=ZC 20 p:=by
 unfold ZC
 split <;> split <;> omega
theorem zs9{l:List Bool}{c:Int}(c0:0<=c)(c1:c<(l.length:Int))(h:gi l c=false):l.set c.toNat false=l:=by
 have:=KD c0 c1
 rwa[h] at this
theorem zwh{l:List Int}{c:Int}(c0:0<=c)(c1:c<(l.length:Int))(h:gi l c=0):l.set c.toNat 0=l:=by
 have:=KD c0 c1
 rwa[h] at this
theorem zjp(h:Zj 8 base w (RP W k b) m)(k0:0<=k)(k8:k<8)(hb:UP b){c:Int}(c0:0<=c)(c1:c<(b.locals.length:Int)) :
  Cz Vx #[.pointer (zmg m k),I c] w λe w'=>e=.returned (I (Y5 b c).2)/\zpi base W m k (Y5 b c).1 w w':=by
 refine(EQ (zmg m k) c (R:=λv w'=>v=I (Y5 b c).2/\zpi base W m k (Y5 b c).1 w w') ?_).mono λe w' ⟨v,he,hv,h3⟩=>⟨by rw[he,hv],h3⟩
 have he':=hb.each c c0 c1;have hdl:=hb.dl;have p1:=hb.p1;have p2:=hb.p2;have q2:=hb.q2;have hm:=k9 p1;have hs:=h.tJ k0 k8;have hL:=(h.BB7 k0 k8).2.1;have hD:=(h.BB7 k0 k8).2.2;have Wg:=hL.ix Jy c0 c1;refine⟨hs,_,_,_,h.bdC k0 k8 (j:=3) rfl,Wg,_,hL c c0 c1,λg wr hx=>?_,λg=>⟨hs,_,h.bdC k0 k8 (j:=1) rfl,?_⟩⟩
 ·have ht:Y5 b c=(b,0):=by unfold Y5; rw[E' (Ot g)]
  rw[ht];exact⟨rfl,h.WG hx,hx.of_nil⟩
 have g:=Ou g;have hz:gi b.locals c=0:=Qo;have ht:Y5 b c=(⟨b.IY,b.RJ-ZC 20 b.RJ,b.Sy,b.locals.set c.toNat (ZC 20 b.RJ),b.Ry.set c.toNat (ZC 20 b.RJ==0)⟩,if ZC 20 b.RJ=0 then 2 else 0):=by unfold Y5; rw[C' g]
 rw[ht,z2h];refine⟨λg2=>?_,λg2=>?_⟩
 ·have g2':ZC 20 b.RJ=0:=by simpa using g2
  have e1:=h.Bt5 k0 k8 c0 Qo true;refine⟨hs,_,_,_,h.bdC k0 k8 (j:=4) rfl,hD.ix DF c0 Qo,h.CC7 k0 k8 c0 Qo,λwr hx=>⟨by rw[E' g2'],?_,(z2t Qo).trans hx.of_nil⟩⟩
  dsimp only
  rw[g2',Int.sub_zero,zwh c0 c1 hz];exact e1.WG hx
 ·have g2':ZC 20 b.RJ≠0:=by simpa using g2
  have hdr:gi b.Ry c=false:=by
   cases hd:gi b.Ry c with
   | false=>rfl
   | true=>have:=(he'.2.2 hd).2; omega
  have e1:=h.BB8 k0 k8 (b':={ b with RJ:=b.RJ-ZC 20 b.RJ }) rfl rfl (j:=1) (vs:=[I (b.RJ-ZC 20 b.RJ)]) rfl Qs;have e2:=e1.A67 k0 k8 c0 c1 (ZC 20 b.RJ);have hX:=(Zj.AQ8 (m:=m) (k:=k) (w:=w) (j:=1) (vs:=[I (b.RJ-ZC 20 b.RJ)])).trans (zzf (m:=m) (k:=Int.toNat c*1) (vs:=[I (ZC 20 b.RJ)]) (i:=k.toNat) Qo);refine⟨hs,_,h.bdC k0 k8 (j:=1) rfl,⟨Qo,Qo⟩,hs,h.Bt6 k0 k8 (j:=1) Qd,hs,_,_,_,e1.bdC k0 k8 (j:=3) rfl,Wg,e1.BY9 k0 k8 c0 c1,λwr hx=>⟨by rw[C' g2'],?_,hX.trans hx.of_nil⟩⟩
  dsimp only
  rw[g2,zs9 c0 Qo hdr];exact e2.WG hx
theorem zfs(h:Zj 8 base w (RP W k b) m)(k0:0<=k)(k8:k<8)(hb:UP b){c n:Int}(c0:0<=c)(c1:c<(b.locals.length:Int)) :
  Cz US #[.pointer (zmg m k),I c,I n] w λe w'=>e=.returned (I (XD b c n).2)/\zpi base W m k (XD b c n).1 w w':=by
 refine(DA (zmg m k) c n (R:=λv w'=>v=I (XD b c n).2/\zpi base W m k (XD b c n).1 w w') ?_).mono λe w' ⟨v,he,hv,h3⟩=>⟨by rw[he,hv],h3⟩
 have he':=hb.each c c0 c1;have q2:=hb.q2;have s1:=hb.s1;have s2:=hb.s2;have hs:=h.tJ k0 k8;have hL:=(h.BB7 k0 k8).2.1;have Wg:=hL.ix Jy c0 c1;refine⟨λ_=>hs,_,_,_,λ_=>h.bdC k0 k8 (j:=3) rfl,λ_=>Wg,_,λ_=>hL c c0 c1,λg wr hx=>?_,λg=>?_⟩
 ·have ht:XD b c n=(b,3):=by unfold XD; rw[E' (by simpa using g)]
  rw[ht];exact⟨rfl,h.WG hx,hx.of_nil⟩
 ·have g':¬(n<1\/n>gi b.locals c):=by simpa using g
  have ht:XD b c n=({ b with Sy:=b.Sy+n,locals:=b.locals.set c.toNat (gi b.locals c-n) },0):=by unfold XD; rw[C' g']
  rw[ht];have e1:=h.A67 k0 k8 c0 c1 (gi b.locals c-n);have e2:=e1.BB8 k0 k8 (b':={ b with Sy:=b.Sy+n,locals:=b.locals.set c.toNat (gi b.locals c-n) }) rfl rfl (j:=2) (vs:=[I (b.Sy+n)]) rfl Qs;have hX:=(zzf (m:=m) (w:=w) (k:=Int.toNat c*1) (vs:=[I (gi b.locals c-n)]) (i:=k.toNat) (n:=8) Qo).trans (Zj.AQ8 (m:=m) (k:=k) (j:=2) (vs:=[I (b.Sy+n)]));exact⟨hs,_,_,_,h.bdC k0 k8 (j:=3) rfl,Wg,_,hL c c0 c1,⟨Qo,Qo⟩,Wg,h.BY9 k0 k8 c0 c1,hs,_,e1.bdC k0 k8 (j:=2) rfl,⟨by show _<=b.Sy+n; omega,by show b.Sy+n<=_; omega⟩,hs,e1.Bt6 k0 k8 (j:=2) Qd,λwr hx=>⟨rfl,e2.WG hx,hX.trans hx.of_nil⟩⟩
theorem zsj(h:Zj 8 base w (RP W k b) m)(k0:0<=k)(k8:k<8)(hb:UP b){op:zxd} :
  Cz Pc #[.pointer (zmg m k),.agg (zr2 op).toArray] w λe w'=>e=.returned (I (ZE b op).2)/\zpi base W m k (ZE b op).1 w w':=by
 refine(zbe (zmg m k) op.kind op.pK op.n (R:=λv w'=>v=I (ZE b op).2/\zpi base W m k (ZE b op).1 w w') ?_).mono λe w' ⟨v,he,hv,h3⟩=>⟨by rw[he,hv],h3⟩
 have hl2:=hb.l2;have hs:=h.tJ k0 k8;intro b1 fD
 have one:∀{w1:Wo},Q0 [] w w1->∀y∈QC 8 m,y∉[b1]:=λ_ y hy hm=>by
  have:y=b1:=by simpa using hm
  have:=(h.lt y hy).2;omega
 have fin:∀{w1 w2 w3:Wo} {b':Js} {c:Int},Q0 [] w w1->(∀y∈[b1],y<w1.heap.size)->zpi base W m k b' w1 w2->Q0 [b1] w2 w3->ZE b op=(b',c)->Q9 [b1] w1 w2/\zpi base W m k (ZE b op).1 w w3:=λh1 h2 h3 h4 h5=>by
  refine⟨λy hm=>h3.2.block y (h2 y hm) λgE=>one h1 y gE hm,?_⟩;rw[h5]
  exact ⟨h3.1.ext h4 (one h1), (h1.of_nil.trans h3.2).fresh h4 fun y hm => .inl (by have:y=b1:=by simpa using hm
                                                                                    omega)⟩
 refine⟨λg wr hx dE=>?_,λg=>⟨hs,_,_,_,h.bdC k0 k8 (j:=3) rfl,⟨Qo,Qo⟩,_,QN,λg2 wr hx=>?_,λg2=>?_⟩⟩
 ·have fQ:ZE b op=(Jt b,0):=by unfold ZE; rw[E' (by simpa using g)]
  refine I4 (zcf (h.WG hx) k0 k8 hb) ?_;rintro e wv ⟨he,hR⟩;exact⟨_,he,(fin hx dE hR (Q0.refl _ _) fQ).1,λJ' S4=>⟨by rw[fQ],(fin hx dE hR S4 fQ).2⟩⟩
 all_goals have g:¬op.kind=4:=by simpa using g
 ·have fQ:ZE b op=(b,1):=by unfold ZE; rw[C' g,E' (by simpa using g2)]
  rw[fQ];exact⟨rfl,h.WG hx,hx.of_nil⟩
 have g2:YJ op.pK 0 ((b.locals.length:Int)-1)=true:=by simpa using g2
 obtain⟨c0,c1⟩:=Qt.1 g2;have c1:op.pK<(b.locals.length:Int):=Qo
 have fQ:ZE b op=if op.kind=1 then Y5 b op.pK else if op.kind=2 then XD b op.pK op.n else if op.kind=3 then (ZX b op.pK,0) else (b,1):=by
  unfold ZE; rw[C' g,C' (by rw[g2]; decide)]
 refine⟨λg3 wr hx dE=>?_,λg3=>⟨λg4 wr hx dE=>?_,λg4=>⟨λg5 wr hx dE=>?_,λg5 wr hx=>?_⟩⟩⟩
 ·rw[E' (by simpa using g3)] at fQ;refine I4 (zjp (h.WG hx) k0 k8 hb c0 c1) ?_;rintro e wv ⟨he,hR⟩;exact⟨_,he,(fin hx dE hR (Q0.refl _ _) fQ).1,λJ' S4=>⟨by rw[fQ],(fin hx dE hR S4 fQ).2⟩⟩
 ·rw[C' (by simpa using g3),E' (by simpa using g4)] at fQ;refine I4 (zfs (n:=op.n) (h.WG hx) k0 k8 hb c0 c1) ?_;rintro e wv ⟨he,hR⟩;exact⟨_,he,(fin hx dE hR (Q0.refl _ _) fQ).1,λJ' S4=>⟨by rw[fQ],(fin hx dE hR S4 fQ).2⟩⟩
 ·rw[C' (by simpa using g3),C' (by simpa using g4),E' (by simpa using g5)] at fQ;refine I4 (zcg (h.WG hx) k0 k8 hb c0 c1) ?_;rintro e wv ⟨he,hR⟩;exact⟨_,he,(fin hx dE hR (Q0.refl _ _) fQ).1,λJ' S4=>⟨by rw[fQ],(fin hx dE hR S4 fQ).2⟩⟩
 ·rw[C' (by simpa using g3),C' (by simpa using g4),C' (by simpa using g5)] at fQ;rw[fQ];exact⟨rfl,h.WG hx,hx.of_nil⟩
end
structure PW (base pb:Nat) (w:Wo) (W:Q7) (m:MW):Prop where
 own:Zj 8 base w W m
 pt:w.heap[pb]? = some (.cells (Qa W m).toArray Q4 (0,0))
 pn:pb∉QC 8 m
abbrev pA(pb:Nat):OA:=some ⟨pb,0,none⟩
structure Mp (base pb:Nat) (bs:List Nat) (w0:Wo) (m0:MW) (w:Wo) (W:Q7) (m:MW):Prop where
 v:Mv 8 base bs w0 m0 w W m
 pt:w.heap[pb]? = some (.cells (Qa W m).toArray Q4 (0,0))
 pn:pb∉QC 8 m
 pb:pb∉bs
section
variable {base pb:Nat}{bs cs:List Nat}{w0 w w':Wo}{W W':Q7}{m0 m m':MW}{b:Nat}
theorem Mp.start(h:PW base pb w W m):Mp base pb [] w m w W m:=⟨Mv.start h.own,h.pt,h.pn,Qs⟩
theorem Mp.pw(h:Mp base pb bs w0 m0 w W m):PW base pb w W m:=⟨h.v.own,h.pt,h.pn⟩
theorem Mp.add(h:Mp base pb bs w0 m0 w W m)(hb:w.heap.size<=b):Mp base pb (bs++[b]) w0 m0 w W m:=⟨h.v.add hb,h.pt,h.pn,λhm=>by
 rcases Io.1 hm with hm | hm
 ·exact h.pb hm
 ·have:pb=b:=by simpa using hm
  have:=JW h.pt;omega⟩
theorem Mp.step(h:Mp base pb bs w0 m0 w W m)(hx:Q0 bs w w'):Mp base pb bs w0 m0 w' W m:=⟨h.v.step hx,QQ h.pt hx h.pb,h.pn,h.pb⟩
theorem Mp.R6(h:Mp base pb bs w0 m0 w W m)(hx:Q0 [] w w'):Mp base pb bs w0 m0 w' W m:=⟨h.v.R6 hx,QQ h.pt hx Qs,h.pn,h.pb⟩
theorem Mp.call(h:Mp base pb bs w0 m0 w W m)(k:Mp base pb [] w m w' W' m')(hs:∀x∈bs,x<w.heap.size):Mp base pb bs w0 m0 w' W' m':=⟨h.v.call k.v hs,k.pt,k.pn,h.pb⟩
theorem Mp.kept(h:Mp base pb bs w0 m0 w W m)(k:Mp base pb [] w m w' W' m')(hs:∀x∈bs,x<w.heap.size):Q9 bs w w':=h.v.kept k.v hs
theorem Mp.SA(h:Mp base pb bs w0 m0 w W m)(k:Zj 8 base w' W' m)(hx:Q0 (QC 8 m) w w')(he:Qa W' m=Qa W m):Mp base pb bs w0 m0 w' W' m:=⟨h.v.SA k hx,by rw[he]; exact QQ h.pt hx h.pn,h.pn,h.pb⟩
theorem Mp.sub(h:Mp base pb bs w0 m0 w W m)(hs:∀x∈cs,x∈bs):Mp base pb cs w0 m0 w W m:=⟨h.v.BW4 hs,h.pt,h.pn,λhm=>h.pb (hs _ hm)⟩
theorem Mp.close(h:Mp base pb bs w0 m0 w W m):Mp base pb [] w0 m0 w W m:=h.sub Qs
theorem Mp.wpt(h:Mp base pb bs w0 m0 w W m):Mu bs w (pA pb) W m:=⟨PN h.pt h.pb (k0:=0) λj v hj=>by simpa using hj,h.v.rd⟩
theorem Mp.own(h:Mp base pb bs w0 m0 w W m):Zj 8 base w W m:=h.v.own
theorem Mp.nb(h:Mp base pb bs w0 m0 w W m):∀x∈QC 8 m,x∉bs:=h.v.nb
theorem PW.WG(h:PW base pb w W m)(hx:Q0 [] w w'):PW base pb w' W m:=((Mp.start h).R6 hx).pw
end
theorem zwg{W:Q7}{k c:Int}{s:KL}(h0:0<=k)(h1:k<(W.ID.length:Int)):gi (Rz W k c s).ID k={ gi W.ID k with IF:=(gi W.ID k).IF.set c.toNat s }:=by
 unfold Rz;rw[Yv h0 h1 h0,E' rfl]
theorem zs8{W:Q7}{k c:Int}{s s':KL}(h0:0<=k)(h1:k<(W.ID.length:Int)):Rz (Rz W k c s) k c s'=Rz W k c s':=by
 show Re (Rz W k c s) k { gi (Rz W k c s).ID k with IF:=(gi (Rz W k c s).ID k).IF.set c.toNat s' }=_;rw[zwg h0 h1]
 dsimp only
 rw[List.set_set];exact zh0
theorem zo1{W:Q7}{k c:Int}(h0:0<=k)(h1:k<(W.ID.length:Int))(c0:0<=c)(c1:c<((gi W.ID k).IF.length:Int)):Rz W k c (Qc W k c)=W:=by
 show Re W k { gi W.ID k with IF:=(gi W.ID k).IF.set c.toNat (gi (gi W.ID k).IF c) }=W;rw[KD c0 c1];unfold Re;rw[KD h0 h1]
section
variable {base pb:Nat}{bs:List Nat}{w:Wo}{W:Q7}{m:MW}{k c:Int}
theorem Zj.Bd2(h:Zj 8 base w W m)(k0:0<=k)(k8:k<8)(c0:0<=c)(c1:c<((gi W.ID k).IF.length:Int)){j:Nat}{vs:List Va}{s:KL}(he:PS s=(PS (Qc W k c)).take j++vs++(PS (Qc W k c)).drop (j+vs.length))(hj:j+vs.length<=5) :
  Zj 8 base (R8 w (zxa m k c) (0+j) vs) (Rz W k c s) m:=by
 have:=h.BI3 k0 Qo c0 c1 he hj;rw[<-zz6] at this;unfold zxa;rw[L7,Nat.zero_add];exact this
theorem Zj.B99(h:Zj 8 base w W m)(hd:∀x∈QC 8 m,x∉bs)(k0:0<=k)(k8:k<8)(c0:0<=c)(c1:c<((gi W.ID k).IF.length:Int)){j n:Nat}(hj:j+n<=5):Yk bs w (zxa m k c) (0+j) n:=by
 unfold zxa;refine B4.2 ?_;rw[Nat.zero_add];exact zzl h hd k0 Qo c0 c1 hj
theorem zra{vs:List Va}{j:Nat}(k0:0<=k)(k8:k<8):Q0 (QC 8 m) w (R8 w (zxa m k c) (0+j) vs):=by
 unfold zxa;rw[L7];exact NF Qo
theorem Oh(h:PW base pb w W m)(c0:0<=c)(c1:c<(W.IE.length:Int)) :
  Cz YB #[.agg #[.pointer (pA pb),I c]] w λe w'=>e=.returned (.tuple #[])/\Mp base pb [] w m w' (RD W c) m:=by
 refine(Gg (pA pb) c (R:=λv w'=>v=.tuple #[]/\Mp base pb [] w m w' (RD W c) m) ?_).mono λe w' ⟨v,he,hv,h3⟩=>⟨by rw[he,hv],h3⟩
 intro b hb;obtain⟨e1,e2⟩:=zqt h.own c0 c1;have hM:=Mp.start h;have hp:=hM.wpt;have hr:=h.own.rd (bs:=[]) Qs;have hs:=GW (n:=Int.toNat c*5) (hr.c c c0 c1);refine⟨_,Mc hp c0 c1,_,Mc hp c0 c1,hs,B4.2 (zpg h.own Qs c0 c1 Qd),hs,?_⟩;rw[L7];refine⟨B4.2 (zpg e1 Qs c0 (by simpa using c1) Qd),?_⟩;rw[L7];exact λwr hx=>⟨rfl,(hM.SA e2 (NE.trans NE) (by simp[Qa,RD,RX])).R6 hx⟩
theorem zfq{p:OA}{g:Int}(h:Mu bs w p W m)(ht:Yc W.ID)(hu:Q6 W.ID g=true):PX bs UT #[.pointer p,I g] w (I (dep 3 W.ID g)):=
 DX p g λwr hx=>by
  have h:=(h.ext hx).less (cs:=[]) Qs
  have hdr:∀x,Q6 W.ID x=true->0<=dep 3 W.ID x/\dep 3 W.ID x<=3:=λx hux=>by
   by_cases hz:x=0
   ·subst hz; rw[Y8]; omega
   ·obtain⟨_,_,_,d,e,_,hd⟩:=Yd ht hux hz;omega
  refine⟨λvs=>∃(x s:Int),vs=[I x,I s]/\Q6 W.ID x=true/\0<=s/\s+dep 3 W.ID x=dep 3 W.ID g,λvs=>(dep 3 W.ID (ZW 0 vs)).toNat,⟨g,0,rfl,hu,Qd,Qo⟩,?_⟩;rintro x s ⟨x',s',he,hux,hs0,hI⟩;simp only[I5,I6,true_and,and_true] at he;obtain⟨rfl,rfl⟩:=he;have hgd:=hdr g hu;have hxd:=hdr x hux;refine⟨λhz=>?_,λhz=>?_⟩
  ·have hz:x≠0:=by simpa using hz
   obtain⟨hp,a,b,d,e,e2,hd⟩:=Yd ht hux hz;refine⟨⟨Qo,Qo⟩,h.some,_,_,_,h.ID,h.rd.g.ix a b,_,h.rd.g.parent a b,⟨_,_,rfl,hp,Qo,Qo⟩,?_⟩;show (dep 3 W.ID (gi W.ID x).parent).toNat<(dep 3 W.ID x).toNat;omega
  ·have hz:x=0:=by simpa using hz
   subst hz;rw[Y8] at hI;rw[show s=dep 3 W.ID g by omega]
theorem Pt{F K:Int}(h:PW base pb w W m)(gI:SF F K W)(hk:F+Qi<=K)(hK:K<=1000000000000000000)(c0:0<=c)(c1:c<(W.IE.length:Int)) :
  Cz YA #[.agg #[.pointer (pA pb),I c]] w λe w'=>e=.returned (.tuple #[])/\Mp base pb [] w m w' (QG W c) m:=by
 refine(K2 (pA pb) c (R:=λv w'=>v=.tuple #[]/\Mp base pb [] w m w' (QG W c) m) ?_).mono λe w' ⟨v,he,hv,h3⟩=>⟨by rw[he,hv],h3⟩
 intro x hx;have cJ:=gI.w.a.gl
 refine⟨λvs w1=>∃(j:Nat),vs=[I (3-(j:Int))]/\j<=3/\Mp base pb [x] w m w1 (YV W c j) m,
  λvs _=>(ZW 0 vs).toNat,λwr tF _=>⟨0,rfl,Qd,((Mp.start h).add hx).R6 tF⟩,?_⟩
 rintro d wv hs ⟨j,he,j3,hM⟩;obtain⟨hS,hO⟩:=Hi gI hk c0 c1 j j3;have hN:YV W c (j+1)=Zn (YV W c j) c (3-(j:Int)) 8:=rfl;have hE:j=3->YV W c j=QG W c:=λe=>by rw[e]; rfl
 generalize YV W c j=W1 at hM hS hO hN hE;simp only[I5,I6,true_and,and_true] at he;refine⟨λhd=>?_,λhd=>?_⟩
 ·have hd:=Ot hd;have tA:c<(W1.IE.length:Int):=by rw[hO.c]; exact c1
  have C02:W1.ID.length=W.ID.length:=hO.g.len;have hp:=hM.wpt;refine⟨hp.some,_,_,_,hp.ID,?_⟩;rw[C02];refine XC W.ID.length 0 rfl (λk w2=>k<=8/\Mp base pb [x] w m w2 (Zn W1 c d k) m) (λw2 R3 _=>⟨Qd,hM.step R3⟩) λk w2 Wc ⟨hk8,WN⟩=>?_
  obtain⟨pL,oK⟩:=Fp hS hk (c:=c) (d:=d) Qo c0 tA k hk8;have hf2:=hO.trans oK;have sS:(Zn W1 c d k).ID.length=W.ID.length:=hf2.g.len;have AH2:(Zn W1 c d k).IE.length=W.IE.length:=by rw[hf2.c]
  have Wf:Zn W1 c d (k+1)=if (gi (Zn W1 c d k).ID (k:Int)).used=true/\dep 3 (Zn W1 c d k).ID (k:Int)=d then Rz (Zn W1 c d k) (k:Int) c (ZY (Zn W1 c d k) (k:Int) c) else Zn W1 c d k:=rfl;have hN8:k=8->YV W c (j+1)=Zn W1 c d k:=λe=>by rw[hN,<-he,e]
  generalize Zn W1 c d k=W2 at WN pL oK hf2 sS AH2 Wf hN8;have dQ:=WN.wpt;have hr:=dQ.rd;refine⟨λIT=>?_,λRN=>?_⟩
  ·have IT:=Ot IT;have RM:(k:Int)<(W2.ID.length:Int):=Qo;have Wg:=hr.g.ix (i:=(k:Int)) Qo RM;have hru:=hr.g.used (i:=(k:Int)) Qo RM;refine⟨dQ.some,_,_,_,dQ.ID,Wg,(gi W2.ID (k:Int)).used,hru,dep 3 W2.ID (k:Int),λg=>?_,λg=>?_,λg=>?_⟩
   ·exact zfq dQ pL.w.a.tree (Q5.2 ⟨Qo,RM,by simpa using g⟩)
   ·refine⟨⟨Qo,Qo⟩,λw3 Ra _=>Qp Qo ⟨Qo,?_⟩⟩;rw[Wf,C']
    ·exact WN.step Ra
    ·rintro⟨h1,h2⟩;rw[h1,h2] at g;simp at g
   ·simp only[I0,I7,bne_eq_false_iff_eq] at g;have hu:Q6 W2.ID (k:Int)=true:=Q5.2 ⟨Qo,RM,g.1⟩;rw[E' ⟨g.1,g.2⟩] at Wf;have hsl:=pL.w.a.sl hu
    have hz:(k:Int)≠0:=λe=>by
     rw[e,Y8] at g;omega
    have hpa:=pL.w.a.up hu hz;obtain⟨p0,p1,_⟩:=Q5.1 hpa;have hpl:=pL.w.a.sl hpa;have s1:=pL.w.s _ c hu c0 Qo;have s2:=pL.w.s _ c hpa c0 Qo;have lc:=ZU ((Qc W2 (k:Int) c).v-(Qc W2 (gi W2.ID (k:Int)).parent c).floor) (Qc W2 (k:Int) c).w;have lm:=ZQ (Qc W2 (k:Int) c).w;have hsh:=dQ.sh (g:=(k:Int)) (c:=c) Qo RM c0 Qo;have Cf4:=dQ.sh (g:=(gi W2.ID (k:Int)).parent) (c:=c) p0 p1 c0 Qo;have A70:=K8 (g:=(k:Int)) dQ pL.w.a c0 Qo;have Bi3:=zcb (g:=(k:Int)) dQ pL.w.a hu c0 Qo;have cS:c<((gi W2.ID (k:Int)).IF.length:Int):=Qo;refine⟨_,Zv dQ Qo RM c0 cS,QV W2 (k:Int) c,A70,Uf W2 (k:Int) c,λ_=>Bi3,λ_=>hsh.1,_,λ_=>hsh.2 (j:=1) rfl,λg2=>?_,λg2=>?_⟩
    ·have wD:ZY W2 (k:Int) c=⟨(Qc W2 (k:Int) c).floor,QV W2 (k:Int) c && !Uf W2 (k:Int) c,(Qc W2 (gi W2.ID (k:Int)).parent c).floor+Yh ((Qc W2 (k:Int) c).v-(Qc W2 (gi W2.ID (k:Int)).parent c).floor) (Qc W2 (k:Int) c).w,(Qc W2 (k:Int) c).w,(Qc W2 (k:Int) c).sum⟩:=by
      unfold ZY;rw[E']
      simpa[Qc] using g2
     have e1:=WN.own.Bd2 (k:=(k:Int)) (c:=c) Qo Qo c0 cS (j:=2) (vs:=[I ((Qc W2 (gi W2.ID (k:Int)).parent c).floor+Yh ((Qc W2 (k:Int) c).v-(Qc W2 (gi W2.ID (k:Int)).parent c).floor) (Qc W2 (k:Int) c).w)]) (s:={ Qc W2 (k:Int) c with v:=(Qc W2 (gi W2.ID (k:Int)).parent c).floor+Yh ((Qc W2 (k:Int) c).v-(Qc W2 (gi W2.ID (k:Int)).parent c).floor) (Qc W2 (k:Int) c).w }) rfl Qs;have cS1:c<((gi (Rz W2 (k:Int) c { Qc W2 (k:Int) c with v:=(Qc W2 (gi W2.ID (k:Int)).parent c).floor+Yh ((Qc W2 (k:Int) c).v-(Qc W2 (gi W2.ID (k:Int)).parent c).floor) (Qc W2 (k:Int) c).w }).ID (k:Int)).IF.length:Int):=by rw[Ny Qo RM Qo]; exact cS
     have dE:Qc (Rz W2 (k:Int) c { Qc W2 (k:Int) c with v:=(Qc W2 (gi W2.ID (k:Int)).parent c).floor+Yh ((Qc W2 (k:Int) c).v-(Qc W2 (gi W2.ID (k:Int)).parent c).floor) (Qc W2 (k:Int) c).w }) (k:Int) c={ Qc W2 (k:Int) c with v:=(Qc W2 (gi W2.ID (k:Int)).parent c).floor+Yh ((Qc W2 (k:Int) c).v-(Qc W2 (gi W2.ID (k:Int)).parent c).floor) (Qc W2 (k:Int) c).w }:=by
      rw[Jo Qo RM c0 cS Qo c0,E' ⟨rfl,rfl⟩]
     have e2:=e1.Bd2 (k:=(k:Int)) (c:=c) Qo Qo c0 cS1 (j:=1) (vs:=[.bool (QV W2 (k:Int) c && !Uf W2 (k:Int) c)]) (s:=ZY W2 (k:Int) c) (by rw[dE,wD]; rfl) Qs;rw[zs8 Qo RM] at e2;have hX:=(zra (m:=m) (w:=w2) (k:=(k:Int)) (c:=c) (j:=2) (vs:=[I ((Qc W2 (gi W2.ID (k:Int)).parent c).floor+Yh ((Qc W2 (k:Int) c).v-(Qc W2 (gi W2.ID (k:Int)).parent c).floor) (Qc W2 (k:Int) c).w)]) Qo Qo).trans (zra (m:=m) (k:=(k:Int)) (c:=c) (j:=1) (vs:=[.bool (QV W2 (k:Int) c && !Uf W2 (k:Int) c)]) Qo Qo);have heq:Qa (Rz W2 (k:Int) c (ZY W2 (k:Int) c)) m=Qa W2 m:=Uz (VS Qo RM).fr;refine⟨dQ.some,_,_,_,dQ.ID,Wg,_,hr.g.parent Qo RM,_,Zv dQ p0 p1 c0 Qo,Cf4.1,_,Cf4.2 (j:=0) rfl,hsh.1,_,hsh.2 (j:=2) rfl,⟨Qo,Qo⟩,hsh.1,_,hsh.2 (j:=3) rfl,_,D0,⟨Qo,Qo⟩,hsh.1,WN.own.B99 WN.nb Qo Qo c0 cS (j:=2) Qd,hsh.1,e1.B99 WN.nb Qo Qo c0 cS1 (j:=1) Qd,⟨Qo,Qo⟩,λw3 Ra _=>Qp Qo ⟨Qo,?_⟩⟩;rw[Wf];exact(WN.SA e2 hX heq).step Ra
    ·have wD:ZY W2 (k:Int) c=⟨(Qc W2 (k:Int) c).floor,QV W2 (k:Int) c && !Uf W2 (k:Int) c,(Qc W2 (k:Int) c).v,(Qc W2 (k:Int) c).w,(Qc W2 (k:Int) c).sum⟩:=by
      unfold ZY;rw[C'];intro h1;rw[h1.1,show (Qc W2 (k:Int) c).on=false from h1.2] at g2;cases g2
     have e2:=WN.own.Bd2 (k:=(k:Int)) (c:=c) Qo Qo c0 cS (j:=1) (vs:=[.bool (QV W2 (k:Int) c && !Uf W2 (k:Int) c)]) (s:=ZY W2 (k:Int) c) (by rw[wD]; rfl) Qs;have heq:Qa (Rz W2 (k:Int) c (ZY W2 (k:Int) c)) m=Qa W2 m:=Uz (VS Qo RM).fr;refine⟨hsh.1,WN.own.B99 WN.nb Qo Qo c0 cS (j:=1) Qd,⟨Qo,Qo⟩,λw3 Ra _=>Qp Qo ⟨Qo,?_⟩⟩;rw[Wf];exact(WN.SA e2 (zra Qo Qo) heq).step Ra
  ·have RN:=Ou RN;have hN8:=hN8 Qo;refine⟨⟨Qo,Qo⟩,λw3 Ra _=>⟨⟨j+1,?_,Qo,?_⟩,?_⟩⟩
   ·rw[show d-1=3-((j+1:Nat):Int) by omega]
   ·rw[hN8];exact WN.step Ra
   ·show (d-1).toNat<d.toNat;omega
 ·have hd:=Ou hd;rw[<-hE Qo];exact λw2 R3=>⟨rfl,(hM.step R3).close⟩
end
def Ts(W:Q7)(g c:Int):Nat->Int
 | 0=>100000000000000001
 | k+1=>if Zp W g c k=true then (if Zk W c k<Ts W g c k then Zk W c k else Ts W g c k) else Ts W g c k
theorem NV{W:Q7}{g c:Int}:∀k:Nat,(∀j,j<k->Zp W g c j=true->Zk W c j<=100000000000000000)->Ts W g c k=if Zw W g c k=true then Z3 W g c k else 100000000000000001
 | 0,_=>by
  have:Zw W g c 0=false:=rfl;rw[this]; rfl
 | k+1,h=>by
  have ih:=NV k λj hj=>h j Qo
  simp only[Ts]
  cases hp:Zp W g c k with
  | false=>
   have:=EN (W:=W) (g:=g) (c:=c) (k:=k) (by rw[hp]; rfl);rw[C' Qd,ih,this.1,this.2]
  | true=>
   have hv:=h k Qo hp;rw[E' rfl,ih]
   cases hb:Zw W g c k with
   | false=>
    have:=EO (W:=W) (g:=g) (c:=c) (k:=k) (by rw[hp,hb]; rfl);rw[this.1,this.2,C' (show ¬(false=true) by decide),E' (show Zk W c k<100000000000000001 by omega),E' (show true=true from rfl)]
   | true=>
    rw[E' rfl]
    by_cases IT:Zk W c k<Z3 W g c k
    ·have:=EO (W:=W) (g:=g) (c:=c) (k:=k) (by rw[hp,Ii IT]; simp);rw[this.1,this.2,E' rfl,E' IT]
    ·have:=EN (W:=W) (g:=g) (c:=c) (k:=k) (by rw[hp,hb,decide_eq_false IT]; rfl);rw[this.1,this.2,hb,E' rfl,C' IT]
theorem zyu{K:Int}{W:Q7}(h:SW K W){g c:Int}(c0:0<=c)(c1:c<(W.IE.length:Int)){j:Nat}(hj:j<20)(hp:Zp W g c j=true):Zk W c j<=K:=by
 have hl:=h.a.gl;unfold Zk
 by_cases h12:j<12
 ·rw[E' h12];exact(h.tv (j:Int) Qo Qo).2
 ·rw[C' h12];unfold Zp at hp;rw[C' h12] at hp;unfold J8 at hp;simp only[A'] at hp;have hu:Q6 W.ID ((j-12:Nat):Int)=true:=Q5.2 ⟨Qo,Qo,hp.1.2.1⟩;exact(h.s _ c hu c0 c1).2.2.2.1
section
variable {base pb:Nat}{w:Wo}{W:Q7}{m:MW}{k c:Int}
theorem zlv{K:Int}(h:PW base pb w W m)(gI:SW K W)(hK0:0<=K)(hK:K<=100000000000000000)(c0:0<=c)(c1:c<(W.IE.length:Int)) :
  Cz T6 #[.agg #[.pointer (pA pb),I c]] w λe w'=>e=.returned (.tuple #[])/\Mp base pb [] w m w' (Za W c) m:=by
 refine(BF (pA pb) c (R:=λv w'=>v=.tuple #[]/\Mp base pb [] w m w' (Za W c) m) ?_).mono λe w' ⟨v,he,hv,h3⟩=>⟨by rw[he,hv],h3⟩
 intro x hx;have cJ:=gI.a.gl;have hp0:=(Mp.start h).wpt;refine⟨hp0.some,_,_,_,hp0.ID,?_⟩;refine XC W.ID.length 0 rfl (λk w2=>k<=8/\Mp base pb [x] w m w2 (QS W c k) m) (λw2 R3 _=>⟨Qd,((Mp.start h).add hx).R6 R3⟩) λk w2 Wc ⟨hk8,WN⟩=>?_
 obtain⟨pL,oK⟩:=PH gI hK0 c0 c1 k hk8;have sS:(QS W c k).ID.length=W.ID.length:=oK.g.len;have AH2:(QS W c k).IE.length=W.IE.length:=by rw[oK.c]
 have Wf:QS W c (k+1)=if (gi (QS W c k).ID (k:Int)).used=true/\Zw (QS W c k) (k:Int) c 20=true/\Z3 (QS W c k) (k:Int) c 20>(Qc (QS W c k) (k:Int) c).floor then Rz (QS W c k) (k:Int) c (DI (QS W c k) (k:Int) c) else QS W c k:=rfl;have hN8:k=8->Za W c=QS W c k:=λe=>by rw[e]; rfl
 generalize QS W c k=W2 at WN pL oK sS AH2 Wf hN8;have hp:=WN.wpt;have hr:=hp.rd;have kG:=pL.a.t;refine⟨λIT=>?_,λRN=>?_⟩
 ·have IT:=Ot IT;have RM:(k:Int)<(W2.ID.length:Int):=Qo;refine⟨hp.some,_,_,_,hp.ID,hr.g.ix (i:=(k:Int)) Qo RM,(gi W2.ID (k:Int)).used,hr.g.used Qo RM,λg=>?_,λg=>?_⟩
  ·refine⟨⟨Qo,Qo⟩,λw3 Ra _=>Qp Qo ⟨Qo,?_⟩⟩;rw[Wf,C' (λh1=>by rw[h1.1] at g; cases g)];exact WN.step Ra
  have g:(gi W2.ID (k:Int)).used=true:=by simpa using g
  have hu:Q6 W2.ID (k:Int)=true:=Q5.2 ⟨Qo,RM,g⟩;have hsl:=pL.a.sl hu;have cS:c<((gi W2.ID (k:Int)).IF.length:Int):=Qo;have hlm:=NV (W:=W2) (g:=(k:Int)) (c:=c) 20 λj hj hp=>Int.le_trans (zyu pL c0 Qo hj hp) hK
  refine⟨hp.some,_,_,_,hp.tasks,λvs w1=>∃(t:Nat),vs=[I (Ts W2 (k:Int) c t),I (t:Int)]/\t<=12/\Mp base pb [x] w m w1 W2 m,Zs W2.tasks.length 1,λw3 Ra _=>⟨0,rfl,Qd,WN.step Ra⟩,?_⟩;rintro least x1 R4 fX ⟨t,he,ht,hZ⟩;simp only[I5,I6,true_and,and_true] at he;obtain⟨rfl,rfl⟩:=he;have hp3:=hZ.wpt;refine⟨λBw6=>?_,λAM7=>?_⟩
  ·have Bw6:=Ot Bw6;have hq:=D3 (g:=(k:Int)) (c:=c) hp3 (t:=(t:Int)) Qo Bw6;rw[Ih] at hq;refine⟨hp3.rd.t.ix QM Qo Bw6,_,_,_,_,_,_,_,_,_,hp3.rd.t (t:Int) Qo Bw6,λb1 fD=>⟨OO W2 (k:Int) c t,hq,λga=>⟨⟨Qo,Qo⟩,λw4 SZ _=>⟨⟨t+1,?_,Qo,hZ.step SZ⟩,?_⟩⟩,λga=>⟨⟨Qo,Qo⟩,λw4 SZ _=>⟨⟨t+1,?_,Qo,hZ.step SZ⟩,?_⟩⟩⟩⟩
   ·simp only[Ts];rw[UX Qo,E' ga,DS Qo];rfl
   ·simp only[Zs,Xg,ZW,Ig,List.getElem?_cons_succ]; omega
   ·simp only[Ts];rw[UX Qo,C' (by rw[ga]; decide)];rfl
   ·simp only[Zs,Xg,ZW,Ig,List.getElem?_cons_succ]; omega
  have AM7:=Ou AM7;have CO8:t=12:=Qo;subst CO8;refine⟨hp3.some,_,_,_,hp3.ID,λvs w1=>∃(i:Nat),vs=[I (Ts W2 (k:Int) c (12+i)),I (i:Int)]/\i<=8/\Mp base pb [x] w m w1 W2 m,Zs W2.ID.length 1,λw4 SZ _=>⟨0,rfl,Qd,hZ.step SZ⟩,?_⟩;rintro iI x9 Rr eM ⟨i,he,hi,iT⟩;simp only[I5,I6,true_and,and_true] at he;obtain⟨rfl,rfl⟩:=he;have hp4:=iT.wpt;refine⟨λBi8=>?_,λCb1=>?_⟩
  ·have Bi8:=Ot Bi8;have hh:=Fc (g:=(k:Int)) hp4 pL.a (k:=(i:Int)) Qo Bi8 c0 Qo;rw[Ih] at hh
   have cZ:Ts W2 (k:Int) c (12+(i+1))=if J8 W2 (k:Int) c i=true then (if (Qc W2 (i:Int) c).v<Ts W2 (k:Int) c (12+i) then (Qc W2 (i:Int) c).v else Ts W2 (k:Int) c (12+i)) else Ts W2 (k:Int) c (12+i):=by
    rw[show 12+(i+1)=12+i+1 from rfl];simp only[Ts];rw[JZ,DR]
   refine⟨J8 W2 (k:Int) c i,hh,λga=>?_,λga=>⟨⟨Qo,Qo⟩,λw5 Sw _=>⟨⟨i+1,?_,Qo,iT.step Sw⟩,?_⟩⟩⟩
   ·have hui:Q6 W2.ID (i:Int)=true:=by
     unfold J8 at ga;simp only[A'] at ga;exact Q5.2 ⟨Qo,Bi8,ga.1.2.1⟩
    have DW3:=pL.a.sl hui;have hsh:=hp4.sh (g:=(i:Int)) (c:=c) Qo Bi8 c0 Qo;refine⟨_,Zv hp4 Qo Bi8 c0 Qo,hsh.1,_,hsh.2 (j:=2) rfl,⟨Qo,Qo⟩,λw5 Sw _=>⟨⟨i+1,?_,Qo,iT.step Sw⟩,?_⟩⟩
    ·rw[cZ,E' ga]; rfl
    ·simp only[Zs,Xg,ZW,Ig,List.getElem?_cons_succ]; omega
   ·rw[cZ,C' (by rw[ga]; decide)]; rfl
   ·simp only[Zs,Xg,ZW,Ig,List.getElem?_cons_succ]; omega
  have Cb1:=Ou Cb1;have hi8:i=8:=Qo;subst hi8;rw[show 12+8=20 from rfl,hlm];have hsh:=hp4.sh (g:=(k:Int)) (c:=c) Qo RM c0 cS;have br:=za5 pL (k:=(k:Int)) c0 Qo hK0;refine⟨λgl=>?_,λgl=>?_⟩
  ·have hb:Zw W2 (k:Int) c 20=true:=Ir λhb=>by rw[C' hb] at gl; revert gl; decide
   rw[E' hb];have e1:=iT.own.Bd2 (k:=(k:Int)) (c:=c) Qo Qo c0 cS (j:=0) (vs:=[I (if Z3 W2 (k:Int) c 20>(Qc W2 (k:Int) c).floor then Z3 W2 (k:Int) c 20 else (Qc W2 (k:Int) c).floor)]) (s:={ Qc W2 (k:Int) c with floor:=if Z3 W2 (k:Int) c 20>(Qc W2 (k:Int) c).floor then Z3 W2 (k:Int) c 20 else (Qc W2 (k:Int) c).floor }) rfl Qs
   have heq:Rz W2 (k:Int) c { Qc W2 (k:Int) c with floor:=if Z3 W2 (k:Int) c 20>(Qc W2 (k:Int) c).floor then Z3 W2 (k:Int) c 20 else (Qc W2 (k:Int) c).floor }=QS W c (k+1):=by
    rw[Wf]
    by_cases hgt:Z3 W2 (k:Int) c 20>(Qc W2 (k:Int) c).floor
    ·rw[E' hgt,E' (show (gi W2.ID (k:Int)).used=true/\Zw W2 (k:Int) c 20=true/\_>_ from ⟨g,hb,hgt⟩)]; rfl
    ·rw[C' hgt,C' (λh=>hgt h.2.2)];exact zo1 Qo RM c0 cS
   have wB:Qa (Rz W2 (k:Int) c { Qc W2 (k:Int) c with floor:=if Z3 W2 (k:Int) c 20>(Qc W2 (k:Int) c).floor then Z3 W2 (k:Int) c 20 else (Qc W2 (k:Int) c).floor }) m=Qa W2 m:=Uz (VS Qo RM).fr;refine⟨_,Zv hp4 Qo RM c0 cS,_,Zv hp4 Qo RM c0 cS,hsh.1,_,hsh.2 (j:=0) rfl,hsh.1,iT.own.B99 iT.nb Qo Qo c0 cS (j:=0) Qd,⟨Qo,Qo⟩,λw5 Sw _=>Qp (w1:=w2) Qo ⟨Qo,?_⟩⟩;rw[<-heq];exact(iT.SA e1 (zra Qo Qo) wB).step Sw
  ·have hb:¬Zw W2 (k:Int) c 20=true:=λhb=>by
    rw[E' hb] at gl;have:=Ou gl;omega
   refine⟨⟨Qo,Qo⟩,λw5 Sw _=>Qp (w1:=w2) Qo ⟨Qo,?_⟩⟩;rw[Wf,C' (λh=>hb h.2.1)];exact iT.step Sw
 ·have RN:=Ou RN;rw[hN8 Qo];exact λw3 Ra=>⟨rfl,(WN.step Ra).close⟩
theorem Mp.nil{w0 w:Wo}{m0:MW}(h:Mp base pb [] w0 m0 w W m){w':Wo}(hx:Q0 [] w w'):Mp base pb [] w0 m0 w' W m:=h.step hx
theorem D4{K:Int}(h:PW base pb w W m)(gI:SW K W)(hK0:0<=K)(hK:K+UZ<=100000000000000000) :
  Cz XI #[.pointer (pA pb)] w λe w'=>e=.returned (.tuple #[])/\Mp base pb [] w m w' (Qg W) m:=by
 refine(HJ (pA pb) (R:=λv w'=>v=.tuple #[]/\Mp base pb [] w m w' (Qg W) m) ?_).mono λe w' ⟨v,he,hv,h3⟩=>⟨by rw[he,hv],h3⟩
 have cJ:=gI.a.gl;have CZ8:=gI.a.c2;simp only[UZ,Qi] at hK;have hp0:=(Mp.start h).wpt;refine⟨hp0.some,_,_,_,hp0.IE,?_⟩;refine XC W.IE.length 0 rfl (λk w1=>k<=W.IE.length/\Mp base pb [] w m w1 (Yi W k) m) (λw1 S4 _=>⟨Ie _,(Mp.start h).R6 S4⟩) λk w1 dE ⟨hk,hM⟩=>?_
 obtain⟨hS,hO⟩:=Ok (F:=K) (K:=K+Qi) (gI.sf.mono (I3 _) (by simp only[Qi]; omega)) (I3 _) k hk;have Wf:Yi W (k+1)=QG (Yi W k) (k:Int):=rfl;have oM:k=W.IE.length->Yi W W.IE.length=Yi W k:=λe=>by rw[e]
 obtain⟨n1,n2,n3⟩:=KW hO.fr;generalize Yi W k=W1 at hM hS hO Wf oM n1 n2 n3;refine⟨λIT=>⟨_,_,XO,λJ' S4 Wc=>?_⟩,λRN=>?_⟩
 ·have IT:=Ot IT;have hM1:=hM.nil S4;refine I4 (Pt hM1.pw hS Qo (by simp only[Qi]; omega) (c:=(k:Int)) Qo Qo) ?_;rintro e Rr ⟨he,hy⟩;refine⟨he,Yo,⟨Qo,Qo⟩,λw3 Ra _=>Qp Qo ⟨Qo,?_⟩⟩;rw[Wf];exact(hM1.call hy Qs).nil Ra
 have RN:=Ou RN;have oM:=oM Qo;have SY:Qg W=XS (Lg W1) W.IE.length:=by unfold Qg; rw[oM]
 have hp1:=hM.wpt;refine⟨hp1.some,_,_,_,hp1.ID,?_⟩;refine XC W1.ID.length 0 rfl (λg w2=>g<=8/\Mp base pb [] w m w2 (Ye W1 g) m) (λw2 R3 _=>⟨Qd,hM.nil R3⟩) λg w2 Wc ⟨hg8,WN⟩=>?_
 obtain⟨pL,oK⟩:=Tp hS g hg8;have AK8:Ye W1 (g+1)=if (gi (Ye W1 g).ID (g:Int)).used=true/\(gi (Ye W1 g).ID (g:Int)).IN.IY≠0 then ZR (Ye W1 g) (g:Int) (Ye W1 g).IE.length else Ye W1 g:=rfl;have AS4:g=8->Lg W1=Ye W1 g:=λe=>by rw[e]; rfl
 have hf2:=hO.fr.trans oK.fr;generalize Ye W1 g=W2 at WN pL oK AK8 AS4 hf2;obtain⟨q1,q2,q3⟩:=KW hf2;have dQ:=WN.wpt;refine⟨λIT=>?_,λbK=>?_⟩
 ·have IT:=Ot IT;have RM:(g:Int)<(W2.ID.length:Int):=Qo;have hrl:=dQ.rd.g.Ci1 (i:=(g:Int)) Qo RM;refine⟨dQ.some,_,_,_,dQ.ID,dQ.rd.g.ix Qo RM,_,_,_,hrl,?_⟩
  by_cases hq:(gi W2.ID (g:Int)).used=true/\(gi W2.ID (g:Int)).IN.IY≠0
  ·rw[E' hq] at AK8;have hu:Q6 W2.ID (g:Int)=true:=Q5.2 ⟨Qo,RM,hq.1⟩;have hbl:=((pL.w.a.u hu).2.2.IN hq.2).2.1;refine XC (gi W2.ID (g:Int)).IN.locals.length 0 rfl (λc w3=>c<=W2.IE.length/\Mp base pb [] w m w3 (ZR W2 (g:Int) c) m) (λw3 Ra _=>⟨Ie _,WN.nil Ra⟩) λc w3 fX ⟨hc,hZ⟩=>?_
   obtain⟨hS3,hO3,hq3⟩:=Gs pL hu hq.2 c hc;have AC6:ZR W2 (g:Int) (c+1)=if gi (gi (ZR W2 (g:Int) c).ID (g:Int)).IN.locals (c:Int)>0/\QV (ZR W2 (g:Int) c) (g:Int) (c:Int)=false then RP (ZR W2 (g:Int) c) (g:Int) (ZX (gi (ZR W2 (g:Int) c).ID (g:Int)).IN (c:Int)) else ZR W2 (g:Int) c:=rfl;have CE2:c=W2.IE.length->Ye W1 (g+1)=ZR W2 (g:Int) c:=λe=>by rw[AK8,e]
   have hu3:Q6 (ZR W2 (g:Int) c).ID (g:Int)=true:=by rw[hO3.g.eO]; exact hu
   have hf3:=hf2.trans hO3.fr;generalize ZR W2 (g:Int) c=W3 at hZ hS3 hO3 hq3 AC6 CE2 hu3 hf3;obtain⟨r1,r2,r3⟩:=KW hf3;obtain⟨u0,u1,lM⟩:=hS3.w.a.u hu3;obtain⟨hb3,Cy6,_⟩:=lM.IN hq3;have Aj8:(g:Int)<(W3.ID.length:Int):=Qo;have hp3:=hZ.wpt;have hLo:=hp3.rd.g.locals (g:Int) Qo Aj8;refine⟨λlU=>?_,λAS7=>?_⟩
   ·have lU:=Ot lU;have B80:=hLo.ix Jy (i:=(c:Int)) Qo Qo;rw[Cy6,r1,<-q1,<-hbl] at B80;have A70:=K8 (g:=(g:Int)) (c:=(c:Int)) hp3 hS3.w.a Qo Qo;refine⟨B80,_,hLo (c:Int) Qo Qo,_,_,λ_=>XO,_,λ_=>A70,λg3 RQ Sw _=>?_,λg3=>?_⟩
    ·simp only[A',Ik,IC] at g3;rw[E' g3] at AC6;have hM5:=hZ.nil Sw;have CN3:Zj 8 base RQ (RP W3 (g:Int) (gi W3.ID (g:Int)).IN) m:=by rw[zdr Qo Aj8]; exact hM5.own
     refine I4 (zsj (op:=⟨3,(c:Int),0⟩) CN3 Qo Qo hb3) ?_;rintro e1 WJ ⟨gW,hB,hX⟩
     have fQ:ZE (gi W3.ID (g:Int)).IN ⟨3,(c:Int),0⟩=(ZX (gi W3.ID (g:Int)).IN (c:Int),0):=by
      unfold ZE;rw[C' (show ¬(3:Int)=4 by decide),C' (by rw[Qt.2 (by show 0<=(c:Int)/\(c:Int)<=_; omega)]; decide),C' (show ¬(3:Int)=1 by decide),C' (show ¬(3:Int)=2 by decide),E' rfl]
     rw[fQ] at gW hB
     dsimp only at gW hB
     refine⟨_,gW,Yo,⟨Qo,Qo⟩,λw6 bJ _=>Qp Qo ⟨Qo,?_⟩⟩;rw[AC6];exact(hM5.SA hB hX (Uz (Ng Qo Aj8).fr)).nil bJ
    ·refine⟨⟨Qo,Qo⟩,λw6 bJ _=>Qp Qo ⟨Qo,?_⟩⟩;rw[AC6,C']
     ·exact hZ.nil bJ
     ·rintro⟨h1,h2⟩;rw[h2,Ii h1] at g3;cases g3
   ·have AS7:=Ou AS7;refine⟨⟨Qo,Qo⟩,λw6 bJ _=>Qp Qo ⟨Qo,?_⟩⟩;rw[CE2 Qo];exact hZ.nil bJ
  ·rw[C' hq] at AK8
   have hz:(gi W2.ID (g:Int)).IN.locals.length=0:=by
    have hgp:=pL.w.a.grp (g:Int) Qo Qo
    cases hu:(gi W2.ID (g:Int)).used with
    | false=>exact(GJ (hgp.1 hu).b).2.2.2.1
    | true=>
     have h0:(gi W2.ID (g:Int)).IN.IY=0:=Ir λhn=>hq ⟨hu,hn⟩
     exact(GJ ((hgp.2 hu).none h0).1).2.2.2.1
   rw[hz];refine XC 0 0 rfl (λc w3=>c<=0/\Mp base pb [] w m w3 W2 m) (λw3 Ra _=>⟨Ie _,WN.nil Ra⟩) λc w3 fX ⟨hc,hZ⟩=>⟨λlU=>?_,λ_=>⟨⟨Qo,Qo⟩,λw6 bJ _=>Qp Qo ⟨Qo,?_⟩⟩⟩
   ·have:=Ot lU;omega
   ·rw[AK8];exact hZ.nil bJ
 have bK:=Ou bK;have AS4:=AS4 Qo;rw[AS4] at SY;have hS4:SW (K+Qi) W2:=pL.w;refine⟨dQ.some,_,_,_,dQ.IE,?_⟩;refine XC W2.IE.length 0 rfl (λk w3=>k<=W2.IE.length/\Mp base pb [] w m w3 (XS W2 k) m) (λw3 Ra _=>⟨Ie _,WN.nil Ra⟩) λk w3 fX ⟨hk,wH⟩=>?_
 obtain⟨hS7,hf7⟩:=KE hS4 (by simp only[Qi]; omega) k hk;have AS3:XS W2 (k+1)=Vb (XS W2 k) (k:Int):=rfl;have AS5:k=W2.IE.length->Qg W=XS W2 k:=λe=>by rw[SY,<-q1,e]
 have hfW:=hf2.trans hf7;obtain⟨q1,q2,q3⟩:=KW hfW;generalize XS W2 k=W7 at wH hS7 hf7 AS3 AS5 hfW q1 q2 q3;refine⟨λIT=>⟨_,_,XO,λb hb S9 AD0 oP=>?_⟩,λRN=>?_⟩
 ·have IT:=Ot IT;have hM9:=(wH.add hb).R6 AD0;have hk4:(k:Int)<=4:=Qo;have tA:(k:Int)<(W7.IE.length:Int):=Qo;have hSF:=hS7.sf.mono (F':=K+Qi+(k:Int)*Qi) (K':=K+Qi+(k:Int)*Qi+Qi) (I3 _) (by simp only[Qi]; omega);refine I4 (Pt hM9.pw hSF (I3 _) (by simp only[Qi]; omega) (c:=(k:Int)) Qo tA) ?_;rintro e2 dP ⟨aE,SJ⟩;obtain⟨hS8,hO8⟩:=Hh hSF (I3 _) (c:=(k:Int)) Qo tA;have hM8:=hM9.call SJ oP;refine⟨aE,hM9.kept SJ oP,λSm AT2 AC9=>?_⟩;have BR1:=hM8.step AT2;have cZ:Vb W7 (k:Int)=if M7 (Za (QG W7 (k:Int)) (k:Int)) (k:Int)=true then RD (Za (QG W7 (k:Int)) (k:Int)) (k:Int) else Za (QG W7 (k:Int)) (k:Int):=rfl;have c2':(k:Int)<((QG W7 (k:Int)).IE.length:Int):=by rw[hO8.c]; exact tA
  refine I4 (zlv BR1.pw hS8.w (by simp only[Qi]; omega) (by simp only[Qi]; omega) (c:=(k:Int)) Qo c2') ?_;rintro e3 qW ⟨iP,kW⟩;obtain⟨CK9,CK8⟩:=PH hS8.w (by simp only[Qi]; omega) (c:=(k:Int)) Qo c2' 8 Qd;have Aj6:=BR1.call kW AC9;have BQ9:=BR1.kept kW AC9;have Bi4:Fr W (Za (QG W7 (k:Int)) (k:Int)):=(hfW.trans hO8.fr).trans CK8.fr;have tM:SW (K+Qi+(k:Int)*Qi+Qi) (Za (QG W7 (k:Int)) (k:Int)):=CK9;generalize Za (QG W7 (k:Int)) (k:Int)=W11 at Aj6 Bi4 tM cZ;obtain⟨r1,r2,r3⟩:=KW Bi4;have hp:=Aj6.wpt;have c3':(k:Int)<(W11.IE.length:Int):=Qo;have rI:=tM.cu (k:Int) Qo c3';have kG:=tM.a.t
  have hT:((gi W11.IE (k:Int)).cur != -1)=true->0<=(gi W11.IE (k:Int)).cur/\(gi W11.IE (k:Int)).cur<(W11.tasks.length:Int):=λg=>by
   have:(gi W11.IE (k:Int)).cur≠-1:=by simpa using g
   exact⟨Qo,Qo⟩
  have B75:=Mc (c:=(k:Int)) hp Qo c3';have CG0:=GW (n:=Int.toNat (k:Int)*5) (hp.rd.c (k:Int) Qo c3');have Ws:=zba (hp.rd.c (k:Int) Qo c3') (j:=1) rfl
  have CE5:M7 W11 (k:Int)=(((gi W11.IE (k:Int)).cur != -1) && !(((Q8 W11 (gi W11.IE (k:Int)).cur).M'==(k:Int))&&ZF W11 (gi W11.IE (k:Int)).cur)):=by
   unfold M7
   have e:decide ((gi W11.IE (k:Int)).cur>=0)=((gi W11.IE (k:Int)).cur != -1):=by
    by_cases hc:(gi W11.IE (k:Int)).cur = -1
    ·rw[hc]; rfl
    ·rw[Iu.2 hc,Ii Qo]
   rw[e,Bool.not_and];rfl
  refine⟨iP,BQ9,_,B75,CG0,_,Ws,_,λ_=>B75,λ_=>CG0,_,λ_=>Ws,_,λg=>D1 hp tM.a (hT g).1 (hT g).2 Qo c3' (λhs=>(tM.li (hT g).1 (hT g).2 hs).1),λg Sv wL AT1=>?_,λg=>?_⟩
  ·have BR2:=Aj6.step wL;refine I4 (Oh BR2.pw (c:=(k:Int)) Qo c3') ?_;rintro e4 pH ⟨he4,lB⟩;refine⟨he4,BR2.kept lB AT1,⟨Qo,Qo⟩,λw6 bJ _=>Qp Qo ⟨Qo,?_⟩⟩;rw[AS3,cZ,E' (by rw[CE5]; exact g)];exact((BR2.call lB AT1).step bJ).close
  ·refine⟨⟨Qo,Qo⟩,λw6 bJ _=>Qp Qo ⟨Qo,?_⟩⟩;rw[AS3,cZ,C' (by rw[CE5,g]; decide)];exact(Aj6.step bJ).close
 ·have RN:=Ou RN;rw[AS5 Qo];exact λw9 mF=>⟨rfl,wH.nil mF⟩
end
section
variable {b:Js}{m:MG}{w:Wo}
theorem zn8(h1:znf [] w m.lO b.locals)(h2:ztv [] w m.dO b.Ry)(l1:b.locals.length<=1048576)(l2:b.Ry.length<=1048576) :
  Cz O0 #[.agg (QZ b m).toArray] w λe w'=>∃p,e=.returned (.agg (QZ b p).toArray)/\Z5 w.heap.size w' b p/\Q0 [] w w':=by
 refine(AN b.IY b.RJ b.Sy m.lO b.locals.length m.lC m.dO b.Ry.length m.dC (R:=λv w'=>∃p,v=.agg (QZ b p).toArray/\Z5 w.heap.size w' b p/\Q0 [] w w') ?_).mono λe w' ⟨v,he,p,hv,h3⟩=>⟨p,by rw[he,hv],h3⟩
 have hm9:=Zo;intro x hx x5 Sw wr tF hs0;have s0:Sc w [x,x5] wr:=(((Sc.start w).add hx).add Sw).R6 tF;refine⟨_,_,_,_,Kd Y3 P6 b.locals.length Qo Qo wr,Qe (Z8 _ _) hs0,λJ' S4 dE=>?_⟩;have hL0:Ob Jd 1 Qb wr.heap.size [x,x5] _ (some ⟨wr.heap.size,0,none⟩) b.locals.length (List.replicate b.locals.length (0:Int)):=Ob.of (V7 (enc:=Jd) Y3.len Qb b.locals.length (0:Int) wr) hs0;have s1:=(s0.R6 (Z8 wr (.cells ((List.replicate b.locals.length (0:Int)).flatMap Jd).toArray Qb))).step S4;have hL1:=hL0.step S4;obtain⟨n1,w2,BD1,hL2,cX⟩:=zq2 Y3 P6 z1f Qd (c2:=m.lC) hL1.own (h1.ext s1.ext) (m:=b.locals) Qs Qb #[false,false];rw[List.length_replicate] at BD1;have s2:=s1.call cX λy hy=>IB s0.ext.size (hL1.own.lt y hy).1
 have Cx0:Ob Jd 1 Qb wr.heap.size [x,x5] w2 (some ⟨wr.heap.size,0,none⟩) b.locals.length b.locals:=⟨hL2,hL1.nb⟩;refine⟨_,_,BD1,GD cX dE hL1.nb,λO' R3 Wc=>⟨_,_,_,_,Kd Ys KG b.Ry.length Qo Qo O',Qe (Z8 _ _) Wc,λRu Ra fX=>?_⟩⟩;have s3:=((s2.step R3).R6 (Z8 O' (.cells ((List.replicate b.Ry.length false).flatMap PR).toArray Y6))).step Ra;have hL3:=((Cx0.step R3).R6 (Z8 O' (.cells ((List.replicate b.Ry.length false).flatMap PR).toArray Y6))).step Ra;have hD0:Ob PR 1 Y6 O'.heap.size [x,x5] _ (some ⟨O'.heap.size,0,none⟩) b.Ry.length (List.replicate b.Ry.length false):=Ob.of (V7 (enc:=PR) Ys.len Y6 b.Ry.length false O') Wc;have hD1:=hD0.step Ra;obtain⟨n2,w4,BD2,hD2,SJ⟩:=zq2 Ys KG z2m Qd (c2:=m.dC) hD1.own (h2.ext s3.ext) (m:=b.Ry) Qs Qb #[false,false];rw[List.length_replicate] at BD2;have hz2:w.heap.size<=O'.heap.size:=(s2.step R3).ext.size;have s4:=s3.call SJ λy hy=>IB hz2 (hD1.own.lt y hy).1
 have hL4:=hL3.call SJ (hL3.own.Wb hD1.own Qd);have hD3:Ob PR 1 Y6 O'.heap.size [x,x5] w4 (some ⟨O'.heap.size,0,none⟩) b.Ry.length b.Ry:=⟨hD2,hD1.nb⟩;exact⟨_,_,BD2,GD SJ fX hD1.nb,λRC SZ=>⟨⟨some ⟨wr.heap.size,0,none⟩,b.locals.length,some ⟨O'.heap.size,0,none⟩,b.Ry.length,none,0⟩,rfl,⟨(hL4.step SZ).own.mono s0.ext.size,(hD3.step SZ).own.mono hz2⟩,(s4.step SZ).ext⟩⟩
end
theorem FP{α:Type}[Inhabited α]{P:Program}{enc:α->List Va}{z:Nat}{ty t:TypeId}{bytes:Nat}{zero:α}(E:zpj P enc z ty bytes zero)(ht:P.underlying t=some (.slice ty))(Bw8:∀x,Zi (enc x)=true)(hz0:0<z){w:Wo}{o:OA}{c:Nat}{l:List α}(h:Rd enc z [] w o l)(hl:l.length<=1048576)(hby:bytes<=1000)(tr:TypeId)(cs:Array Bool) :
  ∃o' c' w',(builtin .append #[t,t] tr cs #[.slice none 0 0,.slice o l.length c]).run P w=.ok (.value (.slice o' l.length c')) w'/\Ud enc z ty w.heap.size w' o' c' l/\Q0 [] w w':=by
 have hO:Ud enc z ty w.heap.size w none 0 ([]:List α):=.inl ⟨rfl,rfl,rfl⟩
 have hbb:(2*(([]:List α).length+l.length))*bytes<=281474976710656:=by
  rw[List.length_nil,Nat.zero_add];exact IB (Nat.mul_le_mul (show 2*l.length<=2097152 by omega) hby) Qd
 obtain⟨o',c',w',h1,h2,h3,_⟩:=zq1 E ht hO (zwm E.len Bw8 ht h (c:=c) hz0) hbb (by rw[List.length_nil]; omega) tr (I8 _);rw[List.length_nil,Nat.zero_add] at h1;exact⟨o',c',w',za7 h1,h2,h3⟩
theorem zmf(W:Q7)(ms:Nat->MG)(n k:Nat)(hk:k<n)(p:MG):(TK W ms n).set k (gi W.ID (k:Int),p)=TK W (λj=>if j=k then p else ms j) n:=by
 refine zn1 (by rw[H',YW,YW]) λj hj=>?_
 rw[H',YW] at hj;have:=QI (TK W ms n) (gi W.ID (k:Int),p) (i:=(k:Int)) Qo (by rw[YW]; omega) (j:=(j:Int)) Qo;rw[Ih] at this;rw[this,Ho Qo Qo,Ho Qo Qo]
 by_cases e:k=j
 ·subst e; simp
 ·rw[C' Qo,C' (by simp; omega)]
theorem zop(W:Q7){ms ms':Nat->MG}{n:Nat}(h:∀j,j<n->ms j=ms' j):TK W ms n=TK W ms' n:=by
 unfold TK;exact List.map_congr_left λj hj=>by rw[h j (List.mem_range.1 hj)]
section
variable {W:Q7}{m:MW}{w:Wo}
theorem NU(h:Xl [] w W m)(ha:WA W) :
  Cz U3 #[.agg (Qa W m).toArray] w λe w'=>∃m',e=.returned (.agg (Qa W m').toArray)/\Zj 8 w.heap.size w' W m'/\Q0 [] w w':=by
 refine(BG _ _ _ _ _ _ _ _ _ _ (R:=λv w'=>∃m',v=.agg (Qa W m').toArray/\Zj 8 w.heap.size w' W m'/\Q0 [] w w') ?_).mono λe w' ⟨v,he,m',hv,h3⟩=>⟨m',by rw[he,hv],h3⟩
 have sK:=ha.c2;have kG:=ha.t;have cJ:=ha.gl;intro x hx x1 S4 x2 R3 wr tF hs0;have s0:Sc w [x,x1,x2] wr:=((((Sc.start w).add hx).add S4).add R3).R6 tF;obtain⟨cO,cC,w1,BD1,hC1,cX⟩:=FP KT Kf z1e Qd (c:=m.cC) (h.c.ext s0.ext) Qo Qd Zr #[false,false];refine⟨_,_,_,_,BD1,Qe cX hs0,λJ' Cg5 dE=>?_⟩;have s1:=(s0.R6 cX).step Cg5;have hC2:=(Ob.of hC1 hs0).step Cg5;obtain⟨tO,tC,w2,BD2,hT1,SJ⟩:=FP OX Ms z2o Qd (c:=m.tC) (h.t.ext s1.ext) Qo Qd Z2 #[false,false];refine⟨_,_,_,_,BD2,Qe SJ dE,λO' CP1 Wc=>?_⟩;have s2:=(s1.R6 SJ).step CP1;have hC3:=(hC2.R6 SJ).step CP1;have hT3:=(Ob.of hT1 dE).step CP1
 have hrp:Rd TH 14 [] O' m.gO (TK W m.ms 8):=λi h0 hi=>by
  rw[YW] at hi;rw[Ho h0 hi];exact(h.g.ext s2.ext).cells i h0 Qo
 obtain⟨gO,gC,w3,Bx2,hG1,kW⟩:=FP Y7 Pp (λp=>z2n p.1 p.2) Qd (c:=m.gC) hrp (by rw[YW]; decide) Qd QA #[false,false];rw[YW] at Bx2;have Bx3:(builtin .append #[QA,QA] QA #[false,false] #[.slice none 0 0,.slice m.gO W.ID.length m.gC]).run Tryz.prog O'=.ok (.value (.slice gO W.ID.length gC)) w3:=by rw[cJ]; exact Bx2
 have z1:w.heap.size<=J'.heap.size:=s1.ext.size;have z2:w.heap.size<=O'.heap.size:=s2.ext.size;have s3:=s2.R6 kW;have hC4:=(hC3.R6 kW).mono s0.ext.size;have hT4:=(hT3.R6 kW).mono z1;have hG4:=Ob.of hG1 Wc
 refine⟨_,_,_,_,Bx3,Qe kW Wc,λvs w4=>∃(k:Nat) (ms:Nat->MG),vs=[I (k:Int)]/\k<=8/\Sc w [x,x1,x2] w4/\O'.heap.size<=w4.heap.size/\Ob KU 5 Zy w.heap.size [x,x1,x2] w4 cO cC W.IE/\Ob Xa 9 QR w.heap.size [x,x1,x2] w4 tO tC W.tasks/\Ob TH 14 QL O'.heap.size [x,x1,x2] w4 gO gC (TK W ms 8)
   /\ (∀j,j<k->Py O'.heap.size w4 (gi W.ID (j:Int),ms j)/\∀y∈Qm (ms j),y∉[x,x1,x2])/\(∀i j,i<k->j<k->i≠j->∀y∈Qm (ms i),y∉Qm (ms j))/\(∀j,k<=j->ms j=m.ms j),
  Zs W.ID.length 0,λw4 SZ _=>⟨0,m.ms,rfl,Qd,s3.step SZ,IB kW.size SZ.size,hC4.step SZ,hT4.step SZ,hG4.step SZ,λj hj=>by omega,λi j hi=>by omega,λj _=>rfl⟩,?_⟩
 clear s3 hC4 hT4 hG4 hG1 hrp Bx2 Bx3 hC3 hT3 hC2 hT1 BD1 BD2 hC1;rintro x9 S5 fX ⟨k,ms,he,hk,s3,z3,hC,hT,hG,hE,hJ,hF⟩;simp only[I5,I6,true_and,and_true] at he;subst he;refine⟨λIT=>?_,λRN=>?_⟩
 ·have IT:=Ot IT;have hrb:Ld [x,x1,x2] S5 m.gO W.ID m.ms:=(h.g.wide (cs:=[x,x1,x2]) λy hm=>.inr (s3.new y hm)).ext s3.ext.of_nil;have Wg:=hrb.ix (i:=(k:Int)) Qo IT;obtain⟨bl1,bl2,bl3⟩:=Kk ha (k:=(k:Int)) Qo Qo;refine⟨Wg,_,_,_,_,_,_,_,_,_,_,_,_,_,_,_,_,_,_,_,_,hrb.cells (k:Int) Qo IT,λb3 hb3 RC SZ eM=>?_⟩;have s4:=s3.put SZ hb3;have hC4:=hC.put SZ hb3;have hT4:=hT.put SZ hb3;have hG4:=hG.put SZ hb3;have hr4:=h.g.ext s4.ext;have z4:O'.heap.size<=RC.heap.size:=IB z3 SZ.size;refine I4 (zn8 (hr4.locals (k:Int) Qo IT) (hr4.Ry (k:Int) Qo IT) Qo Qo) ?_;rintro e bV ⟨p,he,hB,lB⟩;have s5:=s4.R6 lB;have hC5:=hC4.R6 lB;have hT5:=hT4.R6 lB;have hG5:=hG4.R6 lB;have tD:gi (TK W ms 8) (k:Int)=(gi W.ID (k:Int),ms k):=by rw[Ho Qo Qo,Ih]
  have hmk:ms k=m.ms k:=hF k (I8 _);have hBn:∀y∈ZI p,RC.heap.size<=y:=λy hm=>(hB.lt y hm).1
  have e1:=hG5.own.R8 Y7.len (i:=(k:Int)) Qo (by rw[YW]; omega) (j:=8) (vs:=QZ (gi W.ID (k:Int)).IN p) (x:=(gi W.ID (k:Int),TL (ms k) p)) (by rw[tD]; rfl) (by simp[QZ]);have Cb2:=hG5.own.ix (i:=(k:Int)) Qo (by rw[YW]; omega);have Cb5:=hG5.own.wr Y7.len hG5.nb (i:=(k:Int)) Qo (by rw[YW]; omega) (j:=8) (n:=5) Qd;rw[YW] at Cb2;have CE4:Ix gO W.ID.length (k:Int):=by rw[cJ]; exact Cb2
  simp only[Ih] at e1 Cb5;rw[zmf W ms 8 k Qo] at e1;refine⟨_,_,_,_,_,_,_,_,_,he,Qe lB eM,rfl,CE4,Cb5,λRQ Sw lV=>?_⟩;have hX5:=hG5.own.qR (k*14+8) (QZ (gi W.ID (k:Int)).IN p);have s6:=(s5.call hX5 λy hy=>IB z2 (hG5.own.lt y hy).1).step Sw;have hC6:=(hC5.call hX5 (hC5.own.Wb hG5.own Qd)).step Sw;have hT6:=(hT5.call hX5 (hT5.own.Wb hG5.own Qd)).step Sw;have hG6:Ob TH 14 QL O'.heap.size ([x,x1,x2]++[b3]) RQ gO gC (TK W (λj=>if j=k then TL (ms k) p else ms j) 8):=(⟨e1,hG5.nb⟩:Ob TH 14 QL O'.heap.size ([x,x1,x2]++[b3]) _ gO gC _).step Sw
  have B64:∀y∈ZI p,y∉[x,x1,x2]++[b3]:=λy hm gE=>by
   have:=hBn y hm;have:=eM y gE;omega
  have hBg:∀y∈ZI p,y∉QD gO:=λy hm gE=>by
   have:=hBn y hm;have:=(hG4.own.lt y gE).2;omega
  have hB6:=(hB.ext hX5 hBg).ext Sw B64;have z5:RC.heap.size<=RQ.heap.size:=IB (IB lB.size hX5.size) Sw.size;obtain⟨sO,sC,w6,Ce9,hS6,hy6⟩:=FP VR Pq z1g Qd (c:=(m.ms k).sC) ((h.g.ext s6.ext).IF (k:Int) Qo IT) Qo Qd Z9 #[true,false];have s7:=s6.R6 hy6;have hC7:=hC6.R6 hy6;have hT7:=hT6.R6 hy6;have hG7:=hG6.R6 hy6;have hB7:=hB6.WG hy6
  have C01:gi (TK W (λj=>if j=k then TL (ms k) p else ms j) 8) (k:Int)=(gi W.ID (k:Int),TL (ms k) p):=by
   rw[Ho Qo Qo,Ih,E' rfl]
  have e2:=hG7.own.R8 Y7.len (i:=(k:Int)) Qo (by rw[YW]; omega) (j:=13) (vs:=[.slice sO (gi W.ID (k:Int)).IF.length sC]) (x:=(gi W.ID (k:Int),⟨p.lO,p.lC,p.dO,p.dC,sO,sC⟩)) (by rw[C01]; rfl) Qs;have CE6:=hG7.own.wr Y7.len hG7.nb (i:=(k:Int)) Qo (by rw[YW]; omega) (j:=13) (n:=1) Qd;simp only[Ih] at e2 CE6;rw[zmf _ _ 8 k Qo] at e2
  have C20:TK W (λj=>if j=k then (⟨p.lO,p.lC,p.dO,p.dC,sO,sC⟩:MG) else if j=k then TL (ms k) p else ms j) 8=TK W (λj=>if j=k then (⟨p.lO,p.lC,p.dO,p.dC,sO,sC⟩:MG) else ms j) 8:=zop W λj _=>by
   by_cases e:j=k
   ·rw[E' e,E' e]
   ·rw[C' e,C' e,C' e]
  rw[C20] at e2;have hX7:=hG7.own.qR (k*14+13) [.slice sO (gi W.ID (k:Int)).IF.length sC];refine⟨_,_,_,_,Ce9,Qe hy6 lV,rfl,CE4,CE6,⟨Qo,Qo⟩,λw9 mF _=>⟨⟨k+1,λj=>if j=k then (⟨p.lO,p.lC,p.dO,p.dC,sO,sC⟩:MG) else ms j,rfl,Qo,?_,?_,?_,?_,?_,?_,?_,?_⟩,?_⟩⟩
  ·exact((s7.call hX7 λy hy=>IB z2 (hG7.own.lt y hy).1).step mF).sub Qs
  ·exact IB (IB (IB (IB z4 z5) hy6.size) hX7.size) mF.size
  ·exact((hC7.call hX7 (hC7.own.Wb hG7.own Qd)).step mF).sub Qs
  ·exact((hT7.call hX7 (hT7.own.Wb hG7.own Qd)).step mF).sub Qs
  ·exact((⟨e2,hG7.nb⟩:Ob TH 14 QL O'.heap.size ([x,x1,x2]++[b3]) _ gO gC _).step mF).sub Qs
  ·intro j hj;have hSn:∀y∈QD sO,RQ.heap.size<=y:=λy hm=>(hS6.lt y hm).1
   by_cases e:j=k
   ·subst e;simp only[if_true]
    have CY8:∀y∈QD sO,y∉[x,x1,x2]++[b3]:=λy hm gE=>by
     have:=hSn y hm;have:=lV y gE;omega
    have hO9:Py O'.heap.size w9 (gi W.ID (j:Int),⟨p.lO,p.lC,p.dO,p.dC,sO,sC⟩):=by
     have hB9:=((hB7.ext hX7 hBg).ext mF B64).mono z4;exact⟨hB9.loc,hB9.Ry,(((hS6.ext hX7 (hS6.Wb hG7.own Qd)).ext mF CY8)).mono (IB z4 z5)⟩
    refine⟨hO9,λy hm gE=>?_⟩;have CN1:y∈[x,x1,x2]++[b3]:=Ib _ gE;simp only[Qm,Io] at hm;rcases hm with (hm | hm) | hm
    ·exact B64 y (Ib _ hm) CN1
    ·exact B64 y (Iy _ hm) CN1
    ·exact CY8 y hm CN1
   ·dsimp only
    rw[C' e];obtain⟨hm1,hm2⟩:=hE j Qo;refine⟨?_,hm2⟩
    have Cd4:∀y∈Qm (ms j),y∉[x,x1,x2]++[b3]:=λy hm gE=>by
     rcases Io.1 gE with h1 | h1
     ·exact hm2 y hm h1
     ·have:y=b3:=by simpa using h1
      have:=(hm1.lt y hm).2;omega
    have hgg:∀y∈Qm (ms j),y∉QD gO:=XP (p:=(gi W.ID (j:Int),ms j)) hG.own hm1;exact((((((hm1.ext SZ hm2).WG lB).ext hX5 hgg).ext Sw Cd4).WG hy6).ext hX7 hgg).ext mF Cd4
  ·intro i j hi hj hij y hm gE
   dsimp only at hm gE
   have pQ:∀y∈Qm (⟨p.lO,p.lC,p.dO,p.dC,sO,sC⟩:MG),RC.heap.size<=y:=λy hm=>by
    simp only[Qm,Io] at hm;rcases hm with (hm | hm) | hm
    ·exact hBn y (Ib _ hm)
    ·exact hBn y (Iy _ hm)
    ·exact IB z5 (hS6.lt y hm).1
   have hold:∀j,j<k->∀y∈Qm (ms j),y<RC.heap.size:=λj hj y hm=>Nat.lt_of_lt_of_le ((hE j hj).1.lt y hm).2 SZ.size
   by_cases e1:i=k
   ·rw[E' e1] at hm
    by_cases e2:j=k
    ·omega
    ·rw[C' e2] at gE;have:=pQ y hm;have:=hold j Qo y gE;omega
   ·rw[C' e1] at hm
    by_cases e2:j=k
    ·rw[E' e2] at gE;have:=pQ y gE;have:=hold i Qo y hm;omega
    ·rw[C' e2] at gE;exact hJ i j Qo Qo hij y hm gE
  ·intro j hj
   dsimp only
   rw[C' Qo];exact hF j Qo
  ·simp only[Zs,Xg,ZW,Ig]; omega
 ·have RN:=Ou RN;have hk8:k=8:=Qo;subst hk8;refine λw9 mF=>⟨⟨cO,cC,tO,tC,gO,gC,ms⟩,rfl,⟨(hC.step mF).own,(hT.step mF).own,?_,cJ⟩,(s3.step mF).ext⟩
  have e:zoq W ⟨cO,cC,tO,tC,gO,gC,ms⟩=TK W ms 8:=by unfold zoq TK; rw[cJ]
  rw[e]
  have hgi:∀i:Int,0<=i->i<((TK W ms 8).length:Int)->i.toNat<8/\gi (TK W ms 8) i=(gi W.ID ((i.toNat:Nat):Int),ms i.toNat):=λi a b=>by
   rw[YW] at b;refine⟨Qo,?_⟩;rw[Ho a b,show ((i.toNat:Nat):Int)=i by omega]
  refine⟨(hG.step mF).own.mono z2,λi a b=>?_,λi j a b a' b' hij=>?_⟩
  ·obtain⟨c1,c2⟩:=hgi i a b;rw[c2];exact((hE _ c1).1.ext mF (hE _ c1).2).mono z2
  ·obtain⟨c1,c2⟩:=hgi i a b;obtain⟨d1,d2⟩:=hgi j a' b';rw[c2,d2];exact hJ _ _ c1 d1 Qo
end
end Go.Proofs.YtnclplgaicdapaaGreatDoor
