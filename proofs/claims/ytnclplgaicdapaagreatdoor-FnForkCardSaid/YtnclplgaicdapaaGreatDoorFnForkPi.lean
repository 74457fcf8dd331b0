/- Part 9 of what the law FnFork needs. -/
import Derived.Test.YtnclplgaicdapaaGreatDoorFnForkPh
set_option linter.unusedVariables false
set_option linter.unusedSimpArgs false
set_option maxRecDepth 100000
set_option maxHeartbeats 8000000
namespace Go.Proofs.YtnclplgaicdapaaGreatDoor
open Go.RowKit
structure XS (W W':Q7):Prop where
 n:W'.now=W.now
 c:W'.IF=W.IF
 t:W'.tasks=W.tasks
 g:Z1 W.IE W'.IE
 b:∀i:Int,0<=i->(gi W'.IE i).IQ=(gi W.IE i).IQ
 l:∀i:Int,0<=i->(gi W'.IE i).IG.length=(gi W.IE i).IG.length
theorem XS.refl(W:Q7):XS W W:=⟨rfl,rfl,rfl,Z1.refl _,λ_ _=>rfl,λ_ _=>rfl⟩
theorem XS.trans{A B C:Q7}(h:XS A B)(k:XS B C):XS A C:=⟨k.n.trans h.n,k.c.trans h.c,k.t.trans h.t,h.g.trans k.g,λi hi=>(k.b i hi).trans (h.b i hi),λi hi=>(k.l i hi).trans (h.l i hi)⟩
theorem UW{W:Q7}{g c:Int}{s:KN}(h0:0<=g)(h1:g<(W.IE.length:Int)):XS W (Rx W g c s):=⟨rfl,rfl,rfl,J5 h0 h1,λ_ hi=>zg7 h0 h1 hi,λ_ hi=>NA h0 h1 hi⟩
theorem Fw{F K:Int}{W:Q7}(h:SF F K W)(hk:F+Qj<=K){c d:Int}(d1:1<=d)(c0:0<=c)(c1:c<(W.IF.length:Int)):∀k:Nat,k<=8->SF F K (Zi W c d k)/\XS W (Zi W c d k)
 | 0,_=>⟨h,XS.refl _⟩
 | k+1,hk8=>by
  obtain⟨ih,io⟩:=Fw h hk (d:=d) d1 c0 c1 k Qo;have hl:=ih.w.a.gl;simp only[Zi];split
  ·rename_i hc;have hu:Q6 (Zi W c d k).IE (k:Int)=true:=Q5.2 ⟨Qo,Qo,hc.1⟩;exact⟨zvh ih hk hu hc.2 d1 c0 (by rw[io.c]; exact c1),io.trans (UW Qo Qo)⟩
  ·exact⟨ih,io⟩
theorem Hc{F K:Int}{W:Q7}(h:SF F K W)(hk:F+Qj<=K){c:Int}(c0:0<=c)(c1:c<(W.IF.length:Int)):∀j:Nat,j<=3->SF F K (Yy W c j)/\XS W (Yy W c j)
 | 0,_=>⟨h,XS.refl _⟩
 | j+1,hj=>by
  obtain⟨a1,b1⟩:=Hc h hk c0 c1 j Qo;obtain⟨a2,b2⟩:=Fw a1 hk (c:=c) (d:=3-(j:Int)) Qo c0 (by rw[b1.c]; exact c1) 8 Qo;exact⟨a2,b1.trans b2⟩
theorem Hb{F K:Int}{W:Q7}(h:SF F K W)(hk:F+Qj<=K){c:Int}(c0:0<=c)(c1:c<(W.IF.length:Int)):SF F K (QL W c)/\XS W (QL W c):=Hc h hk c0 c1 3 (I8 _)
def Y2(W:Q7):Nat->Q7
 | 0=>W
 | c+1=>QL (Y2 W c) (c:Int)
theorem Oq{F K:Int}{W:Q7}(h:SF F K W)(hk:F+Qj<=K):∀c:Nat,c<=W.IF.length->SF F K (Y2 W c)/\XS W (Y2 W c)
 | 0,_=>⟨h,XS.refl _⟩
 | c+1,hc=>by
  obtain⟨a,b⟩:=Oq h hk c Qo;obtain⟨a2,b2⟩:=Hb a hk (c:=(c:Int)) Qo (by rw[b.c]; omega);exact⟨a2,b.trans b2⟩
def Y5(b:JB)(c:Int):JB:={ b with RJ:=b.RJ+gi b.locals c,locals:=b.locals.set c.toNat 0,Rz:=if b.RJ+gi b.locals c>0 then List.replicate b.Rz.length false else b.Rz }
theorem GR(l:List Int)(c:Int)(x:Int)(c0:0<=c)(c1:c<(l.length:Int)):∀k:Nat,Vs (l.set c.toNat x) k=Vs l k+if c<(k:Int) then x-gi l c else 0
 | 0=>by simp only[Vs]; rw[C' Qo]; omega
 | k+1=>by
  simp only[Vs];rw[GR l c x c0 c1 k,QG _ _ c0 c1 Qo]
  by_cases e:c=(k:Int)
  ·subst e;rw[C' Qo,E' rfl,E' Qo]; omega
  ·rw[C' e]
   by_cases h:c<(k:Int)
   ·rw[E' h,E' Qo]; omega
   ·rw[C' h,C' Qo]; omega
theorem zkv{l:List Int}(h:∀c:Int,0<=c->c<(l.length:Int)->0<=gi l c){c:Int}(c0:0<=c):∀k:Nat,k<=l.length->0<=Vs l k/\(c<(k:Int)->gi l c<=Vs l k)
 | 0,_=>by simp only[Vs]; exact⟨Qo,λh=>by omega⟩
 | k+1,hk=>by
  have ih:=zkv h c0 k Qo;have:=h (k:Int) Qo Qo;simp only[Vs];refine⟨Qo,λhc=>?_⟩
  by_cases e:c=(k:Int)
  ·subst e; omega
  ·have:=ih.2 Qo; omega
theorem Pl{α:Type}[Inhabited α](n:Nat)(x:α){i:Int}(h0:0<=i)(h1:i<(n:Int)):gi (List.replicate n x) i=x:=by
 obtain⟨k,rfl⟩:=Int.eq_ofNat_of_zero_le h0;rw[Ui (by simp; omega)]; simp
theorem zly{b:JB}(h:V4 b){c:Int}(c0:0<=c)(c1:c<(b.locals.length:Int))(hp:0<gi b.locals c):V4 (Y5 b c)/\(Y5 b c).locals.length=b.locals.length/\(Y5 b c).IZ=b.IZ:=by
 have hs:=GR b.locals c 0 c0 c1 b.locals.length;rw[E' c1] at hs;have hn:=zkv (λd d0 d1=>(h.each d d0 d1).1) c0 b.locals.length (I8 _);have hn2:=hn.2 c1;have p1:=h.p1;have s1:=h.s1;have su:=h.sum;have B05:b.RJ+gi b.locals c>0:=Qo;refine⟨⟨h.q1,h.q2,?_,?_,?_,?_,?_,h.s1,h.s2,λd d0 d1=>?_,?_⟩,by simp[Y5],rfl⟩
 ·simp only[Y5,H']; exact h.l1
 ·simp only[Y5,H']; exact h.l2
 ·simp only[Y5]; rw[E' B05]; simp[h.dl]
 ·simp only[Y5]; omega
 ·simp only[Y5]; omega
 ·simp only[Y5,H'] at d1 ⊢;have hd:=h.dl;have he:=h.each d d0 d1;rw[E' B05,Pl _ _ d0 Qo,QG _ _ c0 c1 d0];have:=h.q1;refine⟨?_,?_,λh=>by cases h⟩
  ·split <;> omega
  ·split <;> omega
 ·simp only[Y5,H'];rw[hs]; omega
def ZZ(W:Q7)(k:Int):Nat->Q7
 | 0=>W
 | c+1=>if gi (gi (ZZ W k c).IE k).IQ.locals (c:Int)>0/\QV (ZZ W k c) k (c:Int)=false then RP (ZZ W k c) k (Y5 (gi (ZZ W k c).IE k).IQ (c:Int)) else ZZ W k c
def Yi(W:Q7):Nat->Q7
 | 0=>W
 | k+1=>if (gi (Yi W k).IE (k:Int)).used=true/\(gi (Yi W k).IE (k:Int)).IQ.IZ≠0 then ZZ (Yi W k) (k:Int) (Yi W k).IF.length else Yi W k
def Ll(W:Q7):Q7:=Yi W 8
structure Td (W W':Q7):Prop where
 n:W'.now=W.now
 c:W'.IF=W.IF
 t:W'.tasks=W.tasks
 g:Z1 W.IE W'.IE
 s:∀i:Int,0<=i->(gi W'.IE i).IG=(gi W.IE i).IG
theorem Td.refl(W:Q7):Td W W:=⟨rfl,rfl,rfl,Z1.refl _,λ_ _=>rfl⟩
theorem Td.trans{A B C:Q7}(h:Td A B)(k:Td B C):Td A C:=⟨k.n.trans h.n,k.c.trans h.c,k.t.trans h.t,h.g.trans k.g,λi hi=>(k.s i hi).trans (h.s i hi)⟩
theorem Ni{W:Q7}{g:Int}{b:JB}(h0:0<=g)(h1:g<(W.IE.length:Int)):Td W (RP W g b):=⟨rfl,rfl,rfl,U5 h0 h1 rfl rfl rfl,λi hi=>by
 unfold RP;rw[Yz h0 h1 hi];split
 ·rename_i e; subst e; rfl
 ·rfl⟩
theorem SF.BK6{F K:Int}{W W':Q7}(h:SF F K W)(ho:Td W W')(ha:WA W'):SF F K W':=by
 have e:∀k c:Int,Q6 W'.IE k=true->Qb W' k c=Qb W k c:=λk c hu=>by unfold Qb; rw[ho.s k (Q5.1 hu).1]
 have et:∀t:Int,Q9 W' t=Q9 W t:=λt=>by unfold Q9; rw[ho.t]
 refine⟨⟨ha,λt a b n=>?_,λt a b=>by rw[et]; exact h.w.tv t a b,λk c u a b=>?_,λc a b=>?_⟩,λk c u a b=>?_⟩
 ·rw[et] at n ⊢; rw[ho.g.fD,ho.c]; exact h.w.t t a b n
 ·rw[e k c u]; rw[ho.g.fD] at u; rw[ho.c] at b; exact h.w.s k c u a b
 ·rw[ho.c] at b ⊢; exact h.w.cu c a b
 ·rw[e k c u]; rw[ho.g.fD] at u; rw[ho.c] at b; exact h.f k c u a b
theorem WA.RP{W:Q7}(ha:WA W){g:Int}{b:JB}(hu:Q6 W.IE g=true)(hq:(gi W.IE g).IQ.IZ≠0)(hb:V4 b)(hl:b.locals.length=W.IF.length)(he:b.IZ=(gi W.IE g).IQ.IZ):WA (RP W g b):=by
 obtain⟨u0,u1,hg⟩:=ha.u hu;have hb0:=hg.IQ hq;refine ha.set u0 u1 rfl rfl rfl (λhn=>?_) λ_=>⟨hg.w1,hg.w2,hg.m,hg.m0,hg.s,hg.len,λh=>⟨(hg.root h).1,(hg.root h).2.1,by show b.IZ=0; rw[he]; exact(hg.root h).2.2⟩,λh=>Is (he.symm.trans h) hq,λ_=>⟨hb,hl,hb0.2.2⟩⟩
 have:(gi W.IE g).used=false:=hn;rw[(Q5.1 hu).2.2] at this;cases this
theorem Gk{F K:Int}{W:Q7}(h:SF F K W){k:Int}(hu:Q6 W.IE k=true)(hq:(gi W.IE k).IQ.IZ≠0):∀c:Nat,c<=W.IF.length->SF F K (ZZ W k c)/\Td W (ZZ W k c)/\(gi (ZZ W k c).IE k).IQ.IZ≠0
 | 0,_=>⟨h,Td.refl _,hq⟩
 | c+1,hc=>by
  obtain⟨a,b,q⟩:=Gk h hu hq c Qo;simp only[ZZ];split
  ·rename_i uZ;have hu':Q6 (ZZ W k c).IE k=true:=by rw[b.g.fD]; exact hu
   obtain⟨u0,u1,hg⟩:=a.w.a.u hu';have hb:=hg.IQ q;have hl:=a.w.a.gl;have tP:(ZZ W k c).IF.length=W.IF.length:=by rw[b.c]
   obtain⟨g1,g2,g3⟩:=zly hb.1 (c:=(c:Int)) Qo Qo uZ.1;have ho:=Ni (W:=ZZ W k c) (b:=Y5 (gi (ZZ W k c).IE k).IQ (c:Int)) u0 Qo;refine⟨a.BK6 ho (a.w.a.RP hu' q g1 (by rw[g2,hb.2.1]) g3),b.trans ho,?_⟩;show (gi (Rf _ k _).IE k).IQ.IZ≠0;rw[Yz u0 Qo u0,E' rfl];exact λe=>q (by rw[<-g3]; exact e)
  ·exact⟨a,b,q⟩
theorem Vn{F K:Int}{W:Q7}(h:SF F K W):∀k:Nat,k<=8->SF F K (Yi W k)/\Td W (Yi W k)
 | 0,_=>⟨h,Td.refl _⟩
 | k+1,hk=>by
  obtain⟨a,b⟩:=Vn h k Qo;simp only[Yi];split
  ·rename_i hc;have hl:=a.w.a.gl;obtain⟨a2,b2,_⟩:=Gk a (k:=(k:Int)) (Q5.2 ⟨Qo,Qo,hc.1⟩) hc.2 _ (I8 _);exact⟨a2,b.trans b2⟩
  ·exact⟨a,b⟩
def DR(W:Q7)(k c:Int):KN:={ Qb W k c with floor:=Z5 W k c 20 }
def QQ(W:Q7)(c:Int):Nat->Q7
 | 0=>W
 | k+1=>if (gi (QQ W c k).IE (k:Int)).used=true/\Zx (QQ W c k) (k:Int) c 20=true/\Z5 (QQ W c k) (k:Int) c 20>(Qb (QQ W c k) (k:Int) c).floor then Rx (QQ W c k) (k:Int) c (DR (QQ W c k) (k:Int) c) else QQ W c k
def Zb(W:Q7)(c:Int):Q7:=QQ W c 8
theorem zba{K:Int}{W:Q7}(h:SW K W){k c:Int}(c0:0<=c)(c1:c<(W.IF.length:Int))(hK:0<=K):0<=Z5 W k c 20/\Z5 W k c 20<=K:=by
 unfold Z5;split
 ·omega
 ·rename_i hn;have hl:=h.a.gl;rcases Zu (Zq W k c) (Zn W c) 20 with h1 | h1
  ·omega
  ·obtain⟨j,hj⟩:∃j:Nat,QZ (Zq W k c) (Zn W c) 20=(j:Int):=⟨(QZ (Zq W k c) (Zn W c) 20).toNat,Qo⟩;rw[hj,Ih] at h1 ⊢;have hp:=h1.2.2.1;unfold Zn
   by_cases h12:j<12
   ·rw[E' h12];exact h.tv (j:Int) Qo Qo
   ·rw[C' h12];unfold Zq at hp;rw[C' h12] at hp;unfold Jf at hp;simp only[A'] at hp;have hu:Q6 W.IE ((j-12:Nat):Int)=true:=Q5.2 ⟨Qo,Qo,hp.1.2.1⟩;have:=h.s _ c hu c0 c1;omega
theorem O3{K:Int}{W:Q7}(h:SW K W)(hK:0<=K){c:Int}(c0:0<=c)(c1:c<(W.IF.length:Int)):∀k:Nat,k<=8->SW K (QQ W c k)/\XS W (QQ W c k)
 | 0,_=>⟨h,XS.refl _⟩
 | k+1,hk=>by
  obtain⟨a,b⟩:=O3 h hK c0 c1 k Qo;have hl:=a.a.gl;have uD:c<((QQ W c k).IF.length:Int):=by rw[b.c]; exact c1
  simp only[QQ];split
  ·rename_i hc;have hu:Q6 (QQ W c k).IE (k:Int)=true:=Q5.2 ⟨Qo,Qo,hc.1⟩;have s1:=a.s _ c hu c0 uD;have br:=zba a (k:=(k:Int)) c0 uD hK;exact⟨(a.sf.Rx (s:=DR (QQ W c k) (k:Int) c) hu c0 uD br.1 br.2 br.2 s1.2.2.1 s1.2.2.2.1 s1.2.2.2.2.1 s1.2.2.2.2.2).w,b.trans (UW Qo Qo)⟩
  ·exact⟨a,b⟩
def Ja(x:MB):MB:={ x with cur := -1,aC:=0 }
def Ry(W:Q7)(c:Int):Q7:=S8 W c (Ja (gi W.IF c))
theorem zre{cs nX:List MB}:∀k:Nat,(∀j:Nat,j<k->(gi nX (j:Int)).up=(gi cs (j:Int)).up)->Vt nX k=Vt cs k
 | 0,_=>rfl
 | k+1,h=>by simp only[Vt]; rw[zre k λj hj=>h j Qo,h k Qo]
theorem zkx{cs nX:List MB}(hl:nX.length=cs.length)(h:∀j:Nat,j<cs.length->(gi nX (j:Int)).up=(gi cs (j:Int)).up):JZ nX=JZ cs:=by
 unfold JZ;rw[hl];exact zre _ h
theorem WA.cp{W:Q7}(ha:WA W){cs:List MB}(hl:cs.length=W.IF.length)(hu:JZ cs≠0):WA { W with IF:=cs }:=
 ⟨ha.n1,ha.n2,by show 1<=cs.length; rw[hl]; exact ha.c1,by show cs.length<=4; rw[hl]; exact ha.c2,ha.t,ha.tree,hu,λk a b=>by
  have:=ha.grp k a b;refine⟨this.1,λhu=>?_⟩;have hg:=this.2 hu
  exact⟨hg.w1,hg.w2,hg.m,hg.m0,hg.s,by show (gi W.IE k).IG.length=cs.length; rw[hl]; exact hg.len,hg.root,hg.none,λq=>by
   have:=hg.IQ q;exact⟨this.1,by show (gi W.IE k).IQ.locals.length=cs.length; rw[hl]; exact this.2.1,this.2.2⟩⟩⟩
theorem SW.Ry{K:Int}{W:Q7}(h:SW K W){c:Int}(c0:0<=c)(c1:c<(W.IF.length:Int)):SW K (Ry W c):=by
 have hl:(W.IF.set c.toNat (Ja (gi W.IF c))).length=W.IF.length:=H';have hg:∀d:Int,0<=d->gi (W.IF.set c.toNat (Ja (gi W.IF c))) d=if c=d then Ja (gi W.IF c) else gi W.IF d:=λd d0=>QG _ _ c0 c1 d0
 refine⟨h.a.cp hl ?_,λt a b n=>?_,h.tv,λk d u a b=>?_,λd a b=>?_⟩
 ·rw[zkx hl λj hj=>?_]
  ·exact h.a.ups
  ·rw[hg _ Qo];split
   ·rename_i e; rw[e]; rfl
   ·rfl
 ·show _/\_/\_<(((W.IF.set c.toNat (Ja (gi W.IF c))).length:Nat):Int);rw[hl];exact h.t t a b n
 ·have b:d<(((W.IF.set c.toNat (Ja (gi W.IF c))).length:Nat):Int):=b;rw[hl] at b;exact h.s k d u a b
 ·have b:d<(((W.IF.set c.toNat (Ja (gi W.IF c))).length:Nat):Int):=b;rw[hl] at b;show _<=(gi (W.IF.set c.toNat (Ja (gi W.IF c))) d).cur/\_;rw[show (gi (YtnclplgaicdapaaGreatDoor.Ry W c).IF d).cur=(gi (W.IF.set c.toNat (Ja (gi W.IF c))) d).cur from rfl,hg _ a];split
  ·exact⟨I3 _,show (-1:Int)<12 by decide⟩
  ·exact h.cu d a b
def Me(W:Q7)(c:Int):Bool:=decide ((gi W.IF c).cur>=0)&&(((Q9 W (gi W.IF c).cur).R3 != c) || !ZL W (gi W.IF c).cur)
def Ul(W:Q7)(c:Int):Q7:=if Me (Zb (QL W c) c) c=true then Ry (Zb (QL W c) c) c else Zb (QL W c) c
def XC(W:Q7):Nat->Q7
 | 0=>W
 | c+1=>Ul (XC W c) (c:Int)
def Qg(W:Q7):Q7:=XC (Ll (Y2 W W.IF.length)) W.IF.length
structure Fr (W W':Q7):Prop where
 n:W'.now=W.now
 c:W'.IF.length=W.IF.length
 t:W'.tasks=W.tasks
 g:Z1 W.IE W'.IE
theorem Fr.refl(W:Q7):Fr W W:=⟨rfl,rfl,rfl,Z1.refl _⟩
theorem Fr.trans{A B C:Q7}(h:Fr A B)(k:Fr B C):Fr A C:=⟨k.n.trans h.n,k.c.trans h.c,k.t.trans h.t,h.g.trans k.g⟩
theorem XS.fr{W W':Q7}(h:XS W W'):Fr W W':=⟨h.n,by rw[h.c],h.t,h.g⟩
theorem Td.fr{W W':Q7}(h:Td W W'):Fr W W':=⟨h.n,by rw[h.c],h.t,h.g⟩
theorem BU(W:Q7)(c:Int):Fr W (Ry W c):=⟨rfl,H',rfl,Z1.refl _⟩
theorem zwv{K:Int}{W:Q7}(h:SW K W)(hK:0<=K){c:Int}(c0:0<=c)(c1:c<(W.IF.length:Int)):SW (K+Qj) (Ul W c)/\Fr W (Ul W c):=by
 obtain⟨a1,b1⟩:=Hb (F:=K) (K:=K+Qj) (h.sf.mono (I3 _) (by simp only[Qj]; omega)) (I3 _) c0 c1;obtain⟨a2,b2⟩:=O3 a1.w (by simp only[Qj]; omega) c0 (c:=c) (by rw[b1.c]; exact c1) 8 Qo;have hf:=b1.fr.trans b2.fr;unfold Ul;split
 ·exact⟨SW.Ry a2 c0 (by show c<((QQ (QL W c) c 8).IF.length:Int); rw[hf.c]; exact c1),hf.trans (BU _ _)⟩
 ·exact⟨a2,hf⟩
theorem KH{K:Int}{W:Q7}(h:SW K W)(hK:0<=K):∀c:Nat,c<=W.IF.length->SW (K+(c:Int)*Qj) (XC W c)/\Fr W (XC W c)
 | 0,_=>⟨h.mono Qs,Fr.refl _⟩
 | c+1,hc=>by
  obtain⟨a,b⟩:=KH h hK c Qo;obtain⟨a2,b2⟩:=zwv a (by simp only[Qj]; omega) (c:=(c:Int)) Qo (by rw[b.c]; omega);exact⟨a2.mono (by simp only[Qj]; omega),b.trans b2⟩
abbrev Vj:Int:=5*Qj
theorem UI{K:Int}{W:Q7}(h:SW K W)(hK:0<=K):SW (K+Vj) (Qg W)/\Fr W (Qg W):=by
 obtain⟨a1,b1⟩:=Oq (F:=K) (K:=K+Qj) (h.sf.mono (I3 _) (by simp only[Qj]; omega)) (I3 _) W.IF.length (I8 _);obtain⟨a2,b2⟩:=Vn a1 8 Qo;have hf:=b1.fr.trans b2.fr;obtain⟨a3,b3⟩:=KH a2.w (by simp only[Qj]; omega) W.IF.length (by show W.IF.length<=(Yi (Y2 W W.IF.length) 8).IF.length; rw[hf.c]; exact I8 _);have:=h.a.c2;exact⟨a3.mono (by simp only[Qj,Vj]; omega),hf.trans b3⟩
abbrev Ql:Int:=50000000000000000
structure Lj (W:Q7):Prop where
 n:W.now<=Ql
 c:∀c:Int,0<=c->c<(W.IF.length:Int)->(gi W.IF c).busy<=Ql/\(gi W.IF c).idle<=Ql
 t:∀t:Int,0<=t->t<(W.tasks.length:Int)->(gi W.tasks t).v<=Ql/\(gi W.tasks t).sum<=Ql/\(gi W.tasks t).used<=Ql
 g:∀k:Int,0<=k->k<(W.IE.length:Int)->(gi W.IE k).sum<=Ql
 s:∀k c:Int,0<=k->k<(W.IE.length:Int)->0<=c->c<((gi W.IE k).IG.length:Int)->(Qb W k c).floor<=Ql/\(Qb W k c).v<=Ql/\(Qb W k c).sum<=Ql
noncomputable def QM(W:Q7):Bool:=U6 (Lj W)
theorem PH{W:Q7}(wp:Je W)(r:Lj W):SW Ql W:=by
 have ht:=wp.a.t;have hg:=wp.a.gl;refine⟨wp.a,λt t0 t1 n=>?_,λt t0 t1=>?_,λk c u c0 c1=>?_,λc c0 c1=>?_⟩
 ·rcases wp.t t t0 t1 with h | h
  ·exact Is h.1 n
  ·exact⟨h.2.g,KV wp.a h.2.c⟩
 ·refine⟨?_,(r.t t t0 Qo).1⟩;rcases wp.t t t0 t1 with h | h
  ·rw[h.2]; exact I3 _
  ·exact(Ys.1 h.2.v).1
 ·obtain⟨u0,u1,_⟩:=Q5.1 u;have hl:=wp.a.sl u;have hs:=wp.s k c u0 Qo c0 Qo;have hr:=r.s k c u0 u1 c0 Qo;exact⟨(Ys.1 hs.f).1,hr.1,(Ys.1 hs.v).1,hr.2.1,hs.w1,hs.w2⟩
 ·have hc:=wp.c c c0 c1;have h1:=hc.c1;have h2:=hc.c2;omega
theorem WA.tk{W:Q7}(ha:WA W){ts:List Kf}(hl:ts.length=W.tasks.length):WA { W with tasks:=ts }:=
 ⟨ha.n1,ha.n2,ha.c1,ha.c2,by show ts.length=12; rw[hl]; exact ha.t,ha.tree,ha.ups,λk a b=>by
  have:=ha.grp k a b;refine⟨this.1,λhu=>?_⟩;have hg:=this.2 hu;exact⟨hg.w1,hg.w2,hg.m,hg.m0,hg.s,hg.len,hg.root,hg.none,hg.IQ⟩⟩
theorem SW.IV{K:Int}{W:Q7}(h:SW K W){t:Int}(t0:0<=t)(t1:t<12){x:Kf}(hx:x.state≠0->Q6 W.IE x.group=true/\0<=x.R3/\x.R3<(W.IF.length:Int))(v0:0<=x.v)(v1:x.v<=K):SW K (IV W t x):=by
 have hl:=h.a.t;have e:∀i:Int,0<=i->Q9 (YtnclplgaicdapaaGreatDoor.IV W t x) i=if t=i then x else Q9 W i:=λi i0=>QG _ _ t0 Qo i0
 refine⟨h.a.tk H',λi a b n=>?_,λi a b=>?_,h.s,h.cu⟩
 ·rw[e i a] at n ⊢;split
  ·rename_i he; rw[E' he] at n; exact hx n
  ·rename_i he; rw[C' he] at n; exact h.t i a b n
 ·rw[e i a];split
  ·exact⟨v0,v1⟩
  ·exact h.tv i a b
def MO:Q7:=⟨0,[],[],[]⟩
def zxf:MW:=⟨none,0,none,0,none,0,λ_=>⟨none,0,none,0,none,0⟩⟩
noncomputable def Xi(W:Q7)(bar:Int)(W':Q7):Q7×Int:=if Qw W=false then (MO,1) else if bar≠0 then (W,bar) else (W',0)
theorem ziz{W W':Q7}{bar:Int}(h:Qw W=false):Xi W bar W'=(MO,1):=E' h
theorem zi0{W W':Q7}{bar:Int}(h:Qw W=true)(hb:bar≠0):Xi W bar W'=(W,bar):=by unfold Xi; rw[C' (by rw[h]; decide),E' hb]
theorem zi1{W W':Q7}{bar:Int}(h:Qw W=true)(hb:bar=0):Xi W bar W'=(W',0):=by unfold Xi; rw[C' (by rw[h]; decide),C' (by simpa using hb)]
def ZA(W:Q7)(t:Int):Bool:=YQ t 0 ((W.tasks.length:Int)-1)&&((Q9 W t).state != 0)
theorem YA{W:Q7}{t:Int}(h:ZA W t=true):0<=t/\t<(W.tasks.length:Int)/\(Q9 W t).state≠0:=by
 unfold ZA at h;simp only[A',Iu,ne_eq] at h;have:=Qu.1 h.1;exact⟨Qo,Qo,h.2⟩
noncomputable def Tf(W:Q7)(t:Int):Int:=if ZA W t=false then 2 else if (Q9 W t).state≠1 then 6 else if QM W=false then 10 else 0
def zi8(W:Q7)(t:Int):Q7:=Qg (IV W t { Q9 W t with state:=2 })
theorem zla{W:Q7}{t:Int}(hW:Qw W=true)(hb:Tf W t=0):ZA W t=true/\(Q9 W t).state=1/\SW Ql W/\SW Ql (IV W t { Q9 W t with state:=2 }):=by
 have wp:=Qh.1 hW;unfold Tf at hb
 split at hb
 ·cases hb
 ·rename_i h1
  split at hb
  ·cases hb
  ·rename_i h2
   split at hb
   ·cases hb
   ·rename_i h3;have h1:ZA W t=true:=by simpa using h1
    have h2:(Q9 W t).state=1:=by simpa using h2
    have h3:QM W=true:=by simpa using h3
    have sw:=PH wp (Qh.1 h3);obtain⟨t0,t1,n⟩:=YA h1;have hl:=wp.a.t;have hv:=sw.tv t t0 Qo;exact⟨h1,h2,sw,sw.IV t0 Qo (λ_=>sw.t t t0 Qo n) hv.1 hv.2⟩
theorem Uo.same{α:Type}{enc:α->List Va}{z:Nat}{ty:TypeId}{base:Nat}{w:Wo}{o:OA}{cap:Nat}{l l':List α}(h:Uo enc z ty base w o cap l)(he:l'.flatMap enc=l.flatMap enc)(hl:l'.length=l.length):Uo enc z ty base w o cap l':=by
 rcases h with ⟨h1,rfl,h3⟩ | ⟨b,sp,rfl,h1,h2,h3,h4⟩
 ·exact .inl ⟨h1,List.eq_nil_of_length_eq_zero hl,h3⟩
 ·exact .inr ⟨b,sp,rfl,h1,by rw[he]; exact h2,by rw[he]; exact h3,Qo⟩
theorem D5{α:Type}{enc:α->List Va}:∀(l:List α) (i:Nat) (x:α),(∀y,l[i]? = some y->enc x=enc y)->(l.set i x).flatMap enc=l.flatMap enc
 | [],_,_,_=>rfl
 | y::r,0,x,h=>by simp only[List.set_cons_zero,List.flatMap_cons]; rw[h y rfl]
 | y::r,i+1,x,h=>by
  simp only[List.set_cons_succ,List.flatMap_cons];rw[D5 r i x λz hz=>h z (by simpa using hz)]
theorem z03{α:Type}[Inhabited α]{l:List α}{i:Int}(h0:0<=i)(hi:i<(l.length:Int)):l[i.toNat]? = some (gi l i):=by
 obtain⟨k,rfl⟩:=Int.eq_ofNat_of_zero_le h0;rw[Ih];exact zx8 Qo
section
variable {base:Nat}{w w':Wo}{o:OA}{cap:Nat}{ps:List (ZV×MG)}
theorem KP.Bc0{α:Type}{enc:α->List Va}{z:Nat}{ty:TypeId}{aU nW:Nat}{o':OA}{l:List α}(h:KP base w o cap ps)(h':Uo enc z ty aU w o' nW l)(n1:QP≠ty)(n2:Qc≠ty)(n3:Ye≠ty)(n4:YX≠ty)(hx:Q0 (QE o') w w'):KP base w' o cap ps:=
 ⟨h.row.ext hx (h.row.Wf h' n1),λi a b=>(h.each i a b).ext hx λx hm=>by
  simp only[Qn,Io] at hm;rcases hm with (hm | hm) | hm
  ·exact(h.each i a b).loc.Wf h' n2 x hm
  ·exact(h.each i a b).Rz.Wf h' n3 x hm
  ·exact(h.each i a b).shl.Wf h' n4 x hm,h.dj⟩
theorem KP.R9(h:KP base w o cap ps){i:Int}(h0:0<=i)(hi:i<(ps.length:Int)){p:ZV×MG}(hp:PI base w p)(hd:∀j:Int,0<=j->j<(ps.length:Int)->i≠j->∀b∈Qn (gi ps j).2,b∉Qn p.2){j:Nat}{vs:List Va}(he:TP p=(TP (gi ps i)).take j++vs++(TP (gi ps i)).drop (j+vs.length))(hj:j+vs.length<=14):KP base (YtnclplgaicdapaaGreatDoor.R9 w o (Int.toNat i*14+j) vs) o cap (ps.set i.toNat p):=by
 have hx:=h.row.rD (Int.toNat i*14+j) vs;have hlen:(ps.set i.toNat p).length=ps.length:=H';refine⟨h.row.R9 Yf.len h0 hi he hj,λk hk uG=>?_,λa k ha hal hk uG hak b hb jF=>?_⟩
 ·rw[hlen] at uG;rw[QG _ _ h0 hi hk];split
  ·exact hp.ext hx (XZ h.row hp)
  ·exact(h.each k hk uG).ext hx (XZ h.row (h.each k hk uG))
 ·rw[hlen] at hal uG;rw[QG _ _ h0 hi ha] at hb;rw[QG _ _ h0 hi hk] at jF
  by_cases e1:i=a
  ·rw[E' e1] at hb
   by_cases e2:i=k
   ·omega
   ·rw[C' e2] at jF;exact hd k hk uG e2 b jF hb
  ·rw[C' e1] at hb
   by_cases e2:i=k
   ·rw[E' e2] at jF;exact hd a ha hal e1 b hb jF
   ·rw[C' e2] at jF;exact h.dj a k ha hal hk uG hak b hb jF
theorem KP.in(h:KP base w o cap ps){i:Int}(h0:0<=i)(hi:i<(ps.length:Int)){p:ZV×MG}{bs:List Nat}(hx:Q0 bs w w')(hb:∀x∈bs,x∈Qn (gi ps i).2)(hp:PI base w' p)(hm:p.2=(gi ps i).2)(he:TP p=TP (gi ps i)):KP base w' o cap (ps.set i.toNat p):=by
 have hlen:(ps.set i.toNat p).length=ps.length:=H';refine⟨?_,λk hk uG=>?_,λa k ha hal hk uG hak b gH jF=>?_⟩
 ·refine(h.row.ext hx λb gH cN=>XZ h.row (h.each i h0 hi) b (hb b cN) gH).same (D5 _ _ _ λy hy=>?_) hlen;rw[z03 h0 hi] at hy;cases hy;exact he
 ·rw[hlen] at uG;rw[QG _ _ h0 hi hk];split
  ·exact hp
  ·rename_i gE;exact(h.each k hk uG).ext hx λb gH cN=>h.dj i k h0 hi hk uG gE b (hb b cN) gH
 ·rw[hlen] at hal uG;rw[QG _ _ h0 hi ha] at gH;rw[QG _ _ h0 hi hk] at jF
  have e1:b∈Qn (gi ps a).2:=by
   by_cases e:i=a
   ·rw[E' e,hm,e] at gH; exact gH
   ·rw[C' e] at gH; exact gH
  have e2:b∈Qn (gi ps k).2:=by
   by_cases e:i=k
   ·rw[E' e,hm,e] at jF; exact jF
   ·rw[C' e] at jF; exact jF
  exact h.dj a k ha hal hk uG hak b e1 e2
end
def zo2(W:Q7)(m:MW):List (ZV×MG):=(List.range W.IE.length).map λ(k:Nat)=>(gi W.IE (k:Int),m.ms k)
theorem J1(W:Q7)(m:MW):(zo2 W m).length=W.IE.length:=by simp[zo2]
theorem TG{W:Q7}{m:MW}{i:Int}(h0:0<=i)(hi:i<(W.IE.length:Int)):gi (zo2 W m) i=(gi W.IE i,m.ms i.toNat):=by
 obtain⟨k,rfl⟩:=Int.eq_ofNat_of_zero_le h0;rw[Ui (by rw[J1]; omega)];simp[zo2]
def QB(n:Nat)(m:MW):List Nat:=QE m.cO++QE m.tO++QE m.gO++(List.range n).flatMap λ(k:Nat)=>Qn (m.ms k)
structure Zj (n base:Nat) (w:Wo) (W:Q7) (m:MW):Prop where
 c:Uo KY 5 ZD base w m.cO m.cC W.IF
 t:Uo YK 9 QK base w m.tO m.tC W.tasks
 g:KP base w m.gO m.gC (zo2 W m)
 len:W.IE.length=n
section
variable {n base:Nat}{w w':Wo}{W:Q7}{m:MW}{bs:List Nat}
theorem Nb{x:Nat}(h:x∈QE m.cO):x∈QB n m:=by simp[QB,h]
theorem Nd{x:Nat}(h:x∈QE m.tO):x∈QB n m:=by simp[QB,h]
theorem Nc{x:Nat}(h:x∈QE m.gO):x∈QB n m:=by simp[QB,h]
theorem Jb{x k:Nat}(hk:k<n)(h:x∈Qn (m.ms k)):x∈QB n m:=by
 unfold QB;exact Iy _ (List.mem_flatMap.2 ⟨k,List.mem_range.2 hk,h⟩)
theorem A3{x:Nat}(h:x∈QB n m):x∈QE m.cO\/x∈QE m.tO\/x∈QE m.gO\/∃k,k<n/\x∈Qn (m.ms k):=by
 unfold QB at h;simp only[Io,List.mem_flatMap,List.mem_range] at h;rcases h with ((h | h) | h) | ⟨k,hk,h⟩
 ·exact .inl h
 ·exact .inr (.inl h)
 ·exact .inr (.inr (.inl h))
 ·exact .inr (.inr (.inr ⟨k,hk,h⟩))
theorem Zj.each(h:Zj n base w W m){i:Int}(h0:0<=i)(hi:i<(n:Int)):PI base w (gi W.IE i,m.ms i.toNat):=by
 have:=h.g.each i h0 (by rw[J1,h.len]; exact hi)
 rwa[TG h0 (by rw[h.len]; exact hi)] at this
theorem Zj.lt(h:Zj n base w W m):∀x∈QB n m,base<=x/\x<w.heap.size:=λx hx=>by
 rcases A3 hx with hx | hx | hx | ⟨k,hk,hx⟩
 ·exact h.c.lt x hx
 ·exact h.t.lt x hx
 ·exact h.g.row.lt x hx
 ·exact(h.each (i:=(k:Int)) Qo Qo).lt x (by simpa using hx)
theorem Zj.ext(h:Zj n base w W m)(hx:Q0 bs w w')(hd:∀x∈QB n m,x∉bs):Zj n base w' W m:=
 ⟨h.c.ext hx λb hb=>hd b (Nb hb),h.t.ext hx λb hb=>hd b (Nd hb),
  ⟨h.g.row.ext hx λb hb=>hd b (Nc hb),λi a b=>by
   have b':i<(W.IE.length:Int):=by rw[J1] at b; exact b
   have hl:=h.len;refine(h.g.each i a b).ext hx λx hm=>?_
   rw[TG a b'] at hm;exact hd x (Jb Qo hm),h.g.dj⟩,h.len⟩
theorem Zj.WQ(h:Zj n base w W m)(hx:Q0 [] w w'):Zj n base w' W m:=h.ext hx Qs
theorem Zj.mono{aU:Nat}(h:Zj n base w W m)(hb:aU<=base):Zj n aU w W m:=⟨h.c.mono hb,h.t.mono hb,h.g.mono hb,h.len⟩
theorem Zj.rd(h:Zj n base w W m)(hd:∀x∈QB n m,x∉bs):Xg bs w W m:=by
 have hl:=h.len;refine⟨h.c.rd KX.len λb hb=>hd b (Nb hb),h.t.rd OZ.len λb hb=>hd b (Nd hb),⟨λi h0 hi=>?_,λi h0 hi=>?_,λi h0 hi=>?_,λi h0 hi=>?_⟩⟩
 ·have:=h.g.row.rd Yf.len (bs:=bs) (λb hb=>hd b (Nc hb)) i h0 (by rw[J1]; exact hi)
  rwa[TG h0 hi] at this
 ·exact(h.each h0 Qo).loc.rd Yb.len λb hb=>hd b (Jb (k:=i.toNat) Qo (by simp[Qn]; exact .inl hb))
 ·exact(h.each h0 Qo).Rz.rd Yu.len λb hb=>hd b (Jb (k:=i.toNat) Qo (by simp[Qn]; exact .inr (.inl hb)))
 ·exact(h.each h0 Qo).shl.rd T1.len λb hb=>hd b (Jb (k:=i.toNat) Qo (by simp[Qn]; exact .inr (.inr hb)))
theorem Zj.xS(h:Zj n base w W m){i:Int}(h0:0<=i)(hi:i<(W.tasks.length:Int)){j:Nat}{vs:List Va}{x:Kf}(he:YK x=(YK (gi W.tasks i)).take j++vs++(YK (gi W.tasks i)).drop (j+vs.length))(hj:j+vs.length<=9) :
  Zj n base (R9 w m.tO (Int.toNat i*9+j) vs) { W with tasks:=W.tasks.set i.toNat x } m:=
 ⟨h.c.ext (h.t.rD _ _) (h.c.Wf h.t Qd),h.t.R9 OZ.len h0 hi he hj,h.g.Bc0 h.t Qd Qd Qd Qd (h.t.rD _ _),h.len⟩
theorem Zj.Am3(h:Zj n base w W m){i:Int}(h0:0<=i)(hi:i<(W.IF.length:Int)){j:Nat}{vs:List Va}{x:MB}(he:KY x=(KY (gi W.IF i)).take j++vs++(KY (gi W.IF i)).drop (j+vs.length))(hj:j+vs.length<=5) :
  Zj n base (R9 w m.cO (Int.toNat i*5+j) vs) { W with IF:=W.IF.set i.toNat x } m:=
 ⟨h.c.R9 KX.len h0 hi he hj,h.t.ext (h.c.rD _ _) (h.t.Wf h.c Qd),h.g.Bc0 h.c Qd Qd Qd Qd (h.c.rD _ _),h.len⟩
def PO(m:MW)(k:Nat)(p:MG):MW:={ m with ms:=λj=>if k=j then p else m.ms j }
theorem zh7(m:MW)(k:Nat):PO m k (m.ms k)=m:=by
 unfold PO
 have:(λj=>if k=j then m.ms k else m.ms j)=m.ms:=by
  funext j
  split
  ·rename_i e; rw[e]
  ·rfl
 rw[this]
theorem zkm{i:Int}(h0:0<=i)(hi:i<(W.IE.length:Int))(g:ZV)(p:MG):zo2 { W with IE:=W.IE.set i.toNat g } (PO m i.toNat p)=(zo2 W m).set i.toNat (g,p):=by
 refine zoi (by rw[J1,H',H',J1]) λk hk=>?_
 rw[J1,H'] at hk;rw[TG Qo (by rw[H']; omega),QG _ _ h0 hi Qo,QG _ _ h0 (by rw[J1]; exact hi) Qo];simp only[PO]
 by_cases e:i=(k:Int)
 ·rw[E' e,E' e,E' Qo]
 ·rw[C' e,C' e,C' Qo,TG Qo Qo]
theorem Zj.Bx7{p:MG}(h:Zj n base w W m){i:Int}(hn:∀x∈Qn p,x∉QB n m\/x∈Qn (m.ms i.toNat))(h0:0<=i)(hi:i<(n:Int)):∀j:Int,0<=j->j<((zo2 W m).length:Int)->i≠j->∀b∈Qn (gi (zo2 W m) j).2,b∉Qn p:=λj hj hjl hij b hb jF=>by
 have hl:=h.len;rw[J1] at hjl;have cN:=hb;rw[TG hj hjl] at hb;rcases hn b jF with h1 | h1
 ·exact h1 (Jb Qo hb)
 ·have:=h.g.dj i j h0 (by rw[J1]; omega) hj (by rw[J1]; exact hjl) hij b (by rw[TG h0 Qo]; exact h1);exact this cN
theorem Zj.B36(h:Zj n base w W m){i:Int}(h0:0<=i)(hi:i<(n:Int)){g:ZV}{p:MG}(hp:PI base w (g,p))(hn:∀x∈Qn p,x∉QB n m\/x∈Qn (m.ms i.toNat)){j:Nat}{vs:List Va}(he:Yv g p=(Yv (gi W.IE i) (m.ms i.toNat)).take j++vs++(Yv (gi W.IE i) (m.ms i.toNat)).drop (j+vs.length))(hj:j+vs.length<=14) :
  Zj n base (R9 w m.gO (Int.toNat i*14+j) vs) { W with IE:=W.IE.set i.toNat g } (PO m i.toNat p):=by
 have hl:=h.len;have hx:=h.g.row.rD (Int.toNat i*14+j) vs;refine⟨h.c.ext hx (h.c.Wf h.g.row Qd),h.t.ext hx (h.t.Wf h.g.row Qd),?_,by rw[H']; exact hl⟩;have:=h.g.R9 h0 (by rw[J1]; omega) hp (h.Bx7 hn h0 hi) (j:=j) (vs:=vs) (by rw[TG h0 Qo]; exact he) hj;rw[zkm h0 Qo];exact this
theorem Zj.Ap0(h:Zj n base w W m){i:Int}(h0:0<=i)(hi:i<(n:Int)){g:ZV}(e1:g.IQ.locals=(gi W.IE i).IQ.locals)(e2:g.IQ.Rz=(gi W.IE i).IQ.Rz)(e3:g.IG=(gi W.IE i).IG){j:Nat}{vs:List Va}(he:Yv g (m.ms i.toNat)=(Yv (gi W.IE i) (m.ms i.toNat)).take j++vs++(Yv (gi W.IE i) (m.ms i.toNat)).drop (j+vs.length))(hj:j+vs.length<=14) :
  Zj n base (R9 w m.gO (Int.toNat i*14+j) vs) { W with IE:=W.IE.set i.toNat g } m:=by
 have hm:=h.each h0 hi;have:=h.B36 h0 hi (g:=g) (p:=m.ms i.toNat) ⟨by rw[e1]; exact hm.loc,by rw[e2]; exact hm.Rz,by rw[e3]; exact hm.shl⟩ (λx hx=>.inr hx) he hj
 rwa[zh7] at this
theorem Zj.in(h:Zj n base w W m){i:Int}(h0:0<=i)(hi:i<(n:Int)){g:ZV}(hx:Q0 bs w w')(hb:∀x∈bs,x∈Qn (m.ms i.toNat))(hp:PI base w' (g,m.ms i.toNat))(he:Yv g (m.ms i.toNat)=Yv (gi W.IE i) (m.ms i.toNat)) :
  Zj n base w' { W with IE:=W.IE.set i.toNat g } m:=by
 have hl:=h.len;have hmi:=h.each h0 hi
 have hf:∀{α:Type} {enc:α->List Va} {z:Nat} {ty:TypeId} {aU nW:Nat} {o':OA} {l:List α},Uo enc z ty aU w o' nW l->ty≠Qc->ty≠Ye->ty≠YX->∀b∈QE o',b∉bs:=λho n1 n2 n3 b gH cN=>by
  have hm:=hb b cN;simp only[Qn,Io] at hm;rcases hm with (hm | hm) | hm
  ·exact ho.Wf hmi.loc n1 b gH hm
  ·exact ho.Wf hmi.Rz n2 b gH hm
  ·exact ho.Wf hmi.shl n3 b gH hm
 refine⟨h.c.ext hx (hf h.c Qd Qd Qd),h.t.ext hx (hf h.t Qd Qd Qd),?_,by rw[H']; exact hl⟩;have:=h.g.in h0 (by rw[J1]; omega) (p:=(g,m.ms i.toNat)) hx (by rw[TG h0 Qo]; exact hb) hp (by rw[TG h0 Qo]) (by rw[TG h0 Qo]; exact he);have hs:=zkm (m:=m) h0 (W:=W) Qo g (m.ms i.toNat);rw[zh7] at hs;rw[hs];exact this
theorem zzk(W:Q7)(i:Int)(c:Int)(x:KN)(mg:MG):Yv { gi W.IE i with IG:=(gi W.IE i).IG.set c.toNat x } mg=Yv (gi W.IE i) mg:=by
 simp[Yv]
theorem Zj.BK8(h:Zj n base w W m){i c:Int}(h0:0<=i)(hi:i<(n:Int))(c0:0<=c)(c1:c<((gi W.IE i).IG.length:Int)){j:Nat}{vs:List Va}{x:KN}(he:M1 x=(M1 (gi (gi W.IE i).IG c)).take j++vs++(M1 (gi (gi W.IE i).IG c)).drop (j+vs.length))(hj:j+vs.length<=5) :
  Zj n base (R9 w (m.ms i.toNat).sO (Int.toNat c*5+j) vs) { W with IE:=W.IE.set i.toNat { gi W.IE i with IG:=(gi W.IE i).IG.set c.toNat x } } m:=by
 have hm:=h.each h0 hi;have hx:=hm.shl.rD (Int.toNat c*5+j) vs;exact h.in h0 hi hx (λx hx=>by simp[Qn]; exact .inr (.inr hx)) ⟨hm.loc.ext hx (hm.loc.Wf hm.shl Qd),hm.Rz.ext hx (hm.Rz.Wf hm.shl Qd),hm.shl.R9 T1.len c0 c1 he hj⟩ (zzk _ _ _ _ _)
theorem Zj.eR(h:Zj n base w W m){i c:Int}(h0:0<=i)(hi:i<(n:Int))(c0:0<=c)(c1:c<((gi W.IE i).IQ.locals.length:Int))(x:Int) :
  Zj n base (R9 w (m.ms i.toNat).lO (Int.toNat c*1+0) [I x]) { W with IE:=W.IE.set i.toNat { gi W.IE i with IQ:={ (gi W.IE i).IQ with locals:=(gi W.IE i).IQ.locals.set c.toNat x } } } m:=by
 have hm:=h.each h0 hi;have hx:=hm.loc.rD (Int.toNat c*1+0) [I x];exact h.in h0 hi hx (λx hx=>by simp[Qn]; exact .inl hx) ⟨hm.loc.R9 Yb.len c0 c1 (j:=0) (vs:=[I x]) (x:=x) rfl Qs,hm.Rz.ext hx (hm.Rz.Wf hm.loc Qd),hm.shl.ext hx (hm.shl.Wf hm.loc Qd)⟩ (by simp[Yv])
theorem Zj.B35(h:Zj n base w W m){i c:Int}(h0:0<=i)(hi:i<(n:Int))(c0:0<=c)(c1:c<((gi W.IE i).IQ.Rz.length:Int))(x:Bool) :
  Zj n base (R9 w (m.ms i.toNat).dO (Int.toNat c*1+0) [.bool x]) { W with IE:=W.IE.set i.toNat { gi W.IE i with IQ:={ (gi W.IE i).IQ with Rz:=(gi W.IE i).IQ.Rz.set c.toNat x } } } m:=by
 have hm:=h.each h0 hi;have hx:=hm.Rz.rD (Int.toNat c*1+0) [.bool x];exact h.in h0 hi hx (λx hx=>by simp[Qn]; exact .inr (.inl hx)) ⟨hm.loc.ext hx (hm.loc.Wf hm.Rz Qd),hm.Rz.R9 Yu.len c0 c1 (j:=0) (vs:=[.bool x]) (x:=x) rfl Qs,hm.shl.ext hx (hm.shl.Wf hm.Rz Qd)⟩ (by simp[Yv])
end
structure Mv (n base:Nat) (bs:List Nat) (w0:Wo) (m0:MW) (w:Wo) (W:Q7) (m:MW):Prop where
 own:Zj n base w W m
 ext:Q0 (QB n m0) w0 w
 sub:∀x∈QB n m,x∈QB n m0\/w0.heap.size<=x
 hd:m={ m0 with ms:=m.ms }
 nb:∀x∈QB n m,x∉bs
 new:∀x∈bs,w0.heap.size<=x
section
variable {n base:Nat}{bs cs:List Nat}{w0 w w':Wo}{W W':Q7}{m0 m m':MW}{b:Nat}
theorem Mv.start(h:Zj n base w W m):Mv n base [] w m w W m:=⟨h,Q0.refl _ _,λx hx=>.inl hx,rfl,Qs,Qs⟩
theorem Mv.add(h:Mv n base bs w0 m0 w W m)(hb:w.heap.size<=b):Mv n base (bs++[b]) w0 m0 w W m:=⟨h.own,h.ext,h.sub,h.hd,λx hx hm=>by
 rcases Io.1 hm with hm | hm
 ·exact h.nb x hx hm
 ·have:x=b:=by simpa using hm
  have:=(h.own.lt x hx).2;omega,λx hm=>by
 rcases Io.1 hm with hm | hm
 ·exact h.new x hm
 ·have:x=b:=by simpa using hm
  have:=h.ext.size;omega⟩
theorem Mv.BY6(h:Mv n base bs w0 m0 w W m)(hs:∀x∈cs,x∈bs):Mv n base cs w0 m0 w W m:=⟨h.own,h.ext,h.sub,h.hd,λx hx hm=>h.nb x hx (hs x hm),λx hm=>h.new x (hs x hm)⟩
theorem Mv.close(h:Mv n base bs w0 m0 w W m):Mv n base [] w0 m0 w W m:=h.BY6 Qs
theorem Mv.step(h:Mv n base bs w0 m0 w W m)(hx:Q0 bs w w'):Mv n base bs w0 m0 w' W m:=⟨h.own.ext hx h.nb,h.ext.fresh hx λx hm=>.inl (h.new x hm),h.sub,h.hd,h.nb,h.new⟩
theorem Mv.R5(h:Mv n base bs w0 m0 w W m)(hx:Q0 [] w w'):Mv n base bs w0 m0 w' W m:=⟨h.own.WQ hx,h.ext.trans hx.of_nil,h.sub,h.hd,h.nb,h.new⟩
theorem Mv.call(h:Mv n base bs w0 m0 w W m)(k:Mv n base [] w m w' W' m')(hs:∀x∈bs,x<w.heap.size):Mv n base bs w0 m0 w' W' m':=
 ⟨k.own,h.ext.fresh k.ext λx hm=>(h.sub x hm).symm,λx hx=>by
  rcases k.sub x hx with h1 | h1
  ·exact h.sub x h1
  ·have:=h.ext.size;exact .inr Qo,by rw[k.hd,h.hd],λx hx hm=>by
  rcases k.sub x hx with h1 | h1
  ·exact h.nb x h1 hm
  ·have:=hs x hm;omega,h.new⟩
theorem Mv.SH(h:Mv n base bs w0 m0 w W m)(k:Zj n base w' W' m)(hx:Q0 (QB n m) w w'):Mv n base bs w0 m0 w' W' m:=
 ⟨k,h.ext.fresh hx λx hm=>(h.sub x hm).symm,h.sub,h.hd,h.nb,h.new⟩
theorem Mv.kept(h:Mv n base bs w0 m0 w W m)(k:Mv n base [] w m w' W' m')(hs:∀x∈bs,x<w.heap.size):Q8 bs w w':=λx hm=>k.ext.block x (hs x hm) λgX=>h.nb x gX hm
theorem Mv.rd(h:Mv n base bs w0 m0 w W m):Xg bs w W m:=h.own.rd h.nb
theorem Mv.rd0(h:Mv n base bs w0 m0 w W m):Xg [] w W m:=h.own.rd Qs
theorem Mv.trans{w1:Wo}{W1:Q7}{m1:MW}(h:Mv n base [] w0 m0 w W m)(k:Mv n base [] w m w1 W1 m1):Mv n base [] w0 m0 w1 W1 m1:=h.call k Qs
theorem Mv.AS2(h:Mv n base bs w0 m0 w W m){W0:Q7}(e0:W.now=W0.now)(e1:W.IF.length=W0.IF.length)(e2:W.tasks.length=W0.tasks.length)(e3:W.IE.length=W0.IE.length):Qa W m=Qa W0 m0:=by
 rw[h.hd];simp only[Qa,e0,e1,e2,e3]
end
structure OW (n base:Nat) (bs:List Nat) (w:Wo) (W:Q7) (m:MW):Prop where
 own:Zj n base w W m
 nb:∀x∈QB n m,x∉bs
section
variable {n base:Nat}{bs cs:List Nat}{w w':Wo}{W:Q7}{m:MW}{b:Nat}
theorem OW.of(h:Zj n base w W m)(hs:∀x∈bs,x<base):OW n base bs w W m:=⟨h,λx hx hm=>by
 have:=(h.lt x hx).1;have:=hs x hm;omega⟩
theorem OW.step(h:OW n base bs w W m)(hx:Q0 bs w w'):OW n base bs w' W m:=⟨h.own.ext hx h.nb,h.nb⟩
theorem OW.R5(h:OW n base bs w W m)(hx:Q0 [] w w'):OW n base bs w' W m:=⟨h.own.WQ hx,h.nb⟩
theorem OW.call(h:OW n base bs w W m)(hx:Q0 cs w w')(hd:∀x∈QB n m,x∉cs):OW n base bs w' W m:=⟨h.own.ext hx hd,h.nb⟩
theorem OW.add(h:OW n base bs w W m)(hb:w.heap.size<=b):OW n base (bs++[b]) w W m:=⟨h.own,λx hx hm=>by
 rcases Io.1 hm with hm | hm
 ·exact h.nb x hx hm
 ·have:x=b:=by simpa using hm
  have:=(h.own.lt x hx).2;omega⟩
theorem OW.put(h:OW n base bs w W m)(hx:Q0 bs w w')(hb:w.heap.size<=b):OW n base (bs++[b]) w' W m:=⟨(h.step hx).own,(h.add hb).nb⟩
theorem OW.Aa6{b2:Nat}(h:OW n base bs w W m)(hx:Q0 bs w w')(hb:w.heap.size<=b)(cN:w.heap.size<=b2):OW n base (bs++[b]++[b2]) w' W m:=⟨(h.step hx).own,((h.add hb).add cN).nb⟩
theorem OW.sub(h:OW n base bs w W m)(hs:∀x∈cs,x∈bs):OW n base cs w W m:=⟨h.own,λx hx hm=>h.nb x hx (hs x hm)⟩
theorem OW.mono{aU:Nat}(h:OW n base bs w W m)(hb:aU<=base):OW n aU bs w W m:=⟨h.own.mono hb,h.nb⟩
theorem OW.rd(h:OW n base bs w W m):Xg bs w W m:=h.own.rd h.nb
theorem OW.rd0(h:OW n base bs w W m):Xg [] w W m:=h.own.rd Qs
end
def JC(b:JB):JB:=⟨b.IZ,b.IZ,0,List.replicate b.Rz.length 0,List.replicate b.Rz.length false⟩
def Yd(b:JB)(c:Int):JB×Int:=
 if gi b.locals c>0 then (b,0)
 else (⟨b.IZ,b.RJ-ZH 20 b.RJ,b.SB,b.locals.set c.toNat (ZH 20 b.RJ),b.Rz.set c.toNat (ZH 20 b.RJ==0)⟩,if ZH 20 b.RJ=0 then 2 else 0)
def XO(b:JB)(c n:Int):JB×Int:=
 if n<1\/n>gi b.locals c then (b,3) else ({ b with SB:=b.SB+n,locals:=b.locals.set c.toNat (gi b.locals c-n) },0)
def ZK(b:JB)(op:zxk):JB×Int:=
 if op.kind=4 then (JC b,0)
 else if YQ op.pY 0 ((b.locals.length:Int)-1)=false then (b,1)
 else if op.kind=1 then Yd b op.pY
 else if op.kind=2 then XO b op.pY op.n
 else if op.kind=3 then (Y5 b op.pY,0)
 else (b,1)
structure Z6 (base:Nat) (w:Wo) (b:JB) (p:MG):Prop where
 loc:Uo Jn 1 Qc base w p.lO p.lC b.locals
 Rz:Uo M0 1 Ye base w p.dO p.dC b.Rz
def ZP(p:MG):List Nat:=QE p.lO++QE p.dO
theorem Z6.lt{base:Nat}{w:Wo}{b:JB}{p:MG}(h:Z6 base w b p):∀x∈ZP p,base<=x/\x<w.heap.size:=λx hx=>by
 rcases Io.1 hx with hx | hx
 ·exact h.loc.lt x hx
 ·exact h.Rz.lt x hx
theorem Z6.ext{base:Nat}{w w':Wo}{b:JB}{p:MG}{bs:List Nat}(h:Z6 base w b p)(hx:Q0 bs w w')(hd:∀x∈ZP p,x∉bs):Z6 base w' b p:=
 ⟨h.loc.ext hx λx hm=>hd x (Ib _ hm),h.Rz.ext hx λx hm=>hd x (Iy _ hm)⟩
theorem Z6.WQ{base:Nat}{w w':Wo}{b:JB}{p:MG}(h:Z6 base w b p)(hx:Q0 [] w w'):Z6 base w' b p:=h.ext hx Qs
theorem Z6.CZ5{base:Nat}{w w':Wo}{b:JB}{p:MG}{bs:List Nat}(h:Z6 base w b p)(hx:Q0 bs w w')(hb:∀x∈bs,x<base):Z6 base w' b p:=h.ext hx λx hm gX=>by
 have:=(h.lt x hm).1;have:=hb x gX;omega
theorem Z6.mono{base aU:Nat}{w:Wo}{b:JB}{p:MG}(h:Z6 base w b p)(hb:aU<=base):Z6 aU w b p:=⟨h.loc.mono hb,h.Rz.mono hb⟩
theorem Z6.eR{base:Nat}{w:Wo}{b:JB}{p:MG}(h:Z6 base w b p){c:Int}(c0:0<=c)(c1:c<(b.locals.length:Int))(x:Int):Z6 base (R9 w p.lO (Int.toNat c*1) [I x]) { b with locals:=b.locals.set c.toNat x } p:=
 ⟨h.loc.R9 Yb.len c0 c1 (j:=0) (vs:=[I x]) (x:=x) rfl Qs,h.Rz.ext (h.loc.rD _ _) (h.Rz.Wf h.loc Qd)⟩
theorem Z6.B35{base:Nat}{w:Wo}{b:JB}{p:MG}(h:Z6 base w b p){c:Int}(c0:0<=c)(c1:c<(b.Rz.length:Int))(x:Bool):Z6 base (R9 w p.dO (Int.toNat c*1) [.bool x]) { b with Rz:=b.Rz.set c.toNat x } p:=
 ⟨h.loc.ext (h.Rz.rD _ _) (h.loc.Wf h.Rz Qd),h.Rz.R9 Yu.len c0 c1 (j:=0) (vs:=[.bool x]) (x:=x) rfl Qs⟩
theorem Z6.xL{base:Nat}{w:Wo}{b:JB}{p:MG}(h:Z6 base w b p)(n:Nat)(vs:List Va):Q0 (ZP p) w (R9 w p.lO n vs):=(h.loc.rD n vs).mono λx hx=>Ib _ hx
theorem Z6.xD{base:Nat}{w:Wo}{b:JB}{p:MG}(h:Z6 base w b p)(n:Nat)(vs:List Va):Q0 (ZP p) w (R9 w p.dO n vs):=(h.Rz.rD n vs).mono λx hx=>Iy _ hx
section
variable {b:JB}{m:MG}{w:Wo}
theorem GS{α:Type}[Inhabited α]{l:List α}{i:Nat}(h:i<l.length):l.take i++[gi l (i:Int)]=l.take (i+1):=by
 rw[List.take_succ_eq_append_getElem h,Ui h]
theorem Fq(h1:znt [] w m.lO b.locals)(h2:ztv [] w m.dO b.Rz)(hd:b.Rz.length=b.locals.length)(hl:b.locals.length<=1048576) :
  Cz OE #[.agg (Z2 b m).toArray] w λe w'=>∃p,e=.returned (.agg (Z2 b p).toArray)/\Z6 w.heap.size w' b p/\Q0 [] w w':=by
 refine(zjk b.IZ b.RJ b.SB m.lO b.locals.length m.lC m.dO b.Rz.length m.dC (R:=λv w'=>∃p,v=.agg (Z2 b p).toArray/\Z6 w.heap.size w' b p/\Q0 [] w w') ?_).mono λe w' ⟨v,he,p,hv,h3⟩=>⟨p,by rw[he,hv],h3⟩
 intro x wB x5 Sy x6 aS
 refine⟨λvs w1=>∃(i:Nat) (p:MG),vs=[I (i:Int),I b.IZ,I b.RJ,I b.SB,.slice p.lO (b.locals.take i).length p.lC,.slice p.dO (b.Rz.take i).length p.dC]/\i<=b.locals.length/\Sc w [x,x5,x6] w1/\Ob Jn 1 Qc w.heap.size [x,x5,x6] w1 p.lO p.lC (b.locals.take i)/\Ob M0 1 Ye w.heap.size [x,x5,x6] w1 p.dO p.dC (b.Rz.take i),
  Zt b.locals.length 0,λwr hx _=>⟨0,⟨none,0,none,0,none,0⟩,Qs,Ie _,(((Sc.start w).add wB).add Sy |>.add aS).R5 hx,⟨.inl ⟨rfl,rfl,rfl⟩,by simp[QE]⟩,⟨.inl ⟨rfl,rfl,rfl⟩,by simp[QE]⟩⟩,?_⟩
 rintro c1 l l1 l2 Sf Sg Sj l4O l4L l4C wv hs ⟨i,p,he,hi,s1,hO,hD⟩;simp only[I5,I6,Iw,true_and,and_true] at he;obtain⟨rfl,rfl,rfl,rfl,⟨rfl,rfl,rfl⟩,rfl,rfl,rfl⟩:=he;refine⟨λIU=>?_,λRN=>?_⟩
 ·have IU:=Ot IU;have wX:=h1.scb s1;refine⟨wX.ix JH Qo IU,_,wX i Qo IU,λb8 hb8=>⟨rfl,λRq Rb iB Wd=>?_⟩⟩;have s2:=s1.put Rb hb8;have oZ:=hO.put Rb hb8;have hD2:=hD.put Rb hb8;obtain⟨o2,c2,w2,WK,xJ,hO3,SE⟩:=oZ.AU1 Yb P6 (x:=gi b.locals (i:Int)) iB s2.ext.size Wd (z1q _) (by rw[List.length_take]; omega) Qd Y3 #[false,false];rw[GS Qo] at WK hO3;have s3:=s2.call SE λx hm=>(oZ.own.lt x hm).1
  have hD3:=hD2.call SE (hD2.own.Wf oZ.own Qd);have vD:=h2.scb s3;refine⟨_,_,_,w2,WK,xJ,vD.ix DO Qo Qo,_,vD i Qo Qo,λb9 hb9=>⟨rfl,λRw SZ gY CO5=>?_⟩⟩;have s4:=s3.put SZ hb9;have hO4:=hO3.put SZ hb9;have hD4:=hD3.put SZ hb9;obtain⟨o4,c4,w4,CI4,hk4,hD5,kJ⟩:=hD4.AU1 Yu KJ (x:=gi b.Rz (i:Int)) gY s4.ext.size CO5 (z2v _) (by rw[List.length_take]; omega) Qd Jc #[false,false];rw[GS Qo] at CI4 hD5;have s5:=s4.call kJ λx hm=>(hD4.own.lt x hm).1
  have hO5:=hO4.call kJ (hO4.own.Wf hD4.own Qd);refine⟨_,_,_,w4,CI4,hk4,⟨Qo,Qo⟩,λw5 Sy _=>⟨⟨i+1,⟨o2,c2,o4,c4,none,0⟩,rfl,Qo,(s5.step Sy).sub Qs,(hO5.step Sy).sub Qs,(hD5.step Sy).sub Qs⟩,?_⟩⟩;simp only[Zt,Xe,ZQ,Ig];omega
 ·have RN:=Ou RN;have e1:b.locals.take i=b.locals:=List.take_of_length_le Qo;have e2:b.Rz.take i=b.Rz:=List.take_of_length_le Qo;rw[e1] at hO ⊢;rw[e2] at hD ⊢;exact λw2 R2=>⟨p,rfl,⟨(hO.step R2).own,(hD.step R2).own⟩,(s1.step R2).ext⟩
theorem znk(l:List Bool)(k:Nat)(h:k<l.length):(List.replicate k false++l.drop k).set k false=List.replicate (k+1) false++l.drop (k+1):=by
 rw[List.set_append,C' Qs,List.length_replicate,Nat.sub_self,List.drop_eq_getElem_cons h,List.set_cons_zero,List.replicate_succ',List.append_assoc,List.singleton_append]
theorem Fs{base:Nat}(h:Z6 base w b m)(hl:b.Rz.length<=1048576) :
  Cz OF #[.agg (Z2 b m).toArray] w λe w'=>e=.returned (.agg (Z2 b m).toArray)/\Z6 base w' { b with Rz:=List.replicate b.Rz.length false } m/\Q0 (ZP m) w w':=by
 refine(zjl b.IZ b.RJ b.SB m.lO b.locals.length m.lC m.dO b.Rz.length m.dC (R:=λv w'=>v=.agg (Z2 b m).toArray/\Z6 base w' { b with Rz:=List.replicate b.Rz.length false } m/\Q0 (ZP m) w w') ?_).mono λe w' ⟨v,he,hv,h3⟩=>⟨by rw[he,hv],h3⟩
 intro x wB x5 Sy
 have hnb:∀y∈ZP m,y∉[x,x5]:=λy hy hm=>by
  have:=(h.lt y hy).2;simp only[Ij,List.not_mem_nil,or_false] at hm;rcases hm with rfl | rfl <;> omega
 have vA:∀y∈[x,x5],w.heap.size<=y:=λy hm=>by
  simp only[Ij,List.not_mem_nil,or_false] at hm;rcases hm with rfl | rfl <;> assumption
 refine XN b.Rz.length 0 rfl (λk w1=>k<=b.Rz.length/\Z6 base w1 { b with Rz:=List.replicate k false++b.Rz.drop k } m/\Q0 (ZP m) w w1) (λw1 RZ _=>⟨Ie _,by simpa using h.WQ RZ,RZ.of_nil⟩) λk w1 hs ⟨hk,hO,hX⟩=>⟨λIU=>?_,λRN=>?_⟩
 ·have IU:=Ot IU;have hlen:(List.replicate k false++b.Rz.drop k).length=b.Rz.length:=by simp; omega
  have e1:=hO.B35 (c:=(k:Int)) Qo (by show (k:Int)<((List.replicate k false++b.Rz.drop k).length:Int); rw[hlen]; exact IU) false;have e2:({ b with Rz:=(List.replicate k false++b.Rz.drop k).set k false }:JB)={ b with Rz:=List.replicate (k+1) false++b.Rz.drop (k+1) }:=by rw[znk _ _ Qo]
  have Wl:=hO.Rz.ix (i:=(k:Int)) Qo (by show (k:Int)<((List.replicate k false++b.Rz.drop k).length:Int); rw[hlen]; exact IU);have wQ:=hO.Rz.wr Yu.len (bs:=[x,x5]) (λy hy=>hnb y (Iy _ hy)) (i:=(k:Int)) Qo (by show (k:Int)<((List.replicate k false++b.Rz.drop k).length:Int); rw[hlen]; exact IU) (j:=0) (n:=1) Qd;refine⟨by rw[<-hlen]; exact Wl,wQ,⟨Qo,Qo⟩,λw2 R2 _=>Qt Qo ⟨Qo,?_,(hX.trans (hO.xD _ _)).fresh R2 λy hy=>.inl (vA y hy)⟩⟩;rw[Ih] at e1;have:=(e2▸e1:Z6 base (R9 w1 m.dO (k*1) [.bool false]) { b with Rz:=List.replicate (k+1) false++b.Rz.drop (k+1) } m);exact this.ext (by rw[Ih] at R2; exact R2) hnb
 ·have RN:=Ou RN;have xJ:k=b.Rz.length:=Qo;subst xJ;rw[List.drop_length,List.append_nil] at hO;exact λw2 R2=>⟨rfl,hO.ext R2 hnb,hX.fresh R2 λy hy=>.inl (vA y hy)⟩
theorem z8{p:Int}(h:0<=p):0<=ZH 20 p/\ZH 20 p<=p:=by unfold ZH; split <;> omega
theorem U1{op:zxk}(hb:V4 b)(h1:znt [] w m.lO b.locals)(h2:ztv [] w m.dO b.Rz) :
  Cz Yx #[.agg (Z2 b m).toArray,.agg (zrz op).toArray] w λe w'=>∃p,e=.returned (.tuple #[.agg (Z2 (ZK b op).1 p).toArray,I (ZK b op).2])/\Z6 w.heap.size w' (ZK b op).1 p/\Q0 [] w w':=by
 refine(zfk b.IZ b.RJ b.SB m.lO b.locals.length m.lC m.dO b.Rz.length m.dC op.kind op.pY op.n (R:=λv w'=>∃p,v=.tuple #[.agg (Z2 (ZK b op).1 p).toArray,I (ZK b op).2]/\Z6 w.heap.size w' (ZK b op).1 p/\Q0 [] w w') ?_).mono λe w' ⟨v,he,p,hv,h3⟩=>⟨p,by rw[he,hv],h3⟩
 have hm9:=Zl;have hl2:=hb.l2;have hdl:=hb.dl;have q1:=hb.q1;have q2:=hb.q2;have p1:=hb.p1;have p2:=hb.p2;have s1':=hb.s1;have s2':=hb.s2;intro x wB x5 Sy x6 aS;have hok:=Da (bs:=[]) h1 h2 Qo;rw[Qh.2 hb] at hok;refine⟨true,hok,λh=>by simp at h,λ_ M' RZ dK=>?_⟩;have t1:=((((Sc.start w).add wB).add Sy).add aS).R5 RZ;refine(Fq (h1.ext RZ) (h2.ext RZ) hdl Qo).mono λe wv ⟨p,he,hO,dG⟩=>⟨_,_,_,_,_,_,_,_,_,he,Qe dG dK,λg4=>?_,λg4=>?_⟩
 ·have g4:op.kind=4:=by simpa using g4
  have t2:=t1.R5 dG;have hbl:∀y∈[x,x5,x6],y<M'.heap.size:=dK;refine λO' R2 We=>⟨_,_,_,_,Kc Yb P6 b.Rz.length Qo Qo O',Qe (Z9 _ _) We,λRq Rb iB=>?_⟩
  have hLo:=(Vq (enc:=Jn) Yb.len Qc b.Rz.length (0:Int) O').ext Rb λy hy hm=>by
   have:y=O'.heap.size:=by simpa[QE] using hy
   have:=We y hm;omega
  have hD3:Uo M0 1 Ye M'.heap.size Rq p.dO p.dC b.Rz:=((hO.CZ5 R2 hbl).WQ (Z9 O' _)).CZ5 Rb hbl |>.Rz
  have C72:M'.heap.size<=O'.heap.size:=IB dG.size R2.size;have hB3:Z6 M'.heap.size Rq { b with locals:=List.replicate b.Rz.length 0 } ⟨some ⟨O'.heap.size,0,none⟩,b.Rz.length,p.dO,p.dC,none,0⟩:=⟨hLo.mono C72,hD3⟩;have t3:=((t2.step R2).R5 (Z9 O' (.cells ((List.replicate b.Rz.length (0:Int)).flatMap Jn).toArray Qc))).step Rb;have hw:=Fs (b:=⟨b.IZ,b.IZ,0,List.replicate b.Rz.length 0,b.Rz⟩) (m:=⟨some ⟨O'.heap.size,0,none⟩,b.Rz.length,p.dO,p.dC,none,0⟩) (base:=M'.heap.size) ⟨hB3.loc,hB3.Rz⟩ (by show b.Rz.length<=_; omega);simp only[Z2,List.length_replicate] at hw;refine I4 hw λe w4 ⟨he4,hO4,kJ⟩=>⟨_,_,_,_,_,_,_,_,_,he4,λy hm=>kJ.block y (iB y hm) λgX=>?_,λRw SZ=>⟨⟨some ⟨O'.heap.size,0,none⟩,b.Rz.length,p.dO,p.dC,none,0⟩,?_,?_,?_⟩⟩
  ·have:=(hB3.lt y gX).1;have:=dK y hm;omega
  ·have:ZK b op=(JC b,0):=by unfold ZK; rw[E' g4]
   rw[this]; simp[Z2,JC]
  ·have:ZK b op=(JC b,0):=by unfold ZK; rw[E' g4]
   rw[this]
   exact(Z6.mono ⟨hO4.loc,hO4.Rz⟩ RZ.size).ext SZ λy hy hm=>by
    have:=(hB3.lt y hy).1;have:=dK y hm;omega
  ·exact((t3.call kJ λy hy=>IB RZ.size (hB3.lt y hy).1).step SZ).ext
 ·have g4:¬op.kind=4:=by simpa using g4
  have t2:=t1.R5 dG
  have hbl:∀y∈ZP p,y∉[x,x5,x6]:=λy hy hm=>by
   have:=(hO.lt y hy).1;have:=dK y hm;omega
  have hO0:Z6 w.heap.size wv b p:=hO.mono RZ.size
  have fin:∀{b':JB} {c:Int} {w1 w2:Wo},ZK b op=(b',c)->Z6 w.heap.size w1 b' p->Q0 (ZP p) wv w1->Q0 [x,x5,x6] w1 w2->Z6 w.heap.size w2 (ZK b op).1 p/\Q0 [] w w2:=λe hB hX hx=>by
   rw[e];exact⟨hB.ext hx hbl,((t2.call hX λy hy=>(hO0.lt y hy).1).step hx).ext⟩
  have wX:znt [x,x5,x6] wv p.lO b.locals:=hO.loc.rd Yb.len λy hy=>hbl y (Ib _ hy)
  refine⟨⟨Qo,Qo⟩,_,Qr,λg5 wr hx=>⟨p,?_,fin (b':=b) (c:=1) ?_ hO0 (Q0.refl _ _) hx⟩,λg5=>?_⟩
  ·have:ZK b op=(b,1):=by unfold ZK; rw[C' g4,E' (by simpa using g5)]
   rw[this]; rfl
  ·unfold ZK; rw[C' g4,E' (by simpa using g5)]
  have g5':YQ op.pY 0 ((b.locals.length:Int)-1)=true:=by simpa using g5
  have gL:ZK b op=if op.kind=1 then Yd b op.pY else if op.kind=2 then XO b op.pY op.n else if op.kind=3 then (Y5 b op.pY,0) else (b,1):=by
   unfold ZK; rw[C' g4,C' (by rw[g5']; decide)]
  obtain⟨c0,c1⟩:=Qu.1 g5';have c1:op.pY<(b.locals.length:Int):=Qo;have he':=hb.each _ c0 c1;have Wl:=wX.ix JH c0 c1;have hwL:Yo [x,x5,x6] wv p.lO (Int.toNat op.pY*1) 1:=hO.loc.wr Yb.len (λy hy=>hbl y (Ib _ hy)) c0 c1 (j:=0) Qd;refine⟨λg6=>?_,λg6=>?_⟩
  ·have g6:op.kind=1:=by simpa using g6
   rw[E' g6] at gL;refine⟨Wl,_,wX _ c0 c1,λg7 wr hx=>⟨p,?_,fin (b':=b) (c:=0) ?_ hO0 (Q0.refl _ _) hx⟩,λg7=>?_⟩
   ·rw[gL]; unfold Yd; rw[E' (Ot g7)]; rfl
   ·rw[gL]; unfold Yd; rw[E' (Ot g7)]
   have g7:=Ou g7;have ht:Yd b op.pY=(⟨b.IZ,b.RJ-ZH 20 b.RJ,b.SB,b.locals.set op.pY.toNat (ZH 20 b.RJ),b.Rz.set op.pY.toNat (ZH 20 b.RJ==0)⟩,if ZH 20 b.RJ=0 then 2 else 0):=by unfold Yd; rw[C' g7]
   rw[ht] at gL;have hm:=z8 p1;have e1:=hO0.eR c0 c1 (ZH 20 b.RJ);have e2:=e1.B35 (c:=op.pY) c0 (by show op.pY<(b.Rz.length:Int); omega) (ZH 20 b.RJ==0);have hX:=(hO0.xL (Int.toNat op.pY*1) [I (ZH 20 b.RJ)]).trans (e1.xD (Int.toNat op.pY*1) [.bool (ZH 20 b.RJ==0)]);refine⟨_,JQ,⟨Qo,Qo⟩,Wl,hwL,e1.Rz.ix c0 (by show op.pY<(b.Rz.length:Int); omega),e1.Rz.wr Yu.len (λy hy=>hbl y (Iy _ hy)) c0 (by show op.pY<(b.Rz.length:Int); omega) (j:=0) Qd,λg8 wr hx=>⟨p,?_,fin gL ⟨e2.loc,e2.Rz⟩ hX hx⟩,λg8 wr hx=>⟨p,?_,fin gL ⟨e2.loc,e2.Rz⟩ hX hx⟩⟩
   ·rw[gL,E' (by simpa using g8)]; simp[Z2]
   ·rw[gL,C' (by simpa using g8)]; simp[Z2]
  ·have g6:¬op.kind=1:=by simpa using g6
   rw[C' g6] at gL;refine⟨λg7=>?_,λg7=>?_⟩
   ·have g7:op.kind=2:=by simpa using g7
    rw[E' g7] at gL;refine⟨λ_=>Wl,_,λ_=>wX _ c0 c1,λg8 wr hx=>⟨p,?_,fin (b':=b) (c:=3) ?_ hO0 (Q0.refl _ _) hx⟩,λg8=>?_⟩
    ·rw[gL]; unfold XO; rw[E' (by simpa using g8)]; rfl
    ·rw[gL]; unfold XO; rw[E' (by simpa using g8)]
    have g8':¬(op.n<1\/op.n>gi b.locals op.pY):=by simpa using g8
    have ht:XO b op.pY op.n=({ b with SB:=b.SB+op.n,locals:=b.locals.set op.pY.toNat (gi b.locals op.pY-op.n) },0):=by unfold XO; rw[C' g8']
    rw[ht] at gL;have e1:=hO0.eR c0 c1 (gi b.locals op.pY-op.n);refine⟨Wl,_,wX _ c0 c1,⟨Qo,Qo⟩,Wl,hwL,⟨Qo,Qo⟩,λwr hx=>⟨p,?_,fin gL ⟨e1.loc,e1.Rz⟩ (hO0.xL _ _) hx⟩⟩;rw[gL]; simp[Z2]
   ·have g7:¬op.kind=2:=by simpa using g7
    rw[C' g7] at gL;refine⟨λg8=>?_,λg8 wr hx=>⟨p,?_,fin (b':=b) (c:=1) ?_ hO0 (Q0.refl _ _) hx⟩⟩
    ·have g8:op.kind=3:=by simpa using g8
     rw[E' g8] at gL;have e1:=hO0.eR c0 c1 0;refine⟨Wl,_,wX _ c0 c1,⟨Qo,Qo⟩,Wl,hwL,λg9 wr hx hs=>?_,λg9 wr hx=>⟨p,?_,fin gL ?_ (hO0.xL _ _) hx⟩⟩
     ·have g9:=Ot g9;have e2:Z6 w.heap.size wr ⟨b.IZ,b.RJ+gi b.locals op.pY,b.SB,b.locals.set op.pY.toNat 0,b.Rz⟩ p:=Z6.ext ⟨e1.loc,e1.Rz⟩ hx hbl;have hw:=Fs e2 (by show b.Rz.length<=_; omega);simp only[Z2,H'] at hw;refine I4 hw λe w4 ⟨he4,hO4,kJ⟩=>⟨_,_,_,_,_,_,_,_,_,he4,λy hm=>kJ.block y (hs y hm) λgX=>hbl y gX hm,λRw SZ=>⟨p,?_,?_,?_⟩⟩
      ·rw[gL]; simp[Z2,Y5,E' g9]
      ·rw[gL];have:Y5 b op.pY=⟨b.IZ,b.RJ+gi b.locals op.pY,b.SB,b.locals.set op.pY.toNat 0,List.replicate b.Rz.length false⟩:=by unfold Y5; rw[E' g9]
       rw[this];exact Z6.ext ⟨hO4.loc,hO4.Rz⟩ SZ hbl
      ·exact((((t2.call (hO0.xL _ _) λy hy=>(hO0.lt y hy).1).step hx).call kJ λy hy=>(hO0.lt y hy).1).step SZ).ext
     ·have g9:=Ou g9;rw[gL]; simp[Z2,Y5,C' g9]
     ·have g9:=Ou g9;have:Y5 b op.pY=⟨b.IZ,b.RJ+gi b.locals op.pY,b.SB,b.locals.set op.pY.toNat 0,b.Rz⟩:=by unfold Y5; rw[C' g9]
      rw[this];exact⟨e1.loc,e1.Rz⟩
    ·rw[gL,C' (by simpa using g8)]; rfl
    ·rw[gL,C' (by simpa using g8)]
end
section
variable {base:Nat}{W:Q7}{m:MW}{w:Wo}
theorem YW{w:Wo}{x x1:Nat}(h:w.heap.size<=x)(h1:w.heap.size<=x1):∀y∈[x,x1],w.heap.size<=y:=λy hm=>by
 simp only[Ij,List.not_mem_nil,or_false] at hm;rcases hm with rfl | rfl <;> assumption
theorem Mv.two{n:Nat}(h:Zj n base w W m){x x1:Nat}(hx:w.heap.size<=x)(RZ:w.heap.size<=x1):Mv n base [x,x1] w m w W m:=((Mv.start h).add hx).add RZ
theorem CR{n:Nat}{m:MW}{w:Wo}{k:Nat}{vs:List Va}:Q0 (QB n m) w (R9 w m.cO k vs):=Xp λa ha=>Nb (by rw[ha]; simp[QE])
theorem LR{n:Nat}{m:MW}{w:Wo}{k:Nat}{vs:List Va}:Q0 (QB n m) w (R9 w m.tO k vs):=Xp λa ha=>Nd (by rw[ha]; simp[QE])
theorem B2{n:Nat}{m:MW}{w:Wo}{k:Nat}{vs:List Va}:Q0 (QB n m) w (R9 w m.gO k vs):=Xp λa ha=>Nc (by rw[ha]; simp[QE])
theorem NG{n:Nat}{m:MW}{w:Wo}{i k:Nat}{vs:List Va}(hi:i<n):Q0 (QB n m) w (R9 w (m.ms i).sO k vs):=Xp λa ha=>Jb hi (by simp[Qn,QE,ha])
theorem zzo{n:Nat}{m:MW}{w:Wo}{i k:Nat}{vs:List Va}(hi:i<n):Q0 (QB n m) w (R9 w (m.ms i).lO k vs):=Xp λa ha=>Jb hi (by simp[Qn,QE,ha])
theorem z21{n:Nat}{m:MW}{w:Wo}{i k:Nat}{vs:List Va}(hi:i<n):Q0 (QB n m) w (R9 w (m.ms i).dO k vs):=Xp λa ha=>Jb hi (by simp[Qn,QE,ha])
theorem zri{n:Nat}{bs:List Nat}(h:Zj n base w W m)(hd:∀x∈QB n m,x∉bs){i:Int}(h0:0<=i)(h1:i<(W.IF.length:Int)){j k:Nat}(hj:j+k<=5):Yo bs w m.cO (Int.toNat i*5+j) k:=h.c.wr KX.len (λb hb=>hd b (Nb hb)) h0 h1 hj
theorem zik{n:Nat}{bs:List Nat}(h:Zj n base w W m)(hd:∀x∈QB n m,x∉bs){i:Int}(h0:0<=i)(h1:i<(W.tasks.length:Int)){j k:Nat}(hj:j+k<=9):Yo bs w m.tO (Int.toNat i*9+j) k:=h.t.wr OZ.len (λb hb=>hd b (Nd hb)) h0 h1 hj
theorem zef{n:Nat}{bs:List Nat}(h:Zj n base w W m)(hd:∀x∈QB n m,x∉bs){i:Int}(h0:0<=i)(h1:i<(n:Int)){j k:Nat}(hj:j+k<=14):Yo bs w m.gO (Int.toNat i*14+j) k:=h.g.row.wr Yf.len (λb hb=>hd b (Nc hb)) h0 (by rw[J1,h.len]; exact h1) hj
theorem zzt{n:Nat}{bs:List Nat}(h:Zj n base w W m)(hd:∀x∈QB n m,x∉bs){i c:Int}(h0:0<=i)(h1:i<(n:Int))(c0:0<=c)(c1:c<((gi W.IE i).IG.length:Int)){j k:Nat}(hj:j+k<=5):Yo bs w (m.ms i.toNat).sO (Int.toNat c*5+j) k:=
 (h.each h0 h1).shl.wr T1.len (λb hb=>hd b (Jb (k:=i.toNat) Qo (by simp[Qn]; exact .inr (.inr hb)))) c0 c1 hj
theorem z33{n:Nat}{bs:List Nat}(h:Zj n base w W m)(hd:∀x∈QB n m,x∉bs){i c:Int}(h0:0<=i)(h1:i<(n:Int))(c0:0<=c)(c1:c<((gi W.IE i).IQ.locals.length:Int)){j k:Nat}(hj:j+k<=1):Yo bs w (m.ms i.toNat).lO (Int.toNat c*1+j) k:=
 (h.each h0 h1).loc.wr Yb.len (λb hb=>hd b (Jb (k:=i.toNat) Qo (by simp[Qn]; exact .inl hb))) c0 c1 hj
theorem z32{n:Nat}{bs:List Nat}(h:Zj n base w W m)(hd:∀x∈QB n m,x∉bs){i c:Int}(h0:0<=i)(h1:i<(n:Int))(c0:0<=c)(c1:c<((gi W.IE i).IQ.Rz.length:Int)){j k:Nat}(hj:j+k<=1):Yo bs w (m.ms i.toNat).dO (Int.toNat c*1+j) k:=
 (h.each h0 h1).Rz.wr Yu.len (λb hb=>hd b (Jb (k:=i.toNat) Qo (by simp[Qn]; exact .inr (.inl hb)))) c0 c1 hj
theorem zqs{n:Nat}(h:Zj n base w W m){c:Int}(c0:0<=c)(c1:c<(W.IF.length:Int)) :
  (Zj n base (R9 w m.cO (Int.toNat c*5+1) [I (-1)]) { W with IF:=W.IF.set c.toNat { gi W.IF c with cur := -1 } } m)/\
  Zj n base (R9 (R9 w m.cO (Int.toNat c*5+1) [I (-1)]) m.cO (Int.toNat c*5+2) [I 0]) (Ry W c) m:=by
 have e1:=h.Am3 c0 c1 (j:=1) (vs:=[I (-1)]) (x:={ gi W.IF c with cur := -1 }) rfl Qd;refine⟨e1,?_⟩;have hg:gi (W.IF.set c.toNat { gi W.IF c with cur := -1 }) c={ gi W.IF c with cur := -1 }:=by rw[QG _ _ c0 c1 c0,E' rfl]
 have e2:=e1.Am3 c0 (by simpa using c1) (j:=2) (vs:=[I 0]) (x:=Ja (gi W.IF c)) (by rw[hg]; rfl) Qd;rw[List.set_set] at e2;exact e2
theorem ZF{n:Nat}(h:Zj n base w W m){c:Int}(c0:0<=c)(c1:c<(W.IF.length:Int)) :
  Cz Zd #[.agg (Qa W m).toArray,I c] w λe w'=>e=.returned (.agg (Qa (Ry W c) m).toArray)/\Mv n base [] w m w' (Ry W c) m:=by
 refine(zjm _ _ _ _ _ _ _ _ _ _ c (R:=λv w'=>v=.agg (Qa (Ry W c) m).toArray/\Mv n base [] w m w' (Ry W c) m) ?_).mono λe w' ⟨v,he,hv,h3⟩=>⟨by rw[he,hv],h3⟩
 intro x hx x1 RZ;obtain⟨e1,e2⟩:=zqs h c0 c1;have hr:=h.rd (bs:=[]) Qs;refine⟨hr.c.ix Ym c0 c1,zri h Qs c0 c1 Qd,hr.c.ix Ym c0 c1,zri e1 Qs c0 (by simpa using c1) Qd,λwr R2=>⟨by simp[Qa,Ry,S8],((Mv.start h).SH e2 (CR.trans CR)).R5 R2⟩⟩
theorem z0h{W:Q7}{g c:Int}{s:KN}:Rx W g c s={ W with IE:=W.IE.set g.toNat { gi W.IE g with IG:=(gi W.IE g).IG.set c.toNat s } }:=rfl
theorem UL{W W':Q7}{m:MW}(h:Fr W W'):Qa W' m=Qa W m:=by
 simp only[Qa,h.n,h.c,h.t,h.g.len]
theorem zjd{gs:List ZV}(ht:Yk gs){k:Int}(hu:Q6 gs k=true):P2 (gs.length+1) gs k 0=dep 3 gs k:=by
 have hp:∀g:Int,g≠0->Q6 gs g=true->Q6 gs (gi gs g).parent=true:=λg hz hu=>(Yl ht hu hz).1
 have hd:0<=dep 3 gs k/\dep 3 gs k<=3:=by
  by_cases hz:k=0
  ·subst hz; rw[Y4]; omega
  ·obtain⟨_,_,_,d,e,_,hd⟩:=Yl ht hu hz;omega
 have hm:=G9 gs 3 gs.length k hd.1 (by rw[ht.len]; omega);rw[Fu hp _ _ _ hu,hm,C' Qo];omega
theorem zcx{F K:Int}{n:Nat}(mC:SF F K W)(h:Zj n base w W m)(hk:F+Qj<=K){k c:Int}(hu:Q6 W.IE k=true)(hn:n=8)(c0:0<=c)(c1:c<(W.IF.length:Int))(s:KN) :
  Zj n base (R9 w (m.ms k.toNat).sO (Int.toNat c*5) (M1 s)) (Rx W k c s) m:=by
 obtain⟨u0,u1,_⟩:=Q5.1 hu;have hl:=mC.w.a.gl;have hs:=mC.w.a.sl hu;exact h.BK8 u0 Qo c0 Qo (j:=0) (vs:=M1 s) (x:=s) (by simp[M1]) (by simp[M1])
theorem Gu{F K:Int}(h:Zj 8 base w W m)(mC:SF F K W)(hk:F+Qj<=K)(hK:K<=1000000000000000000){c:Int}(c0:0<=c)(c1:c<(W.IF.length:Int)) :
  Cz VA #[.agg (Qa W m).toArray,I c] w λe w'=>e=.returned (.agg (Qa W m).toArray)/\Mv 8 base [] w m w' (QL W c) m:=by
 refine(zbr _ _ _ _ _ _ _ _ _ _ c (R:=λv w'=>v=.agg (Qa W m).toArray/\Mv 8 base [] w m w' (QL W c) m) ?_).mono λe w' ⟨v,he,hv,h3⟩=>⟨by rw[he,hv],h3⟩
 intro x hx x1 RZ;have cP:=mC.w.a.gl
 refine⟨λvs w1=>∃(j:Nat),vs=[I (3-(j:Int))]/\j<=3/\Mv 8 base [x,x1] w m w1 (Yy W c j) m,
  λvs _=>(ZQ 0 vs).toNat,λwr wB _=>⟨0,rfl,Qd,(Mv.two h hx RZ).R5 wB⟩,?_⟩
 rintro d wv hs ⟨j,he,j3,hM⟩;obtain⟨hS,hO⟩:=Hc mC hk c0 c1 j j3;have hN:Yy W c (j+1)=Zi (Yy W c j) c (3-(j:Int)) 8:=rfl;have hE:j=3->Yy W c j=QL W c:=λe=>by rw[e]; rfl
 generalize Yy W c j=W1 at hM hS hO hN hE;simp only[I5,I6,true_and,and_true] at he;refine⟨λhd=>?_,λhd=>?_⟩
 ·have hd:=Ot hd;have uD:c<(W1.IF.length:Int):=by rw[hO.c]; exact c1
  refine XN W.IE.length 1 rfl (λk w2=>1<=k/\k<=8/\Mv 8 base [x,x1] w m w2 (Zi W1 c d k) m) (λw2 R2 _=>⟨I8 _,Qd,?_⟩) λk w2 We ⟨hk1,hk8,aB⟩=>?_
  ·have e:Zi W1 c d 1=W1:=zsk Qo;rw[e];exact hM.step R2
  obtain⟨pZ,oZ⟩:=Fw hS hk (c:=c) (d:=d) Qo c0 uD k hk8;have hf2:=hO.trans oZ;have e0:Qa (Zi W1 c d k) m=Qa W m:=UL hf2.fr;have hr:=aB.rd;have tY:(Zi W1 c d k).IE.length=W.IE.length:=hf2.g.len;have AK7:(Zi W1 c d k).IF.length=W.IF.length:=by rw[hf2.c]
  have Ww:Zi W1 c d (k+1)=if (gi (Zi W1 c d k).IE (k:Int)).used=true/\dep 3 (Zi W1 c d k).IE (k:Int)=d then Rx (Zi W1 c d k) (k:Int) c (ZM (Zi W1 c d k) (k:Int) c) else Zi W1 c d k:=rfl;have hN8:k=8->Yy W c (j+1)=Zi W1 c d k:=λe=>by rw[hN,<-he,e]
  generalize Zi W1 c d k=W2 at aB pZ oZ hf2 e0 hr tY AK7 Ww hN8;refine⟨λIU=>?_,λRN=>?_⟩
  ·have IU:=Ot IU;have RM:(k:Int)<(W2.IE.length:Int):=Qo;have hdp:=Mk (g:=(k:Int)) (c:=m.gC) hr.g (by have:=Zl; omega);rw[tY] at hdp;refine⟨by have:=hr.g.ix (i:=(k:Int)) Qo RM; rwa[tY] at this,(gi W2.IE (k:Int)).used,hr.g.used Qo RM,_,λ_=>hdp,λg=>?_,λg=>?_⟩
   ·refine⟨⟨Qo,Qo⟩,λw3 Rb _=>Qt Qo ⟨Qo,Qo,?_⟩⟩;rw[Ww,C']
    ·exact aB.step Rb
    ·rintro⟨h1,h2⟩;have hu:Q6 W2.IE (k:Int)=true:=Q5.2 ⟨Qo,RM,h1⟩;have:=zjd pZ.w.a.tree hu;rw[tY] at this;rw[this,h1,h2] at g;simp at g
   ·simp only[I0,I7,bne_eq_false_iff_eq] at g;have hu:Q6 W2.IE (k:Int)=true:=Q5.2 ⟨Qo,RM,g.1⟩;have hdk:=zjd pZ.w.a.tree hu;rw[tY,g.2] at hdk;rw[E' ⟨g.1,hdk.symm⟩] at Ww;have hsl:=pZ.w.a.sl hu;have hz:(k:Int)≠0:=Qo;have hp:=pZ.w.a.up hu hz;obtain⟨p0,p1,_⟩:=Q5.1 hp;have hpl:=pZ.w.a.sl hp;have s1:=pZ.w.s _ c hu c0 Qo;have s2:=pZ.w.s _ c hp c0 Qo;have lc:=ZG ((Qb W2 (k:Int) c).v-(Qb W2 (gi W2.IE (k:Int)).parent c).floor) (Qb W2 (k:Int) c).w;have lm:=ZC (Qb W2 (k:Int) c).w;have Wl:Ix m.gO W.IE.length (k:Int):=by have:=hr.g.ix (i:=(k:Int)) Qo RM; rwa[tY] at this
    have AQ7:=(hr.g.IG (k:Int) Qo RM).ix Y7 c0 Qo;have A85:=Pq (g:=(k:Int)) hr pZ.w.a c0 Qo;have Bl3:=L4 (g:=(k:Int)) hr pZ.w.a hu c0 Qo;rw[e0] at A85 Bl3;have SI:=λs=>zcx pZ aB.own hk hu rfl c0 (c:=c) Qo s
    have BV0:∀{vs:List Va},Q0 (QB 8 m) w2 (R9 w2 (m.ms k).sO (Int.toNat c*5) vs):=λ{vs}=>NG Qo
    have wQ:=zzt aB.own aB.nb (i:=(k:Int)) Qo Qo c0 Qo (j:=0) (k:=5) Qd;simp only[Ih] at SI wQ AQ7;refine⟨Wl,_,_,_,hr.g.RF Qo RM,AQ7,_,_,_,_,_,(hr.g.IG (k:Int) Qo RM) c c0 Qo,λb2 cN=>⟨QV W2 (k:Int) c,A85,Uq W2 (k:Int) c,λ_=>Bl3,λg2=>?_,λg2=>?_⟩⟩
    ·have wY:ZM W2 (k:Int) c=⟨(Qb W2 (k:Int) c).floor,QV W2 (k:Int) c && !Uq W2 (k:Int) c,(Qb W2 (gi W2.IE (k:Int)).parent c).floor+Y1 ((Qb W2 (k:Int) c).v-(Qb W2 (gi W2.IE (k:Int)).parent c).floor) (Qb W2 (k:Int) c).w,(Qb W2 (k:Int) c).w,(Qb W2 (k:Int) c).sum⟩:=by
      unfold ZM;rw[E']
      simpa[Qb] using g2
     have SI:=SI (ZM W2 (k:Int) c);rw[wY] at SI;have AK9:Ix m.gO W.IE.length (gi W2.IE (k:Int)).parent:=by have:=hr.g.ix p0 p1; rwa[tY] at this
     refine⟨Wl,_,hr.g.parent Qo RM,AK9,_,_,_,hr.g.RF p0 p1,(hr.g.IG _ p0 p1).ix Y7 c0 Qo,_,zno.f (hr.g.IG _ p0 p1) c0 Qo (j:=0) rfl,⟨by show _<=(Qb W2 (k:Int) c).v-(Qb W2 (gi W2.IE (k:Int)).parent c).floor; omega,by show (Qb W2 (k:Int) c).v-(Qb W2 (gi W2.IE (k:Int)).parent c).floor<=_; omega⟩,_,K8,⟨?_,?_⟩,Wl,_,_,_,hr.g.RF Qo RM,AQ7,wQ,⟨Qo,Qo⟩,λw3 Rb _=>Qt Qo ⟨Qo,Qo,?_⟩⟩
     ·show -9223372036854775808<=(Qb W2 (gi W2.IE (k:Int)).parent c).floor+Y1 ((Qb W2 (k:Int) c).v-(Qb W2 (gi W2.IE (k:Int)).parent c).floor) (Qb W2 (k:Int) c).w;omega
     ·show (Qb W2 (gi W2.IE (k:Int)).parent c).floor+Y1 ((Qb W2 (k:Int) c).v-(Qb W2 (gi W2.IE (k:Int)).parent c).floor) (Qb W2 (k:Int) c).w<=9223372036854775807;omega
     ·rw[Ww,wY];exact(aB.SH SI BV0).step Rb
    ·have wY:ZM W2 (k:Int) c=⟨(Qb W2 (k:Int) c).floor,QV W2 (k:Int) c && !Uq W2 (k:Int) c,(Qb W2 (k:Int) c).v,(Qb W2 (k:Int) c).w,(Qb W2 (k:Int) c).sum⟩:=by
      unfold ZM;rw[C'];intro h1;rw[h1.1,show (gi (gi W2.IE (k:Int)).IG c).on=false from h1.2] at g2;cases g2
     have SI:=SI (ZM W2 (k:Int) c);rw[wY] at SI;refine⟨Wl,_,_,_,hr.g.RF Qo RM,AQ7,wQ,⟨Qo,Qo⟩,λw3 Rb _=>Qt Qo ⟨Qo,Qo,?_⟩⟩;rw[Ww,wY];exact(aB.SH SI BV0).step Rb
  ·have RN:=Ou RN;have hN8:=hN8 Qo;refine⟨⟨Qo,Qo⟩,λw3 Rb _=>⟨⟨j+1,?_,Qo,?_⟩,?_⟩⟩
   ·rw[show d-1=3-((j+1:Nat):Int) by omega]
   ·rw[hN8];exact aB.step Rb
   ·show (d-1).toNat<d.toNat;omega
 ·have hd:=Ou hd;rw[<-hE Qo];exact λw2 R2=>⟨rfl,(hM.step R2).close⟩
end
theorem Oz{n:Nat}{m:MW}{i:Nat}{p:MG}:∀x∈QB n (PO m i p),x∈QB n m\/x∈Qn p:=λx hx=>by
 rcases A3 hx with h | h | h | ⟨k,hk,h⟩
 ·exact .inl (Nb h)
 ·exact .inl (Nd h)
 ·exact .inl (Nc h)
 ·simp only[PO] at h
  split at h
  ·exact .inr h
  ·exact .inl (Jb hk h)
theorem Mv.swap{n base:Nat}{bs:List Nat}{w0 w w':Wo}{W W':Q7}{m0 m m':MW}(h:Mv n base bs w0 m0 w W m)(k:Zj n base w' W' m')(hx:Q0 (QB n m) w w')(hm:m'={ m with ms:=m'.ms })(BV0:∀x∈QB n m',x∈QB n m\/(w0.heap.size<=x/\x∉bs)):Mv n base bs w0 m0 w' W' m':=
 ⟨k,h.ext.fresh hx λx hm=>(h.sub x hm).symm,λx hx=>by
  rcases BV0 x hx with h1 | h1
  ·exact h.sub x h1
  ·exact .inr h1.1,by rw[hm,h.hd],λx hx=>by
  rcases BV0 x hx with h1 | h1
  ·exact h.nb x h1
  ·exact h1.2,h.new⟩
section
variable {base:Nat}{W:Q7}{m:MW}{w:Wo}
theorem Co{K:Int}(h:Zj 8 base w W m)(mC:SW K W)(hK:0<=K){c:Int}(c0:0<=c)(c1:c<(W.IF.length:Int)) :
  Cz Oh #[.agg (Qa W m).toArray,I c] w λe w'=>e=.returned (.agg (Qa W m).toArray)/\Mv 8 base [] w m w' (Zb W c) m:=by
 refine(C4 _ _ _ _ _ _ _ _ _ _ c (R:=λv w'=>v=.agg (Qa W m).toArray/\Mv 8 base [] w m w' (Zb W c) m) ?_).mono λe w' ⟨v,he,hv,h3⟩=>⟨by rw[he,hv],h3⟩
 intro x hx x1 RZ;have cP:=mC.a.gl;refine XN W.IE.length 0 rfl (λk w2=>k<=8/\Mv 8 base [x,x1] w m w2 (QQ W c k) m) (λw2 R2 _=>⟨Qd,(Mv.two h hx RZ).R5 R2⟩) λk w2 We ⟨hk8,aB⟩=>?_
 obtain⟨pZ,oZ⟩:=O3 mC hK c0 c1 k hk8;have e0:Qa (QQ W c k) m=Qa W m:=UL oZ.fr;have hr:=aB.rd;have tY:(QQ W c k).IE.length=W.IE.length:=oZ.g.len;have AK7:(QQ W c k).IF.length=W.IF.length:=by rw[oZ.c]
 have Ww:QQ W c (k+1)=if (gi (QQ W c k).IE (k:Int)).used=true/\Zx (QQ W c k) (k:Int) c 20=true/\Z5 (QQ W c k) (k:Int) c 20>(Qb (QQ W c k) (k:Int) c).floor then Rx (QQ W c k) (k:Int) c (DR (QQ W c k) (k:Int) c) else QQ W c k:=rfl;have hN8:k=8->Zb W c=QQ W c k:=λe=>by rw[e]; rfl
 generalize QQ W c k=W2 at aB pZ oZ e0 hr tY AK7 Ww hN8;refine⟨λIU=>?_,λRN=>?_⟩
 ·have IU:=Ot IU;have RM:(k:Int)<(W2.IE.length:Int):=Qo;have Wl:Ix m.gO W.IE.length (k:Int):=by have:=hr.g.ix (i:=(k:Int)) Qo RM; rwa[tY] at this
  refine⟨Wl,(gi W2.IE (k:Int)).used,hr.g.used Qo RM,λg=>?_,λg=>?_⟩
  ·refine⟨⟨Qo,Qo⟩,λw3 Rb _=>Qt Qo ⟨Qo,?_⟩⟩;rw[Ww,C' (λh1=>by rw[h1.1] at g; cases g)];exact aB.step Rb
  ·have g:(gi W2.IE (k:Int)).used=true:=by simpa using g
   have hu:Q6 W2.IE (k:Int)=true:=Q5.2 ⟨Qo,RM,g⟩;have hsl:=pZ.a.sl hu;have hle:=Gt (g:=(k:Int)) hr pZ.a c0 Qo;rw[e0] at hle;have wY:=hr.g.IG (k:Int) Qo RM;have AQ7:=wY.ix Y7 c0 Qo;have wQ:=zzt aB.own aB.nb (i:=(k:Int)) Qo Qo c0 Qo (j:=0) (k:=1) Qd;have SI:=aB.own.BK8 (i:=(k:Int)) Qo Qo c0 Qo (j:=0) (vs:=[I (Z5 W2 (k:Int) c 20)]) (x:=DR W2 (k:Int) c) rfl Qs;rw[<-z0h] at SI;have BV0:Q0 (QB 8 m) w2 (R9 w2 (m.ms k).sO (Int.toNat c*5+0) [I (Z5 W2 (k:Int) c 20)]):=NG Qo;simp only[Ih] at wQ AQ7 SI;refine⟨_,_,hle,λ_=>Wl,_,_,_,λ_=>hr.g.RF Qo RM,λ_=>AQ7,_,λ_=>zno.f wY c0 Qo (j:=0) rfl,λg2=>?_,λg2=>?_⟩
   ·refine⟨Wl,_,_,_,hr.g.RF Qo RM,AQ7,wQ,⟨Qo,Qo⟩,λw3 Rb _=>Qt Qo ⟨Qo,?_⟩⟩;rw[Ww,E' ⟨g,by simpa[Qb] using g2⟩];exact(aB.SH SI BV0).step Rb
   ·refine⟨⟨Qo,Qo⟩,λw3 Rb _=>Qt Qo ⟨Qo,?_⟩⟩;rw[Ww,C']
    ·exact aB.step Rb
    ·rintro⟨_,h1,h2⟩;rw[h1,show decide (Z5 W2 (k:Int) c 20>(gi (gi W2.IE (k:Int)).IG c).floor)=true from Ii h2] at g2;cases g2
 ·have RN:=Ou RN;rw[hN8 Qo];exact λw3 Rb=>⟨rfl,(aB.step Rb).close⟩
theorem Li.Ck7{bs:List Nat}{w:Wo}{gs:List ZV}{ms:Nat->MG}{o:OA}(h:Li bs w o gs ms){i:Int}(h0:0<=i)(h1:i<(gs.length:Int)):Q1 bs w o (Int.toNat i*14+8+3) [.slice (ms i.toNat).lO (gi gs i).IQ.locals.length (ms i.toNat).lC]:=(h.cells i h0 h1).get 11 _ rfl
theorem Li.quo{bs:List Nat}{w:Wo}{gs:List ZV}{ms:Nat->MG}{o:OA}(h:Li bs w o gs ms){i:Int}(h0:0<=i)(h1:i<(gs.length:Int)):Q1 bs w o (Int.toNat i*14+8+0) [I (gi gs i).IQ.IZ]:=(h.cells i h0 h1).get 8 _ rfl
def TT(m:MG)(p:MG):MG:=⟨p.lO,p.lC,p.dO,p.dC,m.sO,m.sC⟩
theorem Oy{m p:MG}:∀x∈Qn (TT m p),x∈ZP p\/x∈Qn m:=λx hx=>by
 simp only[Qn,TT,ZP,Io] at hx ⊢;rcases hx with (h | h) | h
 ·exact .inl (.inl h)
 ·exact .inl (.inr h)
 ·exact .inr (.inr h)
theorem Zj.CC3{n:Nat}(h:Zj n base w W m){i:Int}(h0:0<=i)(hi:i<(n:Int)){b:JB}{p:MG}(hb:Z6 base w b p)(hn:∀x∈ZP p,x∉QB n m) :
  Zj n base (R9 w m.gO (Int.toNat i*14+8) (Z2 b p)) (RP W i b) (PO m i.toNat (TT (m.ms i.toNat) p)):=by
 have hm:=h.each h0 hi;refine h.B36 h0 hi (g:={ gi W.IE i with IQ:=b }) (p:=TT (m.ms i.toNat) p) ⟨hb.loc,hb.Rz,hm.shl⟩ (λx hx=>?_) rfl (by simp[Z2]);rcases Oy x hx with h1 | h1
 ·exact .inl (hn x h1)
 ·exact .inr h1
theorem zf2{F K:Int}(h:Zj 8 base w W m)(mC:SF F K W)(uX:base<=w.heap.size) :
  Cz M9 #[.agg (Qa W m).toArray] w λe w'=>∃m',e=.returned (.agg (Qa W m).toArray)/\Mv 8 base [] w m w' (Ll W) m':=by
 refine(zfn _ _ _ _ _ _ _ _ _ _ (R:=λv w'=>∃m',v=.agg (Qa W m).toArray/\Mv 8 base [] w m w' (Ll W) m') ?_).mono λe w' ⟨v,he,m',hv,h3⟩=>⟨m',by rw[he,hv],h3⟩
 intro x hx x1 RZ;have cP:=mC.w.a.gl;have Cd0:=mC.w.a.c2;have qD:=YW hx RZ;refine XN W.IE.length 0 rfl (λk w2=>k<=8/\∃m2,Mv 8 base [x,x1] w m w2 (Yi W k) m2) (λw2 R2 _=>⟨Qd,m,(Mv.two h hx RZ).R5 R2⟩) λk w2 We ⟨hk8,m2,aB⟩=>?_
 obtain⟨pZ,oZ⟩:=Vn mC k hk8;have tY:(Yi W k).IE.length=W.IE.length:=oZ.g.len;have AK7:(Yi W k).IF.length=W.IF.length:=by rw[oZ.c]
 have Ww:Yi W (k+1)=if (gi (Yi W k).IE (k:Int)).used=true/\(gi (Yi W k).IE (k:Int)).IQ.IZ≠0 then ZZ (Yi W k) (k:Int) (Yi W k).IF.length else Yi W k:=rfl;have hN8:k=8->Ll W=Yi W k:=λe=>by rw[e]; rfl
 generalize Yi W k=W2 at aB pZ oZ tY AK7 Ww hN8;have hmg:m2.gO=m.gO:=by rw[aB.hd]
 have hr:=aB.rd;refine⟨λIU=>?_,λRN=>?_⟩
 ·have IU:=Ot IU;have RM:(k:Int)<(W2.IE.length:Int):=Qo;have Wl:Ix m.gO W.IE.length (k:Int):=by have:=hr.g.ix (i:=(k:Int)) Qo RM; rwa[tY,hmg] at this
  have hru:=hr.g.used (i:=(k:Int)) Qo RM;have hrq:=hr.g.quo (i:=(k:Int)) Qo RM;rw[hmg] at hru hrq;refine⟨Wl,(gi W2.IE (k:Int)).used,hru,λ_=>Wl,_,λ_=>hrq,λg=>?_,λg=>?_⟩
  ·refine⟨⟨Qo,Qo⟩,λw3 Rb _=>Qt Qo ⟨Qo,m2,?_⟩⟩;rw[Ww,C']
   ·exact aB.step Rb
   ·rintro⟨h1,h2⟩;rw[h1] at g;simp[h2] at g
  ·simp only[I0,I7,beq_eq_false_iff_ne] at g;have hu:Q6 W2.IE (k:Int)=true:=Q5.2 ⟨Qo,RM,g.1⟩;rw[E' ⟨g.1,g.2⟩] at Ww;refine XN W.IF.length 0 rfl (λc w3=>c<=W.IF.length/\∃m3,Mv 8 base [x,x1] w m w3 (ZZ W2 (k:Int) c) m3) (λw3 Rb _=>⟨Ie _,m2,aB.step Rb⟩) λc w3 iB ⟨hc,m3,kQ⟩=>?_
   obtain⟨hS3,hO3,hq3⟩:=Gk pZ hu g.2 c Qo;have Ce3:(ZZ W2 (k:Int) c).IE.length=W.IE.length:=by rw[hO3.g.len,tY]
   have Cc9:(ZZ W2 (k:Int) c).IF.length=W.IF.length:=by rw[hO3.c,AK7]
   have AF5:ZZ W2 (k:Int) (c+1)=if gi (gi (ZZ W2 (k:Int) c).IE (k:Int)).IQ.locals (c:Int)>0/\QV (ZZ W2 (k:Int) c) (k:Int) (c:Int)=false then RP (ZZ W2 (k:Int) c) (k:Int) (Y5 (gi (ZZ W2 (k:Int) c).IE (k:Int)).IQ (c:Int)) else ZZ W2 (k:Int) c:=rfl;have hN3:c=W.IF.length->Yi W (k+1)=ZZ W2 (k:Int) c:=λe=>by rw[Ww,AK7,e]
   have e3:Qa (ZZ W2 (k:Int) c) m3=Qa W m:=kQ.AS2 (by rw[hO3.n,oZ.n]) Cc9 (by rw[hO3.t,oZ.t]) Ce3;have hu3:Q6 (ZZ W2 (k:Int) c).IE (k:Int)=true:=by rw[hO3.g.fD]; exact hu
   generalize ZZ W2 (k:Int) c=W3 at kQ hS3 hO3 hq3 Ce3 Cc9 AF5 hN3 e3 hu3;have Cg1:m3.gO=m.gO:=by rw[kQ.hd]
   have hr3:=kQ.rd;refine⟨λCg0=>?_,λBz5=>?_⟩
   ·have Cg0:=Ot Cg0;obtain⟨u0,u1,mB⟩:=hS3.w.a.u hu3;obtain⟨hb,hbl,_⟩:=mB.IQ hq3;have Al8:(k:Int)<(W3.IE.length:Int):=Qo;have hrl:=hr3.g.Ck7 (i:=(k:Int)) Qo Al8;have hrb:=hr3.g.IQ (i:=(k:Int)) Qo Al8;rw[Cg1] at hrl hrb;have hLo:=hr3.g.locals (k:Int) Qo Al8;have hDo:=hr3.g.Rz (k:Int) Qo Al8;have A85:=Pq (g:=(k:Int)) (c:=(c:Int)) hr3 hS3.w.a Qo Qo;rw[e3] at A85;refine⟨Wl,_,_,_,hrl,hLo.ix JH Qo Qo,_,hLo (c:Int) Qo Qo,_,λ_=>A85,λg3=>?_,λg3=>?_⟩
    ·simp only[A',Ik,ID] at g3;rw[E' g3] at AF5;refine⟨Wl,_,_,_,_,_,_,_,_,_,hrb,λRq Rb gY=>?_⟩;have lJ:=kQ.step Rb;have hr4:=lJ.rd0;refine I4 (U1 (op:=⟨3,(c:Int),0⟩) hb (hr4.g.locals (k:Int) Qo Al8) (hr4.g.Rz (k:Int) Qo Al8)) ?_;rintro e Rr ⟨p,he,hO,hy⟩
     have gL:ZK (gi W3.IE (k:Int)).IQ ⟨3,(c:Int),0⟩=(Y5 (gi W3.IE (k:Int)).IQ (c:Int),0):=by
      unfold ZK;rw[C' (show ¬(3:Int)=4 by decide),C' (by rw[Qu.2 (by show 0<=(c:Int)/\(c:Int)<=_; omega)]; decide),C' (show ¬(3:Int)=1 by decide),C' (show ¬(3:Int)=2 by decide),E' rfl]
     rw[gL] at he hO
     dsimp only at he hO
     have hM5:=lJ.R5 hy;have hbs:base<=Rq.heap.size:=by have:=lJ.ext.size; omega
     have hOb:∀y∈ZP p,Rq.heap.size<=y:=λy hy=>(hO.lt y hy).1
     have BU8:=hM5.own.CC3 (i:=(k:Int)) Qo Qo (hO.mono hbs) (λy hy hm=>by have:=hOb y hy; have:=(lJ.own.lt y hm).2; omega);have wQ:=zef hM5.own hM5.nb (i:=(k:Int)) Qo Qo (j:=8) (k:=5) Qd;have nT:=lJ.ext.size
     have hM6:=hM5.swap BU8 B2 rfl λy hy=>by
      rcases Oz y hy with h1 | h1
      ·exact .inl h1
      ·rcases Oy y h1 with h2 | h2
       ·have:=hOb y h2;exact .inr ⟨Qo,λhm=>by have:=gY y hm; omega⟩
       ·exact .inl (Jb Qo h2)
     rw[Cg1] at wQ hM6;refine⟨_,_,_,_,_,_,_,_,_,_,he,Qe hy gY,λb2 cN=>⟨Wl,wQ,⟨Qo,Qo⟩,λw5 Sy _=>Qt (w1:=w3) Qo ⟨Qo,PO m3 (Int.toNat (k:Int)) (TT (m3.ms (Int.toNat (k:Int))) p),?_⟩⟩⟩;rw[AF5];exact hM6.step Sy
    ·refine⟨⟨Qo,Qo⟩,λw5 Sy _=>Qt Qo ⟨Qo,m3,?_⟩⟩;rw[AF5,C']
     ·exact kQ.step Sy
     ·rintro⟨h1,h2⟩;rw[h2,Ii h1] at g3;cases g3
   ·have Bz5:=Ou Bz5;refine⟨⟨Qo,Qo⟩,λw5 Sy _=>Qt Qo ⟨Qo,m3,?_⟩⟩;rw[hN3 Qo];exact kQ.step Sy
 ·have RN:=Ou RN;rw[hN8 Qo];exact λw3 Rb=>⟨m2,rfl,(aB.step Rb).close⟩
end
section
variable {base:Nat}{W:Q7}{m:MW}{w:Wo}
theorem L2{W W':Q7}(h:Fr W W'):W'.IF.length=W.IF.length/\W'.tasks.length=W.tasks.length/\W'.IE.length=W.IE.length:=⟨h.c,by rw[h.t],h.g.len⟩
theorem zok{n:Nat}{bs:List Nat}{w0 w:Wo}{W0 W:Q7}{m0 m:MW}(h:Mv n base bs w0 m0 w W m)(hf:Fr W0 W):Qa W m=Qa W0 m0:=h.AS2 hf.n hf.c (by rw[hf.t]) hf.g.len
theorem Qx{K:Int}(h:Zj 8 base w W m)(mC:SW K W)(hK0:0<=K)(hK:K<=100000000000000000)(uX:base<=w.heap.size) :
  Cz Qp #[.agg (Qa W m).toArray] w λe w'=>∃m',e=.returned (.agg (Qa (Qg W) m').toArray)/\Mv 8 base [] w m w' (Qg W) m':=by
 refine(C5 _ _ _ _ _ _ _ _ _ _ (R:=λv w'=>∃m',v=.agg (Qa (Qg W) m').toArray/\Mv 8 base [] w m w' (Qg W) m') ?_).mono λe w' ⟨v,he,m',hv,h3⟩=>⟨m',by rw[he,hv],h3⟩
 intro x hx x1 RZ;have cP:=mC.a.gl;have Cd0:=mC.a.c2;have hm9:=Zl;refine⟨λvs w1=>∃(k:Nat),vs=I (k:Int)::Qa W m/\k<=W.IF.length/\Mv 8 base [x,x1] w m w1 (Y2 W k) m,Zt W.IF.length 0,λw1 wB _=>⟨0,rfl,Ie _,(Mv.two h hx RZ).R5 wB⟩,?_⟩;rintro c1 l Se Sm Sv Sl Sq Su Sf Sg Sj Rr We ⟨k,he,hk,hM⟩;obtain⟨hS,hO⟩:=Oq (F:=K) (K:=K+Qj) (mC.sf.mono (I3 _) (by simp only[Qj]; omega)) (I3 _) k hk;have Ww:Y2 W (k+1)=QL (Y2 W k) (k:Int):=rfl;have tX:k=W.IF.length->Y2 W W.IF.length=Y2 W k:=λe=>by rw[e]
 have e0:=zok hM hO.fr;obtain⟨n1,n2,n3⟩:=L2 hO.fr;simp only[Qa,I5,I6,Iw,true_and,and_true] at he;obtain⟨rfl,rfl,⟨rfl,rfl,rfl⟩,⟨rfl,rfl,rfl⟩,rfl,rfl,rfl⟩:=he;generalize Y2 W k=W1 at hM hS hO Ww tX e0 n1 n2 n3;refine⟨λIU Rq Rb iB=>?_,λRN RQ Sy mM=>?_⟩
 ·have IU:=Ot IU;have kQ:=hM.step Rb;have RD:=Gu kQ.own hS Qo (by simp only[Qj]; omega) (c:=(k:Int)) Qo Qo;rw[e0] at RD;refine I4 RD ?_;rintro e S3 ⟨he,hy⟩;refine⟨_,_,_,_,_,_,_,_,_,_,he,kQ.kept hy iB,⟨Qo,Qo⟩,λRw SZ _=>⟨⟨k+1,rfl,Qo,?_⟩,?_⟩⟩
  ·rw[Ww];exact(kQ.call hy iB).step SZ
  ·simp only[Zt,Xe,ZQ,Ig]; omega
 ·have RN:=Ou RN;have hkk:k=W.IF.length:=Qo;have tX:=tX hkk;have hM5:=hM.step Sy;have hb5:base<=RQ.heap.size:=by have:=hM5.ext.size; omega
  have RD:=zf2 hM5.own hS hb5;rw[e0] at RD;refine I4 RD ?_;rintro e2 aF ⟨m4,aT,SE⟩;obtain⟨hS4,hO4⟩:=Vn hS 8 Qd;have hM6:=hM5.call SE mM;have SI:Qg W=XC (Ll W1) W.IF.length:=by unfold Qg; rw[tX]
  have hf4:Fr W (Ll W1):=hO.fr.trans hO4.fr;have Cb4:SW (K+Qj) (Ll W1):=hS4.w;have Cf5:=L2 hf4;generalize Ll W1=W4 at hM6 SI hf4 Cb4 Cf5;refine⟨_,_,_,_,_,_,_,_,_,_,aT,hM5.kept SE mM,λvs w1=>∃(k:Nat) (m1:MW),vs=I (k:Int)::Qa W m/\k<=W.IF.length/\Mv 8 base [x,x1] w m w1 (XC W4 k) m1,Zt W.IF.length 0,λw1 wB _=>⟨0,m4,rfl,Ie _,hM6.step wB⟩,?_⟩;rintro c3 l Se Sm Sv Sl Sq Su Sf Sg Sj dU hs7 ⟨k,m7,he,hk,uV⟩;obtain⟨hS7,hf7⟩:=KH Cb4 (by simp only[Qj]; omega) k Qo;have AV1:XC W4 (k+1)=Ul (XC W4 k) (k:Int):=rfl;have AV3:k=W.IF.length->Qg W=XC W4 k:=λe=>by rw[SI,e]
  have hfW:=hf4.trans hf7;have e7:=zok uV hfW;obtain⟨q1,q2,q3⟩:=L2 hfW;simp only[Qa,I5,I6,Iw,true_and,and_true] at he;obtain⟨rfl,rfl,⟨rfl,rfl,rfl⟩,⟨rfl,rfl,rfl⟩,rfl,rfl,rfl⟩:=he;generalize XC W4 k=W7 at uV hS7 hf7 AV1 AV3 hfW e7 q1 q2 q3;refine⟨λIU WO lQ hs9=>?_,λRN=>?_⟩
  ·have IU:=Ot IU;have hM9:=uV.step lQ;have hk4:(k:Int)<=4:=Qo;have hKb:K+Qj+(k:Int)*Qj+Qj<=1000000000000000000:=by simp only[Qj]; omega
   have uD:(k:Int)<(W7.IF.length:Int):=Qo;have hSF:=hS7.sf.mono (F':=K+Qj+(k:Int)*Qj) (K':=K+Qj+(k:Int)*Qj+Qj) (I3 _) (by simp only[Qj]; omega);have RD:=Gu hM9.own hSF (I3 _) hKb (c:=(k:Int)) Qo uD;rw[e7] at RD;refine I4 RD ?_;rintro e4 rJ ⟨he4,kJ⟩;obtain⟨hS8,hO8⟩:=Hb hSF (I3 _) (c:=(k:Int)) Qo uD;have hM8:=hM9.call kJ hs9;refine⟨_,_,_,_,_,_,_,_,_,_,he4,hM9.kept kJ hs9,λS6 AF8 pD=>?_⟩;have BT4:=hM8.step AF8;have dF:Ul W7 (k:Int)=if Me (Zb (QL W7 (k:Int)) (k:Int)) (k:Int)=true then Ry (Zb (QL W7 (k:Int)) (k:Int)) (k:Int) else Zb (QL W7 (k:Int)) (k:Int):=rfl;have c2':(k:Int)<((QL W7 (k:Int)).IF.length:Int):=by rw[hO8.c]; exact uD
   have By7:=Co BT4.own hS8.w (by simp only[Qj]; omega) (c:=(k:Int)) Qo c2';rw[UL hO8.fr,e7] at By7;obtain⟨CN6,CN5⟩:=O3 hS8.w (by simp only[Qj]; omega) (c:=(k:Int)) Qo c2' 8 Qd;refine I4 By7 ?_;rintro e5 pU ⟨he5,hy5⟩;have Al7:=BT4.call hy5 pD;have BT2:=BT4.kept hy5 pD;have Bl4:Fr W (Zb (QL W7 (k:Int)) (k:Int)):=(hfW.trans hO8.fr).trans CN5.fr;have uW:SW (K+Qj+(k:Int)*Qj+Qj) (Zb (QL W7 (k:Int)) (k:Int)):=CN6;generalize Zb (QL W7 (k:Int)) (k:Int)=W11 at Al7 Bl4 uW dF;have e11:=zok Al7 Bl4;have CA8:m7.cO=m.cO/\m7.tO=m.tO:=by rw[uV.hd]; exact⟨rfl,rfl⟩
   obtain⟨r1,r2,r3⟩:=L2 Bl4;have hr:=Al7.rd;have c3':(k:Int)<(W11.IF.length:Int):=Qo;have sP:=uW.cu (k:Int) Qo c3';have fH:=uW.a.t;have Ce9:=hr.c.ix Ym (i:=(k:Int)) Qo c3';have hrC:=hr.c.f (i:=(k:Int)) Qo c3' (j:=1) rfl
   have hT:(decide ((gi W11.IF (k:Int)).cur>=0))=true->0<=(gi W11.IF (k:Int)).cur/\(gi W11.IF (k:Int)).cur<(W11.tasks.length:Int):=λg=>by
    have:=Ot g;exact⟨this,Qo⟩
   have oG:∀g:(decide ((gi W11.IF (k:Int)).cur>=0))=true,PX [x,x1] YO #[.agg (Qa W m).toArray,I (gi W11.IF (k:Int)).cur] pU (.bool (ZL W11 (gi W11.IF (k:Int)).cur)):=λg=>by
    have:=VE hr uW.a (hT g).1 (hT g).2 (λhs=>uW.li (hT g).1 (hT g).2 hs)
    rwa[e11] at this
   rw[r1,CA8.1] at Ce9;rw[CA8.1] at hrC;refine⟨_,_,_,_,_,_,_,_,_,_,he5,BT2,Ce9,_,hrC,λg=>?_,(Q9 W11 (gi W11.IF (k:Int)).cur).R3,λg=>?_,ZL W11 (gi W11.IF (k:Int)).cur,λ_ g=>oG g,λg S9 AF9 wP=>?_,λg=>?_⟩
   ·have:=hr.t.ix QF (hT g).1 (hT g).2
    rwa[r2,CA8.2] at this
   ·have:=hr.t.f (hT g).1 (hT g).2 (j:=2) rfl
    rwa[CA8.2] at this
   ·have BT5:=Al7.step AF9;have By8:=ZF BT5.own (c:=(k:Int)) Qo c3';rw[e11] at By8;refine I4 By8 ?_;rintro e6 dJ ⟨he6,hy6⟩;have e12:=UL (m:=m7) (BU W11 (k:Int));rw[e11] at e12;rw[e12] at he6;refine⟨_,_,_,_,_,_,_,_,_,_,he6,BT5.kept hy6 wP,⟨Qo,Qo⟩,λSr vE _=>⟨⟨k+1,m7,rfl,Qo,?_⟩,?_⟩⟩
    ·rw[AV1,dF,E' (by unfold Me; exact g)];exact(BT5.call hy6 wP).step vE
    ·simp only[Zt,Xe,ZQ,Ig]; omega
   ·refine⟨⟨Qo,Qo⟩,λSr vE _=>⟨⟨k+1,m7,rfl,Qo,?_⟩,?_⟩⟩
    ·rw[AV1,dF,C' (by unfold Me; rw[g]; decide)];exact Al7.step vE
    ·simp only[Zt,Xe,ZQ,Ig]; omega
  ·have RN:=Ou RN;have AV3:=AV3 Qo;rw[AV3];refine λw9 lQ=>⟨m7,?_,(uV.step lQ).close⟩
   rw[e7]; rfl
end
theorem Yt{n:Int}{w:Wo}{bs:List Nat}:PX bs Zy #[I n] w (.bool (decide (n<=Ql))):=zgq n λwr hx=>rfl
section
variable {W:Q7}{m:MW}{w:Wo}{bs:List Nat}
theorem Ks(h:Xg bs w W m)(hl:XM W):PX bs Uf #[.agg (Qa W m).toArray] w (.bool (U6 (Je W/\Lj W))):=
 Nt _ _ _ _ _ _ _ _ _ _ λwr hx=>by
  have h:=(h.ext hx).less (cs:=[]) Qs;intro x hx;refine⟨_,UD h hl.c hl.t hl.g hl.f,_,λ_=>Yt,λg=>LI ?_,λg=>?_⟩
  ·rintro⟨wp,r⟩;rw[show Qw W=true from Qh.2 wp,show decide (W.now<=Ql)=true from Ii r.n] at g;cases g
  ·simp only[I0,I7] at g;have wp:Je W:=Qh.1 g.1;have Cg7:=Ot g.2;have cP:=wp.a.gl;have fH:=wp.a.t;have tP:=wp.a.c2;refine XL W.IF.length 0 rfl (λk=>k<=W.IF.length/\∀c:Int,0<=c->c<(k:Int)->(gi W.IF c).busy<=Ql/\(gi W.IF c).idle<=Ql) ⟨Ie _,λc a b=>by omega⟩ λk ⟨hk,hI⟩=>⟨λIU=>?_,λRN=>?_⟩
   ·have IU:=Ot IU;refine⟨h.c.ix Ym Qo IU,_,h.c.f Qo IU (j:=3) rfl,_,Yt,λ_=>h.c.ix Ym Qo IU,_,λ_=>h.c.f Qo IU (j:=4) rfl,_,λ_=>Yt,λg2=>LI ?_,λg2=>⟨⟨Qo,Qo⟩,QI Qo ⟨Qo,λc a b=>?_⟩⟩⟩
    ·rintro⟨_,r⟩;have:=r.c (k:Int) Qo IU;rw[Ii this.1,Ii this.2] at g2;cases g2
    ·by_cases e:c=(k:Int)
     ·subst e;simp only[I0,I7] at g2;exact⟨Ot g2.1,Ot g2.2⟩
     ·exact hI c a Qo
   have RN:=Ou RN;have hC:∀c:Int,0<=c->c<(W.IF.length:Int)->(gi W.IF c).busy<=Ql/\(gi W.IF c).idle<=Ql:=λc a b=>hI c a Qo
   clear hI;refine XL W.tasks.length 0 rfl (λk=>k<=W.tasks.length/\∀t:Int,0<=t->t<(k:Int)->(gi W.tasks t).v<=Ql/\(gi W.tasks t).sum<=Ql/\(gi W.tasks t).used<=Ql) ⟨Ie _,λc a b=>by omega⟩ λk ⟨hk,hI⟩=>⟨λIU=>?_,λRN=>?_⟩
   ·have IU:=Ot IU;have Wl:=h.t.ix QF (i:=(k:Int)) Qo IU;refine⟨Wl,_,h.t.f Qo IU (j:=5) rfl,_,Yt,λ_=>Wl,_,λ_=>h.t.f Qo IU (j:=6) rfl,_,λ_=>Yt,λ_=>Wl,_,λ_=>h.t.f Qo IU (j:=7) rfl,_,λ_=>Yt,λg2=>LI ?_,λg2=>⟨⟨Qo,Qo⟩,QI Qo ⟨Qo,λc a b=>?_⟩⟩⟩
    ·rintro⟨_,r⟩;have:=r.t (k:Int) Qo IU;rw[Ii this.1,Ii this.2.1,Ii this.2.2] at g2;cases g2
    ·by_cases e:c=(k:Int)
     ·subst e;simp only[I0,I7] at g2;exact⟨Ot g2.1.1,Ot g2.1.2,Ot g2.2⟩
     ·exact hI c a Qo
   have RN:=Ou RN;have hT:∀t:Int,0<=t->t<(W.tasks.length:Int)->(gi W.tasks t).v<=Ql/\(gi W.tasks t).sum<=Ql/\(gi W.tasks t).used<=Ql:=λc a b=>hI c a Qo
   clear hI;refine XL W.IE.length 0 rfl (λk=>k<=W.IE.length/\∀j:Int,0<=j->j<(k:Int)->(gi W.IE j).sum<=Ql/\∀c:Int,0<=c->c<((gi W.IE j).IG.length:Int)->(Qb W j c).floor<=Ql/\(Qb W j c).v<=Ql/\(Qb W j c).sum<=Ql) ⟨Ie _,λc a b=>by omega⟩ λk ⟨hk,hI⟩=>⟨λIU=>?_,λRN=>?_⟩
   ·have IU:=Ot IU;have Wl:=h.g.ix (i:=(k:Int)) Qo IU
    have hsl:(gi W.IE (k:Int)).IG.length<=4:=by
     have:=wp.a.grp (k:Int) Qo Qo
     cases hu:(gi W.IE (k:Int)).used with
     | true=>have:=(this.2 hu).len; omega
     | false=>have:=(this.1 hu).l; omega
    refine⟨Wl,_,(h.g.cells (k:Int) Qo IU).get 7 _ rfl,_,Yt,λg2=>LI ?_,λg2=>?_⟩
    ·rintro⟨_,r⟩;have:=r.g (k:Int) Qo IU;rw[Ii this] at g2;cases g2
    have g2:(gi W.IE (k:Int)).sum<=Ql:=by simpa using g2
    have xK:=h.g.IG (k:Int) Qo IU;refine XL (gi W.IE (k:Int)).IG.length 0 rfl (λq=>q<=(gi W.IE (k:Int)).IG.length/\∀c:Int,0<=c->c<(q:Int)->(Qb W (k:Int) c).floor<=Ql/\(Qb W (k:Int) c).v<=Ql/\(Qb W (k:Int) c).sum<=Ql) ⟨Ie _,λc a b=>by omega⟩ λq ⟨hq,hJ⟩=>⟨Wl,_,_,_,h.g.RF Qo IU,λRM=>?_,λbS=>?_⟩
    ·have RM:=Ot RM;refine⟨Wl,_,_,_,h.g.RF Qo IU,xK.ix Y7 Qo RM,_,_,_,_,_,xK (q:Int) Qo RM,λb1 gH=>⟨_,Yt,_,λ_=>Yt,_,λ_=>Yt,λg3=>LI ?_,λg3=>⟨⟨Qo,Qo⟩,QI Qo ⟨Qo,λc a b=>?_⟩⟩⟩⟩
     ·rintro⟨_,r⟩;have:=r.s (k:Int) (q:Int) Qo IU Qo RM;unfold Qb at this;rw[Ii this.1,Ii this.2.1,Ii this.2.2] at g3;cases g3
     ·by_cases e:c=(q:Int)
      ·subst e;simp only[I0,I7] at g3;exact⟨Ot g3.1.1,Ot g3.1.2,Ot g3.2⟩
      ·exact hJ c a Qo
    ·have bS:=Ou bS;refine⟨⟨Qo,Qo⟩,QI Qo ⟨Qo,λj a b=>?_⟩⟩
     by_cases e:j=(k:Int)
     ·subst e;exact⟨g2,λc a b=>hJ c a Qo⟩
     ·exact hI j a Qo
   ·have RN:=Ou RN;exact znm ⟨wp,⟨Cg7,hC,hT,λj a b=>(hI j a Qo).1,λj c a b c0 c1=>(hI j a Qo).2 c c0 c1⟩⟩
theorem U2{t:Int}(h:Xg bs w W m)(hl:W.tasks.length<=maxLen):PX bs X3 #[.agg (Qa W m).toArray,I t] w (.bool (ZA W t)):=
 zgs _ _ _ _ _ _ _ _ _ _ t λwr hx=>by
  have h:=(h.ext hx).less (cs:=[]) Qs;intro x hx;have:=Js;refine⟨⟨Qo,Qo⟩,_,Qr,λg=>?_,_,λg=>?_,rfl⟩
  ·have:=Qu.1 g;exact h.t.ix QF Qo Qo
  ·have:=Qu.1 g;exact h.t.f Qo Qo (j:=0) rfl
end
structure Bc (base:Nat) (bs:List Nat) (w:Wo) (o:OA) (cap:Nat) (ps:List (ZV×MG)):Prop where
 own:KP base w o cap ps
 nb:∀x∈QE o,x∉bs
 nm:∀i:Int,0<=i->i<(ps.length:Int)->∀x∈Qn (gi ps i).2,x∉bs
section
variable {base:Nat}{bs cs:List Nat}{w w':Wo}{o:OA}{cap:Nat}{ps:List (ZV×MG)}{b:Nat}
theorem Bc.lt(h:Bc base bs w o cap ps):(∀x∈QE o,base<=x/\x<w.heap.size)/\∀i:Int,0<=i->i<(ps.length:Int)->∀x∈Qn (gi ps i).2,base<=x/\x<w.heap.size:=⟨h.own.row.lt,λi a b=>(h.own.each i a b).lt⟩
theorem Bc.ext(h:Bc base bs w o cap ps)(hx:Q0 cs w w')(h1:∀x∈QE o,x∉cs)(h2:∀i:Int,0<=i->i<(ps.length:Int)->∀x∈Qn (gi ps i).2,x∉cs):Bc base bs w' o cap ps:=
 ⟨⟨h.own.row.ext hx h1,λi a b=>(h.own.each i a b).ext hx (h2 i a b),h.own.dj⟩,h.nb,h.nm⟩
theorem Bc.step(h:Bc base bs w o cap ps)(hx:Q0 bs w w'):Bc base bs w' o cap ps:=h.ext hx h.nb h.nm
theorem Bc.R5(h:Bc base bs w o cap ps)(hx:Q0 [] w w'):Bc base bs w' o cap ps:=h.ext hx Qs Qs
theorem Bc.add(h:Bc base bs w o cap ps)(hb:w.heap.size<=b):Bc base (bs++[b]) w o cap ps:=
 have key:∀x,x<w.heap.size->x∉bs->x∉bs++[b]:=λx hl hx hm=>by
  rcases Io.1 hm with hm | hm
  ·exact hx hm
  ·have:x=b:=by simpa using hm
   omega
 ⟨h.own,λx hx=>key x (h.lt.1 x hx).2 (h.nb x hx),λi a c x hx=>key x (h.lt.2 i a c x hx).2 (h.nm i a c x hx)⟩
theorem Bc.put(h:Bc base bs w o cap ps)(hx:Q0 bs w w')(hb:w.heap.size<=b):Bc base (bs++[b]) w' o cap ps:=⟨(h.step hx).own,(h.add hb).nb,(h.add hb).nm⟩
theorem Bc.sub(h:Bc base bs w o cap ps)(hs:∀x∈cs,x∈bs):Bc base cs w o cap ps:=⟨h.own,λx hx hm=>h.nb x hx (hs x hm),λi a c x hx hm=>h.nm i a c x hx (hs x hm)⟩
theorem Bc.nil(base:Nat)(bs:List Nat)(w:Wo):Bc base bs w none 0 []:=⟨⟨.inl ⟨rfl,rfl,rfl⟩,λi a b=>by simp at b; omega,λi j a b=>by simp at b; omega⟩,by simp[QE],λi a b=>by simp at b; omega⟩
theorem z02{α:Type}[Inhabited α]{l:List α}{x:α}{i:Int}(h0:0<=i)(h1:i<(l.length:Int)):gi (l++[x]) i=gi l i:=by
 obtain⟨k,rfl⟩:=Int.eq_ofNat_of_zero_le h0;rw[Ui (by simp; omega),Ui Qo,List.getElem_append_left]
theorem zx7{α:Type}[Inhabited α]{l:List α}{x:α}:gi (l++[x]) (l.length:Int)=x:=by
 rw[Ui Qs]; simp
theorem Bc.AU1{p:ZV×MG}{t':TypeId}{fz:Nat×Nat}(h:Bc base bs w o cap ps)(hs:∀x∈bs,x<w.heap.size)(uX:base<=w.heap.size)(hp:PI base w p)(hpb:∀x∈Qn p.2,x∉bs)(hd:∀i:Int,0<=i->i<(ps.length:Int)->∀x∈Qn (gi ps i).2,x∉Qn p.2)(hb:w.heap[b]? = some (.cells (TP p).toArray t' fz))(h1:Zm (TP p)=true)(hl:ps.length<=1048576)(tr:TypeId)(cs:Array Bool) :
  ∃o' nW w',(builtin .append #[QA,QA] tr cs #[.slice o ps.length cap,.slice (some ⟨b,0,none⟩) 1 1]).run Tryz.prog w=.ok (.value (.slice o' (ps++[p]).length nW)) w'/\Q8 bs w w'/\Bc base bs w' o' nW (ps++[p])/\Q0 (QE o) w w':=by
 obtain⟨o2,c2,w2,WK,hk,hO,hx⟩:=Ob.AU1 Yf Ps (⟨h.own.row,h.nb⟩:Ob TP 14 QP base bs w o cap ps) hs uX hb h1 hl Qd tr cs;have hlen:(ps++[p]).length=ps.length+1:=Qs
 have Bc5:∀i:Int,0<=i->i<((ps++[p]).length:Int)->(i<(ps.length:Int)/\gi (ps++[p]) i=gi ps i)\/(i=(ps.length:Int)/\gi (ps++[p]) i=p):=λi a b=>by
  by_cases e:i<(ps.length:Int)
  ·exact .inl ⟨e,z02 a e⟩
  ·have:i=(ps.length:Int):=Qo;subst this;exact .inr ⟨rfl,zx7⟩
 refine⟨o2,c2,w2,WK,hk,⟨⟨hO.own,λi a b=>?_,λi j a b c d e=>?_⟩,hO.nb,λi a b=>?_⟩,hx⟩
 ·rcases Bc5 i a b with ⟨hi,hg⟩ | ⟨hi,hg⟩
  ·rw[hg]; exact(h.own.each i a hi).ext hx (XZ h.own.row (h.own.each i a hi))
  ·rw[hg]; exact hp.ext hx (XZ h.own.row hp)
 ·rcases Bc5 i a b with ⟨hi,hg⟩ | ⟨hi,hg⟩ <;> rcases Bc5 j c d with ⟨hj,hg'⟩ | ⟨hj,hg'⟩
  ·rw[hg,hg']; exact h.own.dj i j a hi c hj e
  ·rw[hg,hg']; exact hd i a hi
  ·rw[hg,hg']; exact λx hx hm=>hd j c hj x hm hx
  ·omega
 ·rcases Bc5 i a b with ⟨hi,hg⟩ | ⟨hi,hg⟩
  ·rw[hg]; exact h.nm i a hi
  ·rw[hg]; exact hpb
end
theorem z2w(g:ZV)(m:MG):Zm (Yv g m)=true:=rfl
theorem Kj{W:Q7}(ha:WA W){k:Int}(k0:0<=k)(k1:k<8):(gi W.IE k).IQ.Rz.length=(gi W.IE k).IQ.locals.length/\(gi W.IE k).IQ.locals.length<=4/\(gi W.IE k).IG.length<=4:=by
 have hg:=ha.grp k k0 k1;have hc:=ha.c2
 cases hu:(gi W.IE k).used with
 | false=>
  have:=hg.1 hu;have hb:=GE this.b;have:=this.l;omega
 | true=>
  have:=hg.2 hu;have hl:=this.len
  by_cases hq:(gi W.IE k).IQ.IZ=0
  ·have hb:=GE (this.none hq).1;omega
  ·have hb:=(this.IQ hq).1;have h1:=hb.dl;have h2:=hb.l2;omega
section
variable {W:Q7}{m:MW}{w:Wo}{bs:List Nat}
def TR(W:Q7)(ms:Nat->MG)(k:Nat):List (ZV×MG):=(List.range k).map λ(j:Nat)=>(gi W.IE (j:Int),ms j)
theorem X5(W:Q7)(ms:Nat->MG)(k:Nat):(TR W ms k).length=k:=by simp[TR]
theorem Hi{W:Q7}{ms:Nat->MG}{k:Nat}{i:Int}(h0:0<=i)(h1:i<(k:Int)):gi (TR W ms k) i=(gi W.IE i,ms i.toNat):=by
 obtain⟨j,rfl⟩:=Int.eq_ofNat_of_zero_le h0;rw[Ui (by rw[X5]; omega)];simp[TR]
theorem zs3(W:Q7)(ms:Nat->MG)(k:Nat)(p:MG):TR W (λj=>if j=k then p else ms j) (k+1)=TR W ms k++[(gi W.IE (k:Int),p)]:=by
 unfold TR;rw[List.range_succ,List.map_append]
 congr 1
 ·refine List.map_congr_left λj hj=>?_
  have:=List.mem_range.1 hj;show (_,if j=k then p else ms j)=_;rw[C' Qo]
 ·simp
theorem PM(h:Xg [] w W m)(ha:WA W) :
  Cz U0 #[.agg (Qa W m).toArray] w λe w'=>∃m',e=.returned (.agg (Qa W m').toArray)/\Zj 8 w.heap.size w' W m'/\Q0 [] w w':=by
 refine(zjn _ _ _ _ _ _ _ _ _ _ (R:=λv w'=>∃m',v=.agg (Qa W m').toArray/\Zj 8 w.heap.size w' W m'/\Q0 [] w w') ?_).mono λe w' ⟨v,he,m',hv,h3⟩=>⟨m',by rw[he,hv],h3⟩
 have tP:=ha.c2;have fH:=ha.t;have cP:=ha.gl;intro x hx x1 RZ x2 R2;have s0:Sc w [x,x1,x2] w:=(((Sc.start w).add hx).add RZ).add R2
 refine⟨λvs w1=>∃(i:Nat) (cO:OA) (cC:Nat),vs=[I (i:Int),I W.now,.slice cO (W.IF.take i).length cC,.slice none 0 0,.slice none 0 0]/\i<=W.IF.length/\Sc w [x,x1,x2] w1/\Ob KY 5 ZD w.heap.size [x,x1,x2] w1 cO cC (W.IF.take i),
  Zt W.IF.length 0,λwr hx _=>⟨0,none,0,Qs,Ie _,s0.R5 hx,⟨.inl ⟨rfl,rfl,rfl⟩,by simp[QE]⟩⟩,?_⟩
 rintro c1 l Se Sm Sv Sl Sq Su Sf Sg Sj Rr We ⟨i,cO,cC,he,hi,s1,hC⟩;simp only[I5,I6,Iw,true_and,and_true] at he;obtain⟨rfl,rfl,⟨rfl,rfl,rfl⟩,⟨rfl,rfl,rfl⟩,rfl,rfl,rfl⟩:=he;refine⟨λIU=>?_,λRN=>?_⟩
 ·have IU:=Ot IU;have hr:=h.c.scb s1;refine⟨hr.ix Ym Qo IU,_,_,_,_,_,hr i Qo IU,λb4 hb4=>⟨rfl,λRq Rb iB Wd=>?_⟩⟩;have s2:=s1.put Rb hb4;have hC2:=hC.put Rb hb4;obtain⟨o2,c2,w2,WK,xJ,hC3,SE⟩:=hC2.AU1 KX Ke (x:=gi W.IF (i:Int)) iB s2.ext.size Wd (z1p _) (by rw[List.length_take]; omega) Qd Zs #[false,false];rw[GS Qo] at WK hC3;have s3:=s2.call SE λy hm=>(hC2.own.lt y hm).1
  refine⟨_,_,_,w2,WK,xJ,⟨Qo,Qo⟩,λw5 Sy _=>⟨⟨i+1,o2,c2,rfl,Qo,(s3.step Sy).sub Qs,(hC3.step Sy).sub Qs⟩,?_⟩⟩;simp only[Zt,Xe,ZQ,Ig]; omega
 have RN:=Ou RN;rw[show W.IF.take i=W.IF from List.take_of_length_le Qo] at hC ⊢
 refine⟨λvs w1=>∃(i:Nat) (tO:OA) (tC:Nat),vs=[I (i:Int),I W.now,.slice Se W.IF.length Sv,.slice tO (W.tasks.take i).length tC,.slice none 0 0]/\i<=W.tasks.length/\Sc w [x,x1,x2] w1/\Ob KY 5 ZD w.heap.size [x,x1,x2] w1 Se Sv W.IF/\Ob YK 9 QK w.heap.size [x,x1,x2] w1 tO tC (W.tasks.take i),
  Zt W.tasks.length 0,λwr hx _=>⟨0,none,0,Qs,Ie _,s1.step hx,hC.step hx,⟨.inl ⟨rfl,rfl,rfl⟩,by simp[QE]⟩⟩,?_⟩
 clear hC s1 hi RN We;rintro t1 l4 oA kK nZ nV qN nU mN pK oB gF hs6 ⟨i,tO,tC,he,hi,s1,hC,hT⟩;simp only[I5,I6,Iw,true_and,and_true] at he;obtain⟨rfl,rfl,⟨rfl,rfl,rfl⟩,⟨rfl,rfl,rfl⟩,rfl,rfl,rfl⟩:=he;refine⟨λIU=>?_,λRN=>?_⟩
 ·have IU:=Ot IU;have hr:=h.t.scb s1;refine⟨hr.ix QF Qo IU,_,_,_,_,_,_,_,_,_,hr i Qo IU,λb4 hb4=>⟨rfl,λRq Rb iB Wd=>?_⟩⟩;have s2:=s1.put Rb hb4;have hC2:=hC.put Rb hb4;have hT2:=hT.put Rb hb4;obtain⟨o2,c2,w2,WK,xJ,hT3,SE⟩:=hT2.AU1 OZ Mw (x:=gi W.tasks (i:Int)) iB s2.ext.size Wd (z2x _) (by rw[List.length_take]; omega) Qd Z4 #[false,false];rw[GS Qo] at WK hT3;have s3:=s2.call SE λy hm=>(hT2.own.lt y hm).1
  have hC3:=hC2.call SE (hC2.own.Wf hT2.own Qd);refine⟨_,_,_,w2,WK,xJ,⟨Qo,Qo⟩,λw5 Sy _=>⟨⟨i+1,o2,c2,rfl,Qo,(s3.step Sy).sub Qs,(hC3.step Sy).sub Qs,(hT3.step Sy).sub Qs⟩,?_⟩⟩;simp only[Zt,Xe,ZQ,Ig]; omega
 have RN:=Ou RN;rw[show W.tasks.take i=W.tasks from List.take_of_length_le Qo] at hT ⊢
 refine⟨λvs w1=>∃(i:Nat) (gO:OA) (gC:Nat) (ms:Nat->MG),vs=[I (i:Int),I W.now,.slice oA W.IF.length nZ,.slice nV W.tasks.length nU,.slice gO (TR W ms i).length gC]/\i<=W.IE.length/\Sc w [x,x1,x2] w1/\Ob KY 5 ZD w.heap.size [x,x1,x2] w1 oA nZ W.IF/\Ob YK 9 QK w.heap.size [x,x1,x2] w1 nV nU W.tasks/\Bc w.heap.size [x,x1,x2] w1 gO gC (TR W ms i),
  Zt W.IE.length 0,λwr hx _=>⟨0,none,0,λ_=>default,by simp[TR],Ie _,s1.step hx,hC.step hx,hT.step hx,Bc.nil _ _ _⟩,?_⟩
 clear hC hT s1 hi RN hs6;rintro k1 l22 BH4 Bm8 BH3 BH6 Bm9 BH5 BV7 B13 BV6 fM Da4 ⟨i,gO,gC,ms,he,hi,s1,hC,hT,hG⟩;simp only[I5,I6,Iw,true_and,and_true] at he;obtain⟨rfl,rfl,⟨rfl,rfl,rfl⟩,⟨rfl,rfl,rfl⟩,rfl,rfl,rfl⟩:=he;refine⟨λIU=>?_,λRN=>?_⟩
 ·have IU:=Ot IU;have hr:=h.g.ext s1.ext;have hrb:Li [x,x1,x2] fM m.gO W.IE m.ms:=(h.g.wide (cs:=[x,x1,x2]) λy hm=>.inr (s1.new y hm)).ext s1.ext.of_nil;have Wl:=hrb.ix (i:=(i:Int)) Qo IU;obtain⟨bl1,bl2,bl3⟩:=Kj ha (k:=(i:Int)) Qo Qo;refine⟨Wl,_,_,_,_,_,_,_,_,_,_,_,_,_,_,_,_,_,_,_,_,hrb.cells (i:Int) Qo IU,λmV B99=>⟨Wl,_,_,_,_,_,_,_,_,_,hrb.IQ Qo IU,λdB CB4 CQ8=>?_⟩⟩;have s2:=s1.put CB4 B99;have hC2:=hC.put CB4 B99;have hT2:=hT.put CB4 B99;have hG2:=hG.put CB4 B99;have vD:=h.g.ext s2.ext;refine I4 (Fq (vD.locals (i:Int) Qo IU) (vD.Rz (i:Int) Qo IU) bl1 Qo) ?_;rintro e iK ⟨p,he,hB,hy⟩;have s3:=s2.R5 hy;have hC3:=hC2.R5 hy;have hT3:=hT2.R5 hy;have hG3:=hG2.R5 hy;have hBn:∀y∈ZP p,dB.heap.size<=y:=λy hm=>(hB.lt y hm).1
  have hBb:∀y∈ZP p,y∉[x,x1,x2]++[mV]:=λy hm gX=>by
   have:=hBn y hm;have:=CQ8 y gX;omega
  refine⟨_,_,_,_,_,_,_,_,_,he,Qe hy CQ8,λvs w1=>∃(c:Nat) (sO:OA) (sC:Nat),vs=[I (c:Int),.bool (gi W.IE (i:Int)).used,I (gi W.IE (i:Int)).parent,.string (gi W.IE (i:Int)).name,I (gi W.IE (i:Int)).weight,I (gi W.IE (i:Int)).IF,I (gi W.IE (i:Int)).period,I (gi W.IE (i:Int)).next,I (gi W.IE (i:Int)).sum,I (gi W.IE (i:Int)).IQ.IZ,I (gi W.IE (i:Int)).IQ.RJ,I (gi W.IE (i:Int)).IQ.SB,.slice p.lO (gi W.IE (i:Int)).IQ.locals.length p.lC,.slice p.dO (gi W.IE (i:Int)).IQ.Rz.length p.dC,.slice sO ((gi W.IE (i:Int)).IG.take c).length sC]/\c<=(gi W.IE (i:Int)).IG.length/\Sc w ([x,x1,x2]++[mV]) w1/\dB.heap.size<=w1.heap.size/\Ob KY 5 ZD w.heap.size ([x,x1,x2]++[mV]) w1 BH4 BH3 W.IF/\Ob YK 9 QK w.heap.size ([x,x1,x2]++[mV]) w1 BH6 BH5 W.tasks/\Bc w.heap.size ([x,x1,x2]++[mV]) w1 BV7 BV6 (TR W ms i)/\Z6 dB.heap.size w1 (gi W.IE (i:Int)).IQ p/\Ob M1 5 YX dB.heap.size ([x,x1,x2]++[mV]) w1 sO sC ((gi W.IE (i:Int)).IG.take c),
   Zt (gi W.IE (i:Int)).IG.length 0,λwr hx _=>⟨0,none,0,Qs,Ie _,s3.step hx,IB hy.size hx.size,hC3.step hx,hT3.step hx,hG3.step hx,hB.ext hx hBb,⟨.inl ⟨rfl,rfl,rfl⟩,by simp[QE]⟩⟩,?_⟩
  have nT:w.heap.size<=dB.heap.size:=s2.ext.size;have Ca7:=hG2.lt;clear hB s3 hC3 hT3 hG3 hC2 hT2;rintro c4 l26 l27 l28 l29 l30 l31 l32 l33 l34 l35 l36 BH9 BH8 BH7 BI2 BI1 BI0 A97 BV8 A96 jC Da5 ⟨c,sO,sC,he,hc,s4,hz4,hC4,hT4,hG4,hB4,hS4⟩;simp only[I5,I6,Iw,Value.bool.injEq,Value.string.injEq,true_and,and_true] at he;obtain⟨rfl,rfl,rfl,rfl,rfl,rfl,rfl,rfl,rfl,rfl,rfl,rfl,⟨rfl,rfl,rfl⟩,⟨rfl,rfl,rfl⟩,rfl,rfl,rfl⟩:=he;have CQ4:Li ([x,x1,x2]++[mV]) jC m.gO W.IE m.ms:=(h.g.wide (cs:=[x,x1,x2]++[mV]) λy hm=>.inr (s4.new y hm)).ext s4.ext.of_nil;refine⟨Wl,_,_,_,CQ4.RF Qo IU,λRM=>?_,λbS=>?_⟩
  ·have RM:=Ot RM;have xK:=CQ4.IG (i:Int) Qo IU;refine⟨Wl,_,_,_,CQ4.RF Qo IU,xK.ix Y7 Qo RM,_,_,_,_,_,xK c Qo RM,λtK By4=>⟨rfl,λgJ BV3 C66 Wd=>?_⟩⟩;have s5:=s4.put BV3 By4;have hS5:=hS4.put BV3 By4;have Ci8:dB.heap.size<=gJ.heap.size:=IB hz4 BV3.size;obtain⟨o2,c2,w2,WK,xJ,hS6,SE⟩:=hS5.AU1 T1 Pt (x:=gi (gi W.IE (i:Int)).IG (c:Int)) C66 Ci8 Wd (z1r _) (by rw[List.length_take]; omega) Qd Za #[false,false];rw[GS Qo] at WK hS6;have hG5:=hG4.put BV3 By4;have hC5:=hC4.put BV3 By4;have hT5:=hT4.put BV3 By4;have hB5:=hB4.ext BV3 hBb;have s6:=s5.call SE λy hm=>IB nT (hS5.own.lt y hm).1
   have hC6:=hC5.call SE (hC5.own.Wf hS5.own Qd);have hT6:=hT5.call SE (hT5.own.Wf hS5.own Qd)
   have hG6:=hG5.ext SE (hG5.own.row.Wf hS5.own Qd) λj a b y hm gX=>by
    have:=(Ca7.2 j a b y hm).2;have:=(hS5.own.lt y gX).1;omega
   have Cz0:∀y∈ZP p,y∉[x,x1,x2]++[mV]++[tK]:=λy hm gX=>by
    rcases Io.1 gX with h2 | h2
    ·exact hBb y hm h2
    ·have:y=tK:=by simpa using h2
     have:=(hB4.lt y hm).2;omega
   have hB6:=hB5.ext SE λy hm=>by
    rcases Io.1 hm with hm | hm
    ·exact hB5.loc.Wf hS5.own Qd y hm
    ·exact hB5.Rz.Wf hS5.own Qd y hm
   refine⟨_,_,_,w2,WK,xJ,⟨Qo,Qo⟩,λw5 Sy _=>⟨⟨c+1,o2,c2,rfl,Qo,(s6.step Sy).sub Qs,?_,(hC6.step Sy).sub Qs,(hT6.step Sy).sub Qs,(hG6.step Sy).sub Qs,hB6.ext Sy Cz0,(hS6.step Sy).sub Qs⟩,?_⟩⟩
   ·have:=SE.size;have:=Sy.size;omega
   ·simp only[Zt,Xe,ZQ,Ig]; omega
  ·have bS:=Ou bS;rw[show (gi W.IE (i:Int)).IG.take c=(gi W.IE (i:Int)).IG from List.take_of_length_le Qo] at hS4 ⊢;intro b13 By5 gR Bm5 C67 Wd;have s5:=s4.put Bm5 By5;have hG5:=hG4.put Bm5 By5;have hC5:=hC4.put Bm5 By5;have hT5:=hT4.put Bm5 By5;have hB5:=hB4.ext Bm5 hBb;have hS5:=hS4.put Bm5 By5
   have CH7:∀y∈Qn ⟨p.lO,p.lC,p.dO,p.dC,A97,A96⟩,dB.heap.size<=y/\y<jC.heap.size:=λy hm=>by
    simp only[Qn,Io] at hm;rcases hm with (hm | hm) | hm
    ·exact hB4.loc.lt y hm
    ·exact hB4.Rz.lt y hm
    ·exact hS4.own.lt y hm
   obtain⟨o2,c2,w2,WK,xJ,hG6,SE⟩:=hG5.AU1 (p:=(gi W.IE (i:Int),⟨p.lO,p.lC,p.dO,p.dC,A97,A96⟩)) C67 s5.ext.size ⟨(hB5.mono nT).loc,(hB5.mono nT).Rz,hS5.own.mono nT⟩ (λy hm gX=>by
     have h1:=CH7 y hm;rcases Io.1 gX with h2 | h2
     ·have:=CQ8 y h2; omega
     ·have:y=b13:=by simpa using h2
      omega) (λj a b y hm gX=>by
     have:=(Ca7.2 j a b y hm).2;have:=(CH7 y gX).1;omega) Wd (z2w _ _) (by rw[X5]; omega) QA #[false,false]
   rw[<-zs3] at WK hG6;have s6:=s5.call SE λy hm=>(hG5.own.row.lt y hm).1
   have hC6:=hC5.call SE (hC5.own.Wf hG5.own.row Qd);have hT6:=hT5.call SE (hT5.own.Wf hG5.own.row Qd);refine⟨_,_,_,w2,WK,xJ,⟨Qo,Qo⟩,λw5 Sy _=>⟨⟨i+1,o2,c2,_,rfl,Qo,(s6.step Sy).sub Qs,(hC6.step Sy).sub Qs,(hT6.step Sy).sub Qs,(hG6.step Sy).sub Qs⟩,?_⟩⟩;simp only[Zt,Xe,ZQ,Ig]; omega
 ·have RN:=Ou RN;have hi8:i=W.IE.length:=Qo;subst hi8;refine λw9 lQ=>⟨⟨BH4,BH3,BH6,BH5,BV7,BV6,ms⟩,?_,⟨(hC.step lQ).own,(hT.step lQ).own,(hG.step lQ).own,cP⟩,(s1.step lQ).ext⟩
  rw[X5];rfl
theorem Zh(h:Xg [] w W m)(hl:XM W) :
  Cz QY #[.agg (Qa W m).toArray] w λe w'=>(Qw W=false/\e=.returned (.tuple #[.agg (Qa MO zxf).toArray,I 1])/\Q0 [] w w')\/(Qw W=true/\∃m',e=.returned (.tuple #[.agg (Qa W m').toArray,I (if QM W=true then 0 else 10)])/\Zj 8 w.heap.size w' W m'/\Q0 [] w w'):=by
 refine(C1 _ _ _ _ _ _ _ _ _ _ (R:=λv w'=>(Qw W=false/\v=.tuple #[.agg (Qa MO zxf).toArray,I 1]/\Q0 [] w w')\/(Qw W=true/\∃m',v=.tuple #[.agg (Qa W m').toArray,I (if QM W=true then 0 else 10)]/\Zj 8 w.heap.size w' W m'/\Q0 [] w w')) ?_).mono λe w' ⟨v,he,h3⟩=>by
  rw[he];rcases h3 with ⟨a,hv,b⟩ | ⟨a,m',hv,b⟩
  ·exact .inl ⟨a,by rw[hv],b⟩
  ·exact .inr ⟨a,m',by rw[hv],b⟩
 intro x hx x1 RZ;refine⟨_,UD h hl.c hl.t hl.g hl.f,λg wr hx=>.inl ⟨by simpa using g,rfl,hx⟩,λg M' R2 dK=>?_⟩;have hW:Qw W=true:=by simpa using g
 have wp:=Qh.1 hW;refine I4 (PM (h.ext R2) wp.a) ?_;rintro e wv ⟨m',he,hM,hy⟩
 have hnb:∀y∈QB 8 m',y∉[x,x1]:=λy hy hm=>by
  have:=(hM.lt y hy).1;have:=dK y hm;omega
 have hro:=Ks (hM.rd hnb) hl;have BF1:∀w2,Q0 [x,x1] wv w2->Zj 8 w.heap.size w2 W m'/\Q0 [] w w2:=λw2 h2=>⟨(hM.mono R2.size).ext h2 hnb,(R2.trans hy).fresh h2 λy hm=>.inl (YW hx RZ y hm)⟩
 refine⟨_,_,_,_,_,_,_,_,_,_,he,Qe hy dK,_,hro,λg2 w2 h2=>.inr ⟨hW,m',?_,BF1 w2 h2⟩,λg2 w2 h2=>.inr ⟨hW,m',?_,BF1 w2 h2⟩⟩
 ·have:¬QM W=true:=λhr=>by
   rw[show U6 (Je W/\Lj W)=true from Qh.2 ⟨wp,Qh.1 hr⟩] at g2;cases g2
  rw[C' this]; rfl
 ·have hd:U6 (Je W/\Lj W)=true:=by simpa using g2
  have:QM W=true:=Qh.2 (Qh.1 hd).2;rw[E' this]; rfl
end
structure Wk (n:Nat) (bs:List Nat) (w0 w:Wo) (W:Q7) (m:MW):Prop where
 s:Sc w0 bs w
 o:OW n w0.heap.size bs w W m
section
variable {n:Nat}{bs cs:List Nat}{w0 w w':Wo}{W W':Q7}{m m':MW}{b:Nat}
theorem Wk.step(h:Wk n bs w0 w W m)(hx:Q0 bs w w'):Wk n bs w0 w' W m:=⟨h.s.step hx,h.o.step hx⟩
theorem Wk.R5(h:Wk n bs w0 w W m)(hx:Q0 [] w w'):Wk n bs w0 w' W m:=⟨h.s.R5 hx,h.o.R5 hx⟩
theorem Wk.add(h:Wk n bs w0 w W m)(hb:w.heap.size<=b):Wk n (bs++[b]) w0 w W m:=⟨h.s.add hb,h.o.add hb⟩
theorem Wk.sub(h:Wk n bs w0 w W m)(hs:∀x∈cs,x∈bs):Wk n cs w0 w W m:=⟨h.s.sub hs,h.o.sub hs⟩
theorem Wk.rd(h:Wk n bs w0 w W m):Xg bs w W m:=h.o.rd
theorem Wk.own(h:Wk n bs w0 w W m):Zj n w0.heap.size w W m:=h.o.own
theorem Wk.nb(h:Wk n bs w0 w W m):∀x∈QB n m,x∉bs:=h.o.nb
theorem Wk.base(h:Wk n bs w0 w W m):w0.heap.size<=w.heap.size:=h.s.ext.size
theorem Wk.SH(h:Wk n bs w0 w W m)(k:Mv n w0.heap.size [] w m w' W' m')(hs:∀x∈bs,x<w.heap.size):Wk n bs w0 w' W' m':=
 ⟨h.s.call k.ext λx hx=>(h.o.own.lt x hx).1,⟨k.own,λx hx hm=>by
  rcases k.sub x hx with h1 | h1
  ·exact h.o.nb x h1 hm
  ·have:=hs x hm;omega⟩⟩
theorem Wk.kept(h:Wk n bs w0 w W m)(k:Mv n w0.heap.size [] w m w' W' m')(hs:∀x∈bs,x<w.heap.size):Q8 bs w w':=λx hm=>k.ext.block x (hs x hm) λgX=>h.o.nb x gX hm
theorem Wk.R9(h:Wk n bs w0 w W m)(k:Zj n w0.heap.size w' W' m)(hx:Q0 (QB n m) w w'):Wk n bs w0 w' W' m:=⟨h.s.call hx λx hx=>(h.o.own.lt x hx).1,⟨k,h.o.nb⟩⟩
theorem Wk.fin(h:Wk n bs w0 w W m):Zj n w0.heap.size w W m/\Q0 [] w0 w:=⟨h.o.own,h.s.ext⟩
end
def QU(r:Q7×Int)(w:Wo)(v:Va)(w':Wo):Prop:=∃n m',v=.tuple #[.agg (Qa r.1 m').toArray,I r.2]/\Zj n w.heap.size w' r.1 m'/\Q0 [] w w'
theorem Zj.zero(base:Nat)(w:Wo):Zj 0 base w MO zxf:=⟨.inl ⟨rfl,rfl,rfl⟩,.inl ⟨rfl,rfl,rfl⟩,⟨.inl ⟨rfl,rfl,rfl⟩,λi a b=>by simp[zo2,MO] at b; omega,λi j a b=>by simp[zo2,MO] at b; omega⟩,rfl⟩
section
variable {W W':Q7}{m:MW}{w:Wo}{bar:Int}
theorem QU.bad{w':Wo}(hW:Qw W=false)(hx:Q0 [] w w'):QU (Xi W bar W') w (.tuple #[.agg (Qa MO zxf).toArray,I 1]) w':=by
 rw[ziz hW];exact⟨0,zxf,rfl,Zj.zero _ _,hx⟩
theorem QU.no{n:Nat}{bs:List Nat}{w':Wo}{m':MW}(hW:Qw W=true)(hb:bar≠0)(hk:Wk n bs w w' W m'){c:Int}(hc:bar=c):QU (Xi W bar W') w (.tuple #[.agg (Qa W m').toArray,I c]) w':=by
 rw[zi0 hW hb,hc];exact⟨n,m',rfl,hk.fin⟩
theorem QU.ok{n:Nat}{bs:List Nat}{w':Wo}{m':MW}(hW:Qw W=true)(hb:bar=0)(hk:Wk n bs w w' W' m'):QU (Xi W bar W') w (.tuple #[.agg (Qa W' m').toArray,I 0]) w':=by
 rw[zi1 hW hb];exact⟨n,m',rfl,hk.fin⟩
theorem Wk.begin{x x1:Nat}{wr wv:Wo}{m':MW}(hx:w.heap.size<=x)(RZ:w.heap.size<=x1)(R2:Q0 [] w wr)(hs:∀y∈[x,x1],y<wr.heap.size)(hM:Zj 8 wr.heap.size wv W m')(hy:Q0 [] wr wv):Wk 8 [x,x1] w wv W m':=
 ⟨⟨R2.trans hy,YW hx RZ⟩,(OW.of hM hs).mono R2.size⟩
theorem N2{t:Int}(h:Xg [] w W m)(hl:XM W) :
  Cz Tr #[.agg (Qa W m).toArray,I t] w λe w'=>∃v,e=.returned v/\QU (Xi W (Tf W t) (zi8 W t)) w v w':=by
 refine BO _ _ _ _ _ _ _ _ _ _ t (R:=λv w'=>QU (Xi W (Tf W t) (zi8 W t)) w v w') ?_;intro x hx x1 RZ wr R2 We;refine I4 (Zh (h.ext R2) hl) ?_;rintro e wv (⟨hW,he,hy⟩ | ⟨hW,m',he,hM,hy⟩)
 ·exact⟨_,_,_,_,_,_,_,_,_,_,_,he,Qe hy We,λ_ M' Rb=>QU.bad hW ((R2.trans hy).fresh Rb λy hm=>.inl (YW hx RZ y hm)),λg=>by simp at g⟩
 have hK:=Wk.begin hx RZ R2 We hM hy;have hr:=hK.rd;refine⟨_,_,_,_,_,_,_,_,_,_,_,he,Qe hy We,λg=>by split at g <;> simp at g,λ_=>⟨_,U2 hr hl.t,λg O' Rb=>?_,λg=>?_⟩⟩
 ·have g:ZA W t=false:=by simpa using g
  have hb:Tf W t=2:=by unfold Tf; rw[E' g]
  exact QU.no hW (by rw[hb]; decide) (hK.step Rb) hb
 have g:ZA W t=true:=by simpa using g
 obtain⟨t0,t1,tn⟩:=YA g;have Wl:=hr.t.ix QF t0 t1;refine⟨Wl,_,hr.t.f t0 t1 (j:=0) rfl,λg2 Rq Rb=>?_,λg2=>⟨λg3 Rw Rb=>?_,λg3=>?_⟩⟩
 ·have g2:(Q9 W t).state≠1:=by simpa[Q9] using g2
  have hb:Tf W t=6:=by unfold Tf; rw[C' (by rw[g]; decide),E' g2]
  exact QU.no hW (by rw[hb]; decide) (hK.step Rb) hb
 ·have g2:¬(Q9 W t).state≠1:=by simpa[Q9] using g2
  have cD:¬QM W=true:=λhr=>by rw[E' hr] at g3; simp at g3
  have hb:Tf W t=10:=by unfold Tf; rw[C' (by rw[g]; decide),C' g2,E' (by simpa using cD)]
  rw[C' cD];exact QU.no hW (by rw[hb]; decide) (hK.step Rb) hb
 ·have g2:¬(Q9 W t).state≠1:=by simpa[Q9] using g2
  have cD:QM W=true:=Ir λhr=>by rw[C' hr] at g3; simp at g3
  have hb:Tf W t=0:=by unfold Tf; rw[C' (by rw[g]; decide),C' g2,C' (by rw[cD]; decide)]
  obtain⟨_,_,sw,sw1⟩:=zla hW hb;have SI:Zj 8 w.heap.size _ (IV W t { Q9 W t with state:=2 }) m':=hK.own.xS t0 t1 (j:=0) (vs:=[I 2]) (x:={ Q9 W t with state:=2 }) rfl Qs;refine⟨Wl,zik hK.own hK.nb t0 t1 Qd,λRQ Sy mM=>?_⟩;have dV:=(hK.R9 SI LR).step Sy;have RD:=Qx dV.own sw1 Qd Qd dV.base;have e5:Qa (IV W t { Q9 W t with state:=2 }) m'=Qa W m':=by simp[Qa,IV]
  rw[e5] at RD;refine I4 RD ?_;rintro e1 R7 ⟨m1,jG,dG⟩;exact⟨_,_,_,_,_,_,_,_,_,_,jG,dV.kept dG mM,λSi aS=>QU.ok hW hb ((dV.SH dG mM).step aS)⟩
end
theorem KF{α:Type}[Inhabited α]{l:List α}{i:Int}(h0:0<=i)(h1:i<(l.length:Int)):l.set i.toNat (gi l i)=l:=by
 obtain⟨k,rfl⟩:=Int.eq_ofNat_of_zero_le h0;rw[Ui Qo,Ih,List.set_getElem_self]
theorem Mr{W:Q7}{k:Int}{b:JB}(h0:0<=k)(h1:k<(W.IE.length:Int)):gi (RP W k b).IE k={ gi W.IE k with IQ:=b }:=by
 unfold RP;rw[Yz h0 h1 h0,E' rfl]
theorem zh5{W:Q7}{k:Int}{b b':JB}(h0:0<=k)(h1:k<(W.IE.length:Int)):RP (RP W k b) k b'=RP W k b':=by
 show Rf (RP W k b) k { gi (RP W k b).IE k with IQ:=b' }=_;rw[Mr h0 h1];unfold RP Rf;rw[List.set_set]
theorem zh6{W:Q7}{k:Int}{x y:ZV}:Rf (Rf W k x) k y=Rf W k y:=by unfold Rf; rw[List.set_set]
theorem zdy{W:Q7}{k:Int}(h0:0<=k)(h1:k<(W.IE.length:Int)):RP W k (gi W.IE k).IQ=W:=by
 show Rf W k (gi W.IE k)=W;unfold Rf;rw[KF h0 h1]
section
variable {base:Nat}{W:Q7}{m:MW}{w:Wo}{k:Int}{b:JB}
abbrev zmv(m:MW)(k:Int):OA:=m.gO.map (·.add (Int.toNat k*14+8))
theorem BE(h:Zj 8 base w (RP W k b) m):W.IE.length=8:=by
 have:=h.len
 simpa[RP,Rf] using this
theorem Zj.BD9(h:Zj 8 base w (RP W k b) m)(k0:0<=k)(k8:k<8):Q1 [] w m.gO (Int.toNat k*14+8) (Z2 b (m.ms k.toNat))/\znt [] w (m.ms k.toNat).lO b.locals/\ztv [] w (m.ms k.toNat).dO b.Rz:=by
 have hr:=(h.rd (bs:=[]) Qs).g;have hl:=BE h;have hl2:=h.len;have hg:=Mr (W:=W) (b:=b) k0 Qo;have h1:=hr.IQ k0 Qo;have h2:=hr.locals k k0 Qo;have h3:=hr.Rz k k0 Qo;rw[hg] at h1 h2 h3;exact⟨h1,h2,h3⟩
theorem Zj.bdC(h:Zj 8 base w (RP W k b) m)(k0:0<=k)(k8:k<8){j:Nat}{v:Va}(hj:(Z2 b (m.ms k.toNat))[j]? = some v):Q1 [] w (zmv m k) (0+j) [v]:=G3 (h.BD9 k0 k8).1 hj
theorem Zj.uS(h:Zj 8 base w (RP W k b) m)(k0:0<=k)(k8:k<8):(zmv m k).isSome=true:=KG (h.BD9 k0 k8).1
theorem Zj.Bw0(h:Zj 8 base w (RP W k b) m)(k0:0<=k)(k8:k<8){j n:Nat}(hj:j+n<=5):Yo [] w (zmv m k) (0+j) n:=by
 have:=zef h (bs:=[]) Qs k0 Qo (j:=8+j) (k:=n) Qo;refine zaf.2 ?_;rw[Nat.zero_add,Nat.add_assoc];exact this
theorem Zj.Bb8(h:Zj 8 base w (RP W k b) m)(k0:0<=k)(k8:k<8){c:Int}(c0:0<=c)(c1:c<(b.locals.length:Int)):Yo [] w (m.ms k.toNat).lO (Int.toNat c*1) 1:=by
 have hl:=BE h;have:=z33 h (bs:=[]) Qs k0 Qo (c:=c) c0 (by rw[Mr k0 Qo]; exact c1) (j:=0) (k:=1) Qd;exact this
theorem Zj.CF1(h:Zj 8 base w (RP W k b) m)(k0:0<=k)(k8:k<8){c:Int}(c0:0<=c)(c1:c<(b.Rz.length:Int)):Yo [] w (m.ms k.toNat).dO (Int.toNat c*1) 1:=by
 have hl:=BE h;have:=z32 h (bs:=[]) Qs k0 Qo (c:=c) c0 (by rw[Mr k0 Qo]; exact c1) (j:=0) (k:=1) Qd;exact this
theorem Zj.BE0(h:Zj 8 base w (RP W k b) m)(k0:0<=k)(k8:k<8){b':JB}(e1:b'.locals=b.locals)(e2:b'.Rz=b.Rz){j:Nat}{vs:List Va}(he:Z2 b' (m.ms k.toNat)=(Z2 b (m.ms k.toNat)).take j++vs++(Z2 b (m.ms k.toNat)).drop (j+vs.length))(hj:j+vs.length<=5) :
  Zj 8 base (R9 w (zmv m k) (0+j) vs) (RP W k b') m:=by
 have hl:=BE h;have hg:=Mr (W:=W) (b:=b) k0 Qo
 have this:Zj 8 base _ (Rf (RP W k b) k { gi W.IE k with IQ:=b' }) m:=h.Ap0 k0 Qo (g:={ gi W.IE k with IQ:=b' }) (by rw[hg]; exact e1) (by rw[hg]; exact e2) (by rw[hg]) (j:=8+j) (vs:=vs) (by
  rw[hg];have e:∀x:JB,Yv { gi W.IE k with IQ:=x } (m.ms k.toNat)=(Yv (gi W.IE k) (m.ms k.toNat)).take 8++Z2 x (m.ms k.toNat)++[.slice (m.ms k.toNat).sO (gi W.IE k).IG.length (m.ms k.toNat).sC]:=λx=>rfl
  rw[e b',e b,he];have l8:((Yv (gi W.IE k) (m.ms k.toNat)).take 8).length=8:=rfl;have l5:(Z2 b (m.ms k.toNat)).length=5:=rfl;generalize (Yv (gi W.IE k) (m.ms k.toNat)).take 8=A at l8;generalize Z2 b (m.ms k.toNat)=B at l5
  have t1:(A++B++[Value.slice (m.ms k.toNat).sO (gi W.IE k).IG.length (m.ms k.toNat).sC]).take (8+j)=A++B.take j:=by
   rw[List.append_assoc,List.take_append,List.take_of_length_le Qo,l8,show 8+j-8=j by omega,List.take_append,show j-B.length=0 by omega,List.take_zero,List.append_nil]
  have t2:(A++B++[Value.slice (m.ms k.toNat).sO (gi W.IE k).IG.length (m.ms k.toNat).sC]).drop (8+j+vs.length)=B.drop (j+vs.length)++[Value.slice (m.ms k.toNat).sO (gi W.IE k).IG.length (m.ms k.toNat).sC]:=by
   rw[List.append_assoc,List.drop_append,List.drop_eq_nil_iff.2 Qo,List.nil_append,l8,show 8+j+vs.length-8=j+vs.length by omega,List.drop_append,show j+vs.length-B.length=0 by omega,List.drop_zero]
  rw[t1,t2];simp only[List.append_assoc]) Qo
 rw[show Rf (RP W k b) k { gi W.IE k with IQ:=b' }=RP W k b' from zh6] at this;rw[Hn,Nat.zero_add,Nat.add_assoc];exact this
theorem Zj.AU4{j:Nat}{vs:List Va}:Q0 (QB 8 m) w (R9 w (zmv m k) (0+j) vs):=by rw[Hn]; exact B2
theorem Zj.A82(h:Zj 8 base w (RP W k b) m)(k0:0<=k)(k8:k<8){c:Int}(c0:0<=c)(c1:c<(b.locals.length:Int))(x:Int) :
  Zj 8 base (R9 w (m.ms k.toNat).lO (Int.toNat c*1) [I x]) (RP W k { b with locals:=b.locals.set c.toNat x }) m:=by
 have hl:=BE h;have hg:=Mr (W:=W) (b:=b) k0 Qo;have hb:(gi (RP W k b).IE k).IQ=b:=by rw[hg]
 have this:Zj 8 base _ (RP (RP W k b) k { (gi (RP W k b).IE k).IQ with locals:=(gi (RP W k b).IE k).IQ.locals.set c.toNat x }) m:=h.eR k0 Qo c0 (by rw[hg]; exact c1) x;rw[zh5 k0 Qo,hb] at this;exact this
theorem Zj.Bv9(h:Zj 8 base w (RP W k b) m)(k0:0<=k)(k8:k<8){c:Int}(c0:0<=c)(c1:c<(b.Rz.length:Int))(x:Bool) :
  Zj 8 base (R9 w (m.ms k.toNat).dO (Int.toNat c*1) [.bool x]) (RP W k { b with Rz:=b.Rz.set c.toNat x }) m:=by
 have hl:=BE h;have hg:=Mr (W:=W) (b:=b) k0 Qo;have hb:(gi (RP W k b).IE k).IQ=b:=by rw[hg]
 have this:Zj 8 base _ (RP (RP W k b) k { (gi (RP W k b).IE k).IQ with Rz:=(gi (RP W k b).IE k).IQ.Rz.set c.toNat x }) m:=h.B35 k0 Qo c0 (by rw[hg]; exact c1) x;rw[zh5 k0 Qo,hb] at this;exact this
def zpq(base:Nat)(W:Q7)(m:MW)(k:Int)(b':JB)(w w':Wo):Prop:=Zj 8 base w' (RP W k b') m/\Q0 (QB 8 m) w w'
theorem zcp(h:Zj 8 base w (RP W k b) m)(k0:0<=k)(k8:k<8)(hl:b.Rz.length<=1048576) :
  Cz UN #[.pointer (zmv m k)] w λe w'=>e=.returned (.tuple #[])/\zpq base W m k { b with Rz:=List.replicate b.Rz.length false } w w':=by
 refine(AL (zmv m k) (R:=λv w'=>v=.tuple #[]/\zpq base W m k { b with Rz:=List.replicate b.Rz.length false } w w') ?_).mono λe w' ⟨v,he,hv,h3⟩=>⟨by rw[he,hv],h3⟩
 refine⟨h.uS k0 k8,_,_,_,h.bdC k0 k8 (j:=4) rfl,?_⟩;refine XN b.Rz.length 0 rfl (λj w1=>j<=b.Rz.length/\Zj 8 base w1 (RP W k { b with Rz:=List.replicate j false++b.Rz.drop j }) m/\Q0 (QB 8 m) w w1) (λw1 RZ _=>⟨Ie _,by simpa using h.WQ RZ,RZ.of_nil⟩) λj w1 hs ⟨hj,hO,hX⟩=>⟨λIU=>?_,λRN=>?_⟩
 ·have IU:=Ot IU;have hlen:(List.replicate j false++b.Rz.drop j).length=b.Rz.length:=by simp; omega
  have c1:(j:Int)<((List.replicate j false++b.Rz.drop j).length:Int):=by rw[hlen]; exact IU
  have e1:=hO.Bv9 k0 k8 (c:=(j:Int)) Qo c1 false;have Wd:=hO.bdC k0 k8 (j:=4) rfl;have Wl:=(hO.BD9 k0 k8).2.2.ix DO (i:=(j:Int)) Qo c1;refine⟨hO.uS k0 k8,_,_,_,Wd,Wl,hO.CF1 k0 k8 Qo c1,⟨Qo,Qo⟩,λw2 R2 _=>Qt Qo ⟨Qo,?_,?_⟩⟩
  ·have e2:=e1.WQ R2;simp only[Ih] at e2;rw[znk _ _ Qo] at e2;exact e2
  ·exact(hX.trans (z21 Qo)).trans R2.of_nil
 ·have RN:=Ou RN;have xJ:j=b.Rz.length:=Qo;subst xJ;rw[List.drop_length,List.append_nil] at hO;exact λw2 R2=>⟨rfl,hO.WQ R2,hX.trans R2.of_nil⟩
theorem zcm(h:Zj 8 base w (RP W k b) m)(k0:0<=k)(k8:k<8)(hb:V4 b){c:Int}(c0:0<=c)(c1:c<(b.locals.length:Int)) :
  Cz Uw #[.pointer (zmv m k),I c] w λe w'=>e=.returned (I 0)/\zpq base W m k (Y5 b c) w w':=by
 refine(HF (zmv m k) c (R:=λv w'=>v=I 0/\zpq base W m k (Y5 b c) w w') ?_).mono λe w' ⟨v,he,hv,h3⟩=>⟨by rw[he,hv],h3⟩
 have he':=hb.each c c0 c1;have p1:=hb.p1;have p2:=hb.p2;have q2:=hb.q2;have hs:=h.uS k0 k8;have hL:=(h.BD9 k0 k8).2.1;have Wl:=hL.ix JH c0 c1;have e1:=h.BE0 k0 k8 (b':={ b with RJ:=b.RJ+gi b.locals c }) rfl rfl (j:=1) (vs:=[I (b.RJ+gi b.locals c)]) rfl Qs;have e2:=e1.A82 k0 k8 c0 c1 0;have hX:=(Zj.AU4 (m:=m) (k:=k) (w:=w) (j:=1) (vs:=[I (b.RJ+gi b.locals c)])).trans (zzo (m:=m) (k:=Int.toNat c*1) (vs:=[I 0]) (i:=k.toNat) Qo);refine⟨hs,_,h.bdC k0 k8 (j:=1) rfl,hs,_,_,_,h.bdC k0 k8 (j:=3) rfl,Wl,_,hL c c0 c1,⟨Qo,Qo⟩,hs,h.Bw0 k0 k8 (j:=1) Qd,hs,_,_,_,e1.bdC k0 k8 (j:=3) rfl,Wl,e1.Bb8 k0 k8 c0 c1,hs,_,e2.bdC k0 k8 (j:=1) rfl,λg wr hx _=>?_,λg wr hx=>⟨rfl,?_,hX.trans hx.of_nil⟩⟩
 ·have g:=Ot g;refine I4 (zcp (e2.WQ hx) k0 k8 (by show b.Rz.length<=_; have:=hb.dl; have:=hb.l2; omega)) ?_;rintro e wv ⟨he,hM,hy⟩;refine⟨he,Y6,λM' RZ=>⟨rfl,?_,((hX.trans hx.of_nil).trans hy).trans RZ.of_nil⟩⟩;have:Y5 b c=⟨b.IZ,b.RJ+gi b.locals c,b.SB,b.locals.set c.toNat 0,List.replicate b.Rz.length false⟩:=by unfold Y5; rw[E' g]
  rw[this];exact hM.WQ RZ
 ·have g:=Ou g;have:Y5 b c=⟨b.IZ,b.RJ+gi b.locals c,b.SB,b.locals.set c.toNat 0,b.Rz⟩:=by unfold Y5; rw[C' g]
  rw[this];exact e2.WQ hx
theorem zoc(l:List Int)(k:Nat)(h:k<l.length):(List.replicate k (0:Int)++l.drop k).set k 0=List.replicate (k+1) 0++l.drop (k+1):=by
 rw[List.set_append,C' Qs,List.length_replicate,Nat.sub_self,List.drop_eq_getElem_cons h,List.set_cons_zero,List.replicate_succ',List.append_assoc,List.singleton_append]
theorem zcl(h:Zj 8 base w (RP W k b) m)(k0:0<=k)(k8:k<8)(hb:V4 b) :
  Cz Uv #[.pointer (zmv m k)] w λe w'=>e=.returned (I 0)/\zpq base W m k (JC b) w w':=by
 refine(HE (zmv m k) (R:=λv w'=>v=I 0/\zpq base W m k (JC b) w w') ?_).mono λe w' ⟨v,he,hv,h3⟩=>⟨by rw[he,hv],h3⟩
 have hdl:=hb.dl;have hl2:=hb.l2;have hs:=h.uS k0 k8;have e1:=h.BE0 k0 k8 (b':={ b with RJ:=b.IZ }) rfl rfl (j:=1) (vs:=[I b.IZ]) rfl Qs;have e2:=e1.BE0 k0 k8 (b':={ b with RJ:=b.IZ,SB:=0 }) rfl rfl (j:=2) (vs:=[I 0]) rfl Qs;have hX2:=(Zj.AU4 (m:=m) (k:=k) (w:=w) (j:=1) (vs:=[I b.IZ])).trans (Zj.AU4 (m:=m) (k:=k) (j:=2) (vs:=[I 0]));refine⟨hs,_,h.bdC k0 k8 (j:=0) rfl,hs,h.Bw0 k0 k8 (j:=1) Qd,hs,e1.Bw0 k0 k8 (j:=2) Qd,hs,_,_,_,e2.bdC k0 k8 (j:=3) rfl,?_⟩;refine XN b.locals.length 0 rfl (λj w1=>j<=b.locals.length/\Zj 8 base w1 (RP W k { b with RJ:=b.IZ,SB:=0,locals:=List.replicate j 0++b.locals.drop j }) m/\Q0 (QB 8 m) w w1) (λw1 RZ _=>⟨Ie _,by simpa using e2.WQ RZ,hX2.trans RZ.of_nil⟩) λj w1 hs ⟨hj,hO,hX⟩=>⟨λIU=>?_,λRN=>?_⟩
 ·have IU:=Ot IU;have hlen:(List.replicate j (0:Int)++b.locals.drop j).length=b.locals.length:=by simp; omega
  have c1:(j:Int)<((List.replicate j (0:Int)++b.locals.drop j).length:Int):=by rw[hlen]; exact IU
  have e1:=hO.A82 k0 k8 (c:=(j:Int)) Qo c1 0;have Wd:=hO.bdC k0 k8 (j:=3) rfl;have Wl:=(hO.BD9 k0 k8).2.1.ix JH (i:=(j:Int)) Qo c1;refine⟨hO.uS k0 k8,_,_,_,Wd,Wl,hO.Bb8 k0 k8 Qo c1,⟨Qo,Qo⟩,λw2 R2 _=>Qt Qo ⟨Qo,?_,?_⟩⟩
  ·have e2:=e1.WQ R2;simp only[Ih] at e2;rw[zoc _ _ Qo] at e2;exact e2
  ·exact(hX.trans (zzo Qo)).trans R2.of_nil
 ·have RN:¬(j:Int)<(b.locals.length:Int):=Ou RN;have xJ:j=b.locals.length:=Qo;subst xJ;rw[List.drop_length,List.append_nil] at hO;intro O' R2 _;refine I4 (zcp (hO.WQ R2) k0 k8 (by show b.Rz.length<=_; omega)) ?_;rintro e wv ⟨he,hM,hy⟩;refine⟨he,Y6,λM' RZ=>⟨rfl,?_,((hX.trans R2.of_nil).trans hy).trans RZ.of_nil⟩⟩;unfold JC;rw[show List.replicate b.Rz.length (0:Int)=List.replicate b.locals.length 0 by rw[hdl]];exact hM.WQ RZ
theorem z2p(p:Int):(if p<20 then p else 20)=ZH 20 p:=by
 unfold ZH
 split <;> split <;> omega
theorem zs8{l:List Bool}{c:Int}(c0:0<=c)(c1:c<(l.length:Int))(h:gi l c=false):l.set c.toNat false=l:=by
 have:=KF c0 c1
 rwa[h] at this
theorem zwl{l:List Int}{c:Int}(c0:0<=c)(c1:c<(l.length:Int))(h:gi l c=0):l.set c.toNat 0=l:=by
 have:=KF c0 c1
 rwa[h] at this
theorem zj1(h:Zj 8 base w (RP W k b) m)(k0:0<=k)(k8:k<8)(hb:V4 b){c:Int}(c0:0<=c)(c1:c<(b.locals.length:Int)) :
  Cz VK #[.pointer (zmv m k),I c] w λe w'=>e=.returned (I (Yd b c).2)/\zpq base W m k (Yd b c).1 w w':=by
 refine(EX (zmv m k) c (R:=λv w'=>v=I (Yd b c).2/\zpq base W m k (Yd b c).1 w w') ?_).mono λe w' ⟨v,he,hv,h3⟩=>⟨by rw[he,hv],h3⟩
 have he':=hb.each c c0 c1;have hdl:=hb.dl;have p1:=hb.p1;have p2:=hb.p2;have q2:=hb.q2;have hm:=z8 p1;have hs:=h.uS k0 k8;have hL:=(h.BD9 k0 k8).2.1;have hD:=(h.BD9 k0 k8).2.2;have Wl:=hL.ix JH c0 c1;refine⟨hs,_,_,_,h.bdC k0 k8 (j:=3) rfl,Wl,_,hL c c0 c1,λg wr hx=>?_,λg=>⟨hs,_,h.bdC k0 k8 (j:=1) rfl,?_⟩⟩
 ·have ht:Yd b c=(b,0):=by unfold Yd; rw[E' (Ot g)]
  rw[ht];exact⟨rfl,h.WQ hx,hx.of_nil⟩
 have g:=Ou g;have hz:gi b.locals c=0:=Qo;have ht:Yd b c=(⟨b.IZ,b.RJ-ZH 20 b.RJ,b.SB,b.locals.set c.toNat (ZH 20 b.RJ),b.Rz.set c.toNat (ZH 20 b.RJ==0)⟩,if ZH 20 b.RJ=0 then 2 else 0):=by unfold Yd; rw[C' g]
 rw[ht,z2p];refine⟨λg2=>?_,λg2=>?_⟩
 ·have g2':ZH 20 b.RJ=0:=by simpa using g2
  have e1:=h.Bv9 k0 k8 c0 Qo true;refine⟨hs,_,_,_,h.bdC k0 k8 (j:=4) rfl,hD.ix DO c0 Qo,h.CF1 k0 k8 c0 Qo,λwr hx=>⟨by rw[E' g2'],?_,(z21 Qo).trans hx.of_nil⟩⟩
  dsimp only
  rw[g2',Int.sub_zero,zwl c0 c1 hz];exact e1.WQ hx
 ·have g2':ZH 20 b.RJ≠0:=by simpa using g2
  have hdr:gi b.Rz c=false:=by
   cases hd:gi b.Rz c with
   | false=>rfl
   | true=>have:=(he'.2.2 hd).2; omega
  have e1:=h.BE0 k0 k8 (b':={ b with RJ:=b.RJ-ZH 20 b.RJ }) rfl rfl (j:=1) (vs:=[I (b.RJ-ZH 20 b.RJ)]) rfl Qs;have e2:=e1.A82 k0 k8 c0 c1 (ZH 20 b.RJ);have hX:=(Zj.AU4 (m:=m) (k:=k) (w:=w) (j:=1) (vs:=[I (b.RJ-ZH 20 b.RJ)])).trans (zzo (m:=m) (k:=Int.toNat c*1) (vs:=[I (ZH 20 b.RJ)]) (i:=k.toNat) Qo);refine⟨hs,_,h.bdC k0 k8 (j:=1) rfl,⟨Qo,Qo⟩,hs,h.Bw0 k0 k8 (j:=1) Qd,hs,_,_,_,e1.bdC k0 k8 (j:=3) rfl,Wl,e1.Bb8 k0 k8 c0 c1,λwr hx=>⟨by rw[C' g2'],?_,hX.trans hx.of_nil⟩⟩
  dsimp only
  rw[g2,zs8 c0 Qo hdr];exact e2.WQ hx
theorem zfy(h:Zj 8 base w (RP W k b) m)(k0:0<=k)(k8:k<8)(hb:V4 b){c n:Int}(c0:0<=c)(c1:c<(b.locals.length:Int)) :
  Cz V8 #[.pointer (zmv m k),I c,I n] w λe w'=>e=.returned (I (XO b c n).2)/\zpq base W m k (XO b c n).1 w w':=by
 refine(DG (zmv m k) c n (R:=λv w'=>v=I (XO b c n).2/\zpq base W m k (XO b c n).1 w w') ?_).mono λe w' ⟨v,he,hv,h3⟩=>⟨by rw[he,hv],h3⟩
 have he':=hb.each c c0 c1;have q2:=hb.q2;have s1:=hb.s1;have s2:=hb.s2;have hs:=h.uS k0 k8;have hL:=(h.BD9 k0 k8).2.1;have Wl:=hL.ix JH c0 c1;refine⟨λ_=>hs,_,_,_,λ_=>h.bdC k0 k8 (j:=3) rfl,λ_=>Wl,_,λ_=>hL c c0 c1,λg wr hx=>?_,λg=>?_⟩
 ·have ht:XO b c n=(b,3):=by unfold XO; rw[E' (by simpa using g)]
  rw[ht];exact⟨rfl,h.WQ hx,hx.of_nil⟩
 ·have g':¬(n<1\/n>gi b.locals c):=by simpa using g
  have ht:XO b c n=({ b with SB:=b.SB+n,locals:=b.locals.set c.toNat (gi b.locals c-n) },0):=by unfold XO; rw[C' g']
  rw[ht];have e1:=h.A82 k0 k8 c0 c1 (gi b.locals c-n);have e2:=e1.BE0 k0 k8 (b':={ b with SB:=b.SB+n,locals:=b.locals.set c.toNat (gi b.locals c-n) }) rfl rfl (j:=2) (vs:=[I (b.SB+n)]) rfl Qs;have hX:=(zzo (m:=m) (w:=w) (k:=Int.toNat c*1) (vs:=[I (gi b.locals c-n)]) (i:=k.toNat) (n:=8) Qo).trans (Zj.AU4 (m:=m) (k:=k) (j:=2) (vs:=[I (b.SB+n)]));exact⟨hs,_,_,_,h.bdC k0 k8 (j:=3) rfl,Wl,_,hL c c0 c1,⟨Qo,Qo⟩,Wl,h.Bb8 k0 k8 c0 c1,hs,_,e1.bdC k0 k8 (j:=2) rfl,⟨by show _<=b.SB+n; omega,by show b.SB+n<=_; omega⟩,hs,e1.Bw0 k0 k8 (j:=2) Qd,λwr hx=>⟨rfl,e2.WQ hx,hX.trans hx.of_nil⟩⟩
theorem zsg(h:Zj 8 base w (RP W k b) m)(k0:0<=k)(k8:k<8)(hb:V4 b){op:zxk} :
  Cz Pc #[.pointer (zmv m k),.agg (zrz op).toArray] w λe w'=>e=.returned (I (ZK b op).2)/\zpq base W m k (ZK b op).1 w w':=by
 refine(zbi (zmv m k) op.kind op.pY op.n (R:=λv w'=>v=I (ZK b op).2/\zpq base W m k (ZK b op).1 w w') ?_).mono λe w' ⟨v,he,hv,h3⟩=>⟨by rw[he,hv],h3⟩
 have hl2:=hb.l2;have hs:=h.uS k0 k8;intro b1 gH
 have one:∀{w1:Wo},Q0 [] w w1->∀y∈QB 8 m,y∉[b1]:=λ_ y hy hm=>by
  have:y=b1:=by simpa using hm
  have:=(h.lt y hy).2;omega
 have fin:∀{w1 w2 w3:Wo} {b':JB} {c:Int},Q0 [] w w1->(∀y∈[b1],y<w1.heap.size)->zpq base W m k b' w1 w2->Q0 [b1] w2 w3->ZK b op=(b',c)->Q8 [b1] w1 w2/\zpq base W m k (ZK b op).1 w w3:=λh1 h2 h3 h4 h5=>by
  refine⟨λy hm=>h3.2.block y (h2 y hm) λgX=>one h1 y gX hm,?_⟩;rw[h5]
  exact ⟨h3.1.ext h4 (one h1), (h1.of_nil.trans h3.2).fresh h4 fun y hm => .inl (by have:y=b1:=by simpa using hm
                                                                                    omega)⟩
 refine⟨λg wr hx dK=>?_,λg=>⟨hs,_,_,_,h.bdC k0 k8 (j:=3) rfl,⟨Qo,Qo⟩,_,QW,λg2 wr hx=>?_,λg2=>?_⟩⟩
 ·have gL:ZK b op=(JC b,0):=by unfold ZK; rw[E' (by simpa using g)]
  refine I4 (zcl (h.WQ hx) k0 k8 hb) ?_;rintro e wv ⟨he,hR⟩;exact⟨_,he,(fin hx dK hR (Q0.refl _ _) gL).1,λM' RZ=>⟨by rw[gL],(fin hx dK hR RZ gL).2⟩⟩
 all_goals have g:¬op.kind=4:=by simpa using g
 ·have gL:ZK b op=(b,1):=by unfold ZK; rw[C' g,E' (by simpa using g2)]
  rw[gL];exact⟨rfl,h.WQ hx,hx.of_nil⟩
 have g2:YQ op.pY 0 ((b.locals.length:Int)-1)=true:=by simpa using g2
 obtain⟨c0,c1⟩:=Qu.1 g2;have c1:op.pY<(b.locals.length:Int):=Qo
 have gL:ZK b op=if op.kind=1 then Yd b op.pY else if op.kind=2 then XO b op.pY op.n else if op.kind=3 then (Y5 b op.pY,0) else (b,1):=by
  unfold ZK; rw[C' g,C' (by rw[g2]; decide)]
 refine⟨λg3 wr hx dK=>?_,λg3=>⟨λg4 wr hx dK=>?_,λg4=>⟨λg5 wr hx dK=>?_,λg5 wr hx=>?_⟩⟩⟩
 ·rw[E' (by simpa using g3)] at gL;refine I4 (zj1 (h.WQ hx) k0 k8 hb c0 c1) ?_;rintro e wv ⟨he,hR⟩;exact⟨_,he,(fin hx dK hR (Q0.refl _ _) gL).1,λM' RZ=>⟨by rw[gL],(fin hx dK hR RZ gL).2⟩⟩
 ·rw[C' (by simpa using g3),E' (by simpa using g4)] at gL;refine I4 (zfy (n:=op.n) (h.WQ hx) k0 k8 hb c0 c1) ?_;rintro e wv ⟨he,hR⟩;exact⟨_,he,(fin hx dK hR (Q0.refl _ _) gL).1,λM' RZ=>⟨by rw[gL],(fin hx dK hR RZ gL).2⟩⟩
 ·rw[C' (by simpa using g3),C' (by simpa using g4),E' (by simpa using g5)] at gL;refine I4 (zcm (h.WQ hx) k0 k8 hb c0 c1) ?_;rintro e wv ⟨he,hR⟩;exact⟨_,he,(fin hx dK hR (Q0.refl _ _) gL).1,λM' RZ=>⟨by rw[gL],(fin hx dK hR RZ gL).2⟩⟩
 ·rw[C' (by simpa using g3),C' (by simpa using g4),C' (by simpa using g5)] at gL;rw[gL];exact⟨rfl,h.WQ hx,hx.of_nil⟩
end
structure PW (base pb:Nat) (w:Wo) (W:Q7) (m:MW):Prop where
 own:Zj 8 base w W m
 pt:w.heap[pb]? = some (.cells (Qa W m).toArray Q4 (0,0))
 pn:pb∉QB 8 m
abbrev pA(pb:Nat):OA:=some ⟨pb,0,none⟩
structure Mp (base pb:Nat) (bs:List Nat) (w0:Wo) (m0:MW) (w:Wo) (W:Q7) (m:MW):Prop where
 v:Mv 8 base bs w0 m0 w W m
 pt:w.heap[pb]? = some (.cells (Qa W m).toArray Q4 (0,0))
 pn:pb∉QB 8 m
 pb:pb∉bs
section
variable {base pb:Nat}{bs cs:List Nat}{w0 w w':Wo}{W W':Q7}{m0 m m':MW}{b:Nat}
theorem Mp.start(h:PW base pb w W m):Mp base pb [] w m w W m:=⟨Mv.start h.own,h.pt,h.pn,Qs⟩
theorem Mp.pw(h:Mp base pb bs w0 m0 w W m):PW base pb w W m:=⟨h.v.own,h.pt,h.pn⟩
theorem Mp.add(h:Mp base pb bs w0 m0 w W m)(hb:w.heap.size<=b):Mp base pb (bs++[b]) w0 m0 w W m:=⟨h.v.add hb,h.pt,h.pn,λhm=>by
 rcases Io.1 hm with hm | hm
 ·exact h.pb hm
 ·have:pb=b:=by simpa using hm
  have:=YY h.pt;omega⟩
theorem Mp.step(h:Mp base pb bs w0 m0 w W m)(hx:Q0 bs w w'):Mp base pb bs w0 m0 w' W m:=⟨h.v.step hx,Qq h.pt hx h.pb,h.pn,h.pb⟩
theorem Mp.R5(h:Mp base pb bs w0 m0 w W m)(hx:Q0 [] w w'):Mp base pb bs w0 m0 w' W m:=⟨h.v.R5 hx,Qq h.pt hx Qs,h.pn,h.pb⟩
theorem Mp.call(h:Mp base pb bs w0 m0 w W m)(k:Mp base pb [] w m w' W' m')(hs:∀x∈bs,x<w.heap.size):Mp base pb bs w0 m0 w' W' m':=⟨h.v.call k.v hs,k.pt,k.pn,h.pb⟩
theorem Mp.kept(h:Mp base pb bs w0 m0 w W m)(k:Mp base pb [] w m w' W' m')(hs:∀x∈bs,x<w.heap.size):Q8 bs w w':=h.v.kept k.v hs
theorem Mp.SH(h:Mp base pb bs w0 m0 w W m)(k:Zj 8 base w' W' m)(hx:Q0 (QB 8 m) w w')(he:Qa W' m=Qa W m):Mp base pb bs w0 m0 w' W' m:=⟨h.v.SH k hx,by rw[he]; exact Qq h.pt hx h.pn,h.pn,h.pb⟩
theorem Mp.sub(h:Mp base pb bs w0 m0 w W m)(hs:∀x∈cs,x∈bs):Mp base pb cs w0 m0 w W m:=⟨h.v.BY6 hs,h.pt,h.pn,λhm=>h.pb (hs _ hm)⟩
theorem Mp.close(h:Mp base pb bs w0 m0 w W m):Mp base pb [] w0 m0 w W m:=h.sub Qs
theorem Mp.wpt(h:Mp base pb bs w0 m0 w W m):My bs w (pA pb) W m:=⟨PV h.pt h.pb (k0:=0) λj v hj=>by simpa using hj,h.v.rd⟩
theorem Mp.own(h:Mp base pb bs w0 m0 w W m):Zj 8 base w W m:=h.v.own
theorem Mp.nb(h:Mp base pb bs w0 m0 w W m):∀x∈QB 8 m,x∉bs:=h.v.nb
end
theorem zwk{W:Q7}{k c:Int}{s:KN}(h0:0<=k)(h1:k<(W.IE.length:Int)):gi (Rx W k c s).IE k={ gi W.IE k with IG:=(gi W.IE k).IG.set c.toNat s }:=by
 unfold Rx;rw[Yz h0 h1 h0,E' rfl]
theorem zs7{W:Q7}{k c:Int}{s s':KN}(h0:0<=k)(h1:k<(W.IE.length:Int)):Rx (Rx W k c s) k c s'=Rx W k c s':=by
 show Rf (Rx W k c s) k { gi (Rx W k c s).IE k with IG:=(gi (Rx W k c s).IE k).IG.set c.toNat s' }=_;rw[zwk h0 h1]
 dsimp only
 rw[List.set_set];exact zh6
theorem zpc{W:Q7}{k c:Int}(h0:0<=k)(h1:k<(W.IE.length:Int))(c0:0<=c)(c1:c<((gi W.IE k).IG.length:Int)):Rx W k c (Qb W k c)=W:=by
 show Rf W k { gi W.IE k with IG:=(gi W.IE k).IG.set c.toNat (gi (gi W.IE k).IG c) }=W;rw[KF c0 c1];unfold Rf;rw[KF h0 h1]
section
variable {base pb:Nat}{bs:List Nat}{w:Wo}{W:Q7}{m:MW}{k c:Int}
theorem Zj.Bg3(h:Zj 8 base w W m)(k0:0<=k)(k8:k<8)(c0:0<=c)(c1:c<((gi W.IE k).IG.length:Int)){j:Nat}{vs:List Va}{s:KN}(he:M1 s=(M1 (Qb W k c)).take j++vs++(M1 (Qb W k c)).drop (j+vs.length))(hj:j+vs.length<=5) :
  Zj 8 base (R9 w (zxh m k c) (0+j) vs) (Rx W k c s) m:=by
 have:=h.BK8 k0 Qo c0 c1 he hj;rw[<-z0h] at this;unfold zxh;rw[Hn,Nat.zero_add];exact this
theorem Zj.CC4(h:Zj 8 base w W m)(hd:∀x∈QB 8 m,x∉bs)(k0:0<=k)(k8:k<8)(c0:0<=c)(c1:c<((gi W.IE k).IG.length:Int)){j n:Nat}(hj:j+n<=5):Yo bs w (zxh m k c) (0+j) n:=by
 unfold zxh;refine zaf.2 ?_;rw[Nat.zero_add];exact zzt h hd k0 Qo c0 c1 hj
theorem zq8{vs:List Va}{j:Nat}(k0:0<=k)(k8:k<8):Q0 (QB 8 m) w (R9 w (zxh m k c) (0+j) vs):=by
 unfold zxh;rw[Hn];exact NG Qo
theorem Om(h:PW base pb w W m)(c0:0<=c)(c1:c<(W.IF.length:Int)) :
  Cz YG #[.agg #[.pointer (pA pb),I c]] w λe w'=>e=.returned (.tuple #[])/\Mp base pb [] w m w' (Ry W c) m:=by
 refine(Gc (pA pb) c (R:=λv w'=>v=.tuple #[]/\Mp base pb [] w m w' (Ry W c) m) ?_).mono λe w' ⟨v,he,hv,h3⟩=>⟨by rw[he,hv],h3⟩
 intro b hb;obtain⟨e1,e2⟩:=zqs h.own c0 c1;have hM:=Mp.start h;have hp:=hM.wpt;have hr:=h.own.rd (bs:=[]) Qs;have hs:=KG (n:=Int.toNat c*5) (hr.c c c0 c1);refine⟨_,L3 hp c0 c1,_,L3 hp c0 c1,hs,zaf.2 (zri h.own Qs c0 c1 Qd),hs,?_⟩;rw[Hn];refine⟨zaf.2 (zri e1 Qs c0 (by simpa using c1) Qd),?_⟩;rw[Hn];exact λwr hx=>⟨rfl,(hM.SH e2 (CR.trans CR) (by simp[Qa,Ry,S8])).R5 hx⟩
theorem zfw{p:OA}{g:Int}(h:My bs w p W m)(ht:Yk W.IE)(hu:Q6 W.IE g=true):PX bs Vb #[.pointer p,I g] w (I (dep 3 W.IE g)):=
 E4 p g λwr hx=>by
  have h:=(h.ext hx).less (cs:=[]) Qs
  have hdr:∀x,Q6 W.IE x=true->0<=dep 3 W.IE x/\dep 3 W.IE x<=3:=λx hux=>by
   by_cases hz:x=0
   ·subst hz; rw[Y4]; omega
   ·obtain⟨_,_,_,d,e,_,hd⟩:=Yl ht hux hz;omega
  refine⟨λvs=>∃(x s:Int),vs=[I x,I s]/\Q6 W.IE x=true/\0<=s/\s+dep 3 W.IE x=dep 3 W.IE g,λvs=>(dep 3 W.IE (ZQ 0 vs)).toNat,⟨g,0,rfl,hu,Qd,Qo⟩,?_⟩;rintro x s ⟨x',s',he,hux,hs0,hI⟩;simp only[I5,I6,true_and,and_true] at he;obtain⟨rfl,rfl⟩:=he;have hgd:=hdr g hu;have hxd:=hdr x hux;refine⟨λhz=>?_,λhz=>?_⟩
  ·have hz:x≠0:=by simpa using hz
   obtain⟨hp,a,b,d,e,e2,hd⟩:=Yl ht hux hz;refine⟨⟨Qo,Qo⟩,h.some,_,_,_,h.IE,h.rd.g.ix a b,_,h.rd.g.parent a b,⟨_,_,rfl,hp,Qo,Qo⟩,?_⟩;show (dep 3 W.IE (gi W.IE x).parent).toNat<(dep 3 W.IE x).toNat;omega
  ·have hz:x=0:=by simpa using hz
   subst hz;rw[Y4] at hI;rw[show s=dep 3 W.IE g by omega]
theorem PE{F K:Int}(h:PW base pb w W m)(mC:SF F K W)(hk:F+Qj<=K)(hK:K<=1000000000000000000)(c0:0<=c)(c1:c<(W.IF.length:Int)) :
  Cz YF #[.agg #[.pointer (pA pb),I c]] w λe w'=>e=.returned (.tuple #[])/\Mp base pb [] w m w' (QL W c) m:=by
 refine(MX (pA pb) c (R:=λv w'=>v=.tuple #[]/\Mp base pb [] w m w' (QL W c) m) ?_).mono λe w' ⟨v,he,hv,h3⟩=>⟨by rw[he,hv],h3⟩
 intro x hx;have cP:=mC.w.a.gl
 refine⟨λvs w1=>∃(j:Nat),vs=[I (3-(j:Int))]/\j<=3/\Mp base pb [x] w m w1 (Yy W c j) m,
  λvs _=>(ZQ 0 vs).toNat,λwr wB _=>⟨0,rfl,Qd,((Mp.start h).add hx).R5 wB⟩,?_⟩
 rintro d wv hs ⟨j,he,j3,hM⟩;obtain⟨hS,hO⟩:=Hc mC hk c0 c1 j j3;have hN:Yy W c (j+1)=Zi (Yy W c j) c (3-(j:Int)) 8:=rfl;have hE:j=3->Yy W c j=QL W c:=λe=>by rw[e]; rfl
 generalize Yy W c j=W1 at hM hS hO hN hE;simp only[I5,I6,true_and,and_true] at he;refine⟨λhd=>?_,λhd=>?_⟩
 ·have hd:=Ot hd;have uD:c<(W1.IF.length:Int):=by rw[hO.c]; exact c1
  have C31:W1.IE.length=W.IE.length:=hO.g.len;have hp:=hM.wpt;refine⟨hp.some,_,_,_,hp.IE,?_⟩;rw[C31];refine XN W.IE.length 0 rfl (λk w2=>k<=8/\Mp base pb [x] w m w2 (Zi W1 c d k) m) (λw2 R2 _=>⟨Qd,hM.step R2⟩) λk w2 We ⟨hk8,aB⟩=>?_
  obtain⟨pZ,oZ⟩:=Fw hS hk (c:=c) (d:=d) Qo c0 uD k hk8;have hf2:=hO.trans oZ;have tY:(Zi W1 c d k).IE.length=W.IE.length:=hf2.g.len;have AK7:(Zi W1 c d k).IF.length=W.IF.length:=by rw[hf2.c]
  have Ww:Zi W1 c d (k+1)=if (gi (Zi W1 c d k).IE (k:Int)).used=true/\dep 3 (Zi W1 c d k).IE (k:Int)=d then Rx (Zi W1 c d k) (k:Int) c (ZM (Zi W1 c d k) (k:Int) c) else Zi W1 c d k:=rfl;have hN8:k=8->Yy W c (j+1)=Zi W1 c d k:=λe=>by rw[hN,<-he,e]
  generalize Zi W1 c d k=W2 at aB pZ oZ hf2 tY AK7 Ww hN8;have gV:=aB.wpt;have hr:=gV.rd;refine⟨λIU=>?_,λRN=>?_⟩
  ·have IU:=Ot IU;have RM:(k:Int)<(W2.IE.length:Int):=Qo;have Wl:=hr.g.ix (i:=(k:Int)) Qo RM;have hru:=hr.g.used (i:=(k:Int)) Qo RM;refine⟨gV.some,_,_,_,gV.IE,Wl,(gi W2.IE (k:Int)).used,hru,dep 3 W2.IE (k:Int),λg=>?_,λg=>?_,λg=>?_⟩
   ·exact zfw gV pZ.w.a.tree (Q5.2 ⟨Qo,RM,by simpa using g⟩)
   ·refine⟨⟨Qo,Qo⟩,λw3 Rb _=>Qt Qo ⟨Qo,?_⟩⟩;rw[Ww,C']
    ·exact aB.step Rb
    ·rintro⟨h1,h2⟩;rw[h1,h2] at g;simp at g
   ·simp only[I0,I7,bne_eq_false_iff_eq] at g;have hu:Q6 W2.IE (k:Int)=true:=Q5.2 ⟨Qo,RM,g.1⟩;rw[E' ⟨g.1,g.2⟩] at Ww;have hsl:=pZ.w.a.sl hu
    have hz:(k:Int)≠0:=λe=>by
     rw[e,Y4] at g;omega
    have hpa:=pZ.w.a.up hu hz;obtain⟨p0,p1,_⟩:=Q5.1 hpa;have hpl:=pZ.w.a.sl hpa;have s1:=pZ.w.s _ c hu c0 Qo;have s2:=pZ.w.s _ c hpa c0 Qo;have lc:=ZG ((Qb W2 (k:Int) c).v-(Qb W2 (gi W2.IE (k:Int)).parent c).floor) (Qb W2 (k:Int) c).w;have lm:=ZC (Qb W2 (k:Int) c).w;have hsh:=gV.sh (g:=(k:Int)) (c:=c) Qo RM c0 Qo;have Ci3:=gV.sh (g:=(gi W2.IE (k:Int)).parent) (c:=c) p0 p1 c0 Qo;have A85:=K5 (g:=(k:Int)) gV pZ.w.a c0 Qo;have Bl3:=zch (g:=(k:Int)) gV pZ.w.a hu c0 Qo;have cS:c<((gi W2.IE (k:Int)).IG.length:Int):=Qo;refine⟨_,Zw gV Qo RM c0 cS,QV W2 (k:Int) c,A85,Uq W2 (k:Int) c,λ_=>Bl3,λ_=>hsh.1,_,λ_=>hsh.2 (j:=1) rfl,λg2=>?_,λg2=>?_⟩
    ·have wY:ZM W2 (k:Int) c=⟨(Qb W2 (k:Int) c).floor,QV W2 (k:Int) c && !Uq W2 (k:Int) c,(Qb W2 (gi W2.IE (k:Int)).parent c).floor+Y1 ((Qb W2 (k:Int) c).v-(Qb W2 (gi W2.IE (k:Int)).parent c).floor) (Qb W2 (k:Int) c).w,(Qb W2 (k:Int) c).w,(Qb W2 (k:Int) c).sum⟩:=by
      unfold ZM;rw[E']
      simpa[Qb] using g2
     have e1:=aB.own.Bg3 (k:=(k:Int)) (c:=c) Qo Qo c0 cS (j:=2) (vs:=[I ((Qb W2 (gi W2.IE (k:Int)).parent c).floor+Y1 ((Qb W2 (k:Int) c).v-(Qb W2 (gi W2.IE (k:Int)).parent c).floor) (Qb W2 (k:Int) c).w)]) (s:={ Qb W2 (k:Int) c with v:=(Qb W2 (gi W2.IE (k:Int)).parent c).floor+Y1 ((Qb W2 (k:Int) c).v-(Qb W2 (gi W2.IE (k:Int)).parent c).floor) (Qb W2 (k:Int) c).w }) rfl Qs;have cS1:c<((gi (Rx W2 (k:Int) c { Qb W2 (k:Int) c with v:=(Qb W2 (gi W2.IE (k:Int)).parent c).floor+Y1 ((Qb W2 (k:Int) c).v-(Qb W2 (gi W2.IE (k:Int)).parent c).floor) (Qb W2 (k:Int) c).w }).IE (k:Int)).IG.length:Int):=by rw[NA Qo RM Qo]; exact cS
     have dK:Qb (Rx W2 (k:Int) c { Qb W2 (k:Int) c with v:=(Qb W2 (gi W2.IE (k:Int)).parent c).floor+Y1 ((Qb W2 (k:Int) c).v-(Qb W2 (gi W2.IE (k:Int)).parent c).floor) (Qb W2 (k:Int) c).w }) (k:Int) c={ Qb W2 (k:Int) c with v:=(Qb W2 (gi W2.IE (k:Int)).parent c).floor+Y1 ((Qb W2 (k:Int) c).v-(Qb W2 (gi W2.IE (k:Int)).parent c).floor) (Qb W2 (k:Int) c).w }:=by
      rw[Jw Qo RM c0 cS Qo c0,E' ⟨rfl,rfl⟩]
     have e2:=e1.Bg3 (k:=(k:Int)) (c:=c) Qo Qo c0 cS1 (j:=1) (vs:=[.bool (QV W2 (k:Int) c && !Uq W2 (k:Int) c)]) (s:=ZM W2 (k:Int) c) (by rw[dK,wY]; rfl) Qs;rw[zs7 Qo RM] at e2;have hX:=(zq8 (m:=m) (w:=w2) (k:=(k:Int)) (c:=c) (j:=2) (vs:=[I ((Qb W2 (gi W2.IE (k:Int)).parent c).floor+Y1 ((Qb W2 (k:Int) c).v-(Qb W2 (gi W2.IE (k:Int)).parent c).floor) (Qb W2 (k:Int) c).w)]) Qo Qo).trans (zq8 (m:=m) (k:=(k:Int)) (c:=c) (j:=1) (vs:=[.bool (QV W2 (k:Int) c && !Uq W2 (k:Int) c)]) Qo Qo);have heq:Qa (Rx W2 (k:Int) c (ZM W2 (k:Int) c)) m=Qa W2 m:=UL (UW Qo RM).fr;refine⟨gV.some,_,_,_,gV.IE,Wl,_,hr.g.parent Qo RM,_,Zw gV p0 p1 c0 Qo,Ci3.1,_,Ci3.2 (j:=0) rfl,hsh.1,_,hsh.2 (j:=2) rfl,⟨Qo,Qo⟩,hsh.1,_,hsh.2 (j:=3) rfl,_,zfs,⟨Qo,Qo⟩,hsh.1,aB.own.CC4 aB.nb Qo Qo c0 cS (j:=2) Qd,hsh.1,e1.CC4 aB.nb Qo Qo c0 cS1 (j:=1) Qd,⟨Qo,Qo⟩,λw3 Rb _=>Qt Qo ⟨Qo,?_⟩⟩;rw[Ww];exact(aB.SH e2 hX heq).step Rb
    ·have wY:ZM W2 (k:Int) c=⟨(Qb W2 (k:Int) c).floor,QV W2 (k:Int) c && !Uq W2 (k:Int) c,(Qb W2 (k:Int) c).v,(Qb W2 (k:Int) c).w,(Qb W2 (k:Int) c).sum⟩:=by
      unfold ZM;rw[C'];intro h1;rw[h1.1,show (Qb W2 (k:Int) c).on=false from h1.2] at g2;cases g2
     have e2:=aB.own.Bg3 (k:=(k:Int)) (c:=c) Qo Qo c0 cS (j:=1) (vs:=[.bool (QV W2 (k:Int) c && !Uq W2 (k:Int) c)]) (s:=ZM W2 (k:Int) c) (by rw[wY]; rfl) Qs;have heq:Qa (Rx W2 (k:Int) c (ZM W2 (k:Int) c)) m=Qa W2 m:=UL (UW Qo RM).fr;refine⟨hsh.1,aB.own.CC4 aB.nb Qo Qo c0 cS (j:=1) Qd,⟨Qo,Qo⟩,λw3 Rb _=>Qt Qo ⟨Qo,?_⟩⟩;rw[Ww];exact(aB.SH e2 (zq8 Qo Qo) heq).step Rb
  ·have RN:=Ou RN;have hN8:=hN8 Qo;refine⟨⟨Qo,Qo⟩,λw3 Rb _=>⟨⟨j+1,?_,Qo,?_⟩,?_⟩⟩
   ·rw[show d-1=3-((j+1:Nat):Int) by omega]
   ·rw[hN8];exact aB.step Rb
   ·show (d-1).toNat<d.toNat;omega
 ·have hd:=Ou hd;rw[<-hE Qo];exact λw2 R2=>⟨rfl,(hM.step R2).close⟩
end
def TB(W:Q7)(g c:Int):Nat->Int
 | 0=>100000000000000001
 | k+1=>if Zq W g c k=true then (if Zn W c k<TB W g c k then Zn W c k else TB W g c k) else TB W g c k
theorem NX{W:Q7}{g c:Int}:∀k:Nat,(∀j,j<k->Zq W g c j=true->Zn W c j<=100000000000000000)->TB W g c k=if Zx W g c k=true then Z5 W g c k else 100000000000000001
 | 0,_=>by
  have:Zx W g c 0=false:=rfl;rw[this]; rfl
 | k+1,h=>by
  have ih:=NX k λj hj=>h j Qo
  simp only[TB]
  cases hp:Zq W g c k with
  | false=>
   have:=ET (W:=W) (g:=g) (c:=c) (k:=k) (by rw[hp]; rfl);rw[C' Qd,ih,this.1,this.2]
  | true=>
   have hv:=h k Qo hp;rw[E' rfl,ih]
   cases hb:Zx W g c k with
   | false=>
    have:=EU (W:=W) (g:=g) (c:=c) (k:=k) (by rw[hp,hb]; rfl);rw[this.1,this.2,C' (show ¬(false=true) by decide),E' (show Zn W c k<100000000000000001 by omega),E' (show true=true from rfl)]
   | true=>
    rw[E' rfl]
    by_cases IU:Zn W c k<Z5 W g c k
    ·have:=EU (W:=W) (g:=g) (c:=c) (k:=k) (by rw[hp,Ii IU]; simp);rw[this.1,this.2,E' rfl,E' IU]
    ·have:=ET (W:=W) (g:=g) (c:=c) (k:=k) (by rw[hp,hb,decide_eq_false IU]; rfl);rw[this.1,this.2,hb,E' rfl,C' IU]
theorem zy3{K:Int}{W:Q7}(h:SW K W){g c:Int}(c0:0<=c)(c1:c<(W.IF.length:Int)){j:Nat}(hj:j<20)(hp:Zq W g c j=true):Zn W c j<=K:=by
 have hl:=h.a.gl;unfold Zn
 by_cases h12:j<12
 ·rw[E' h12];exact(h.tv (j:Int) Qo Qo).2
 ·rw[C' h12];unfold Zq at hp;rw[C' h12] at hp;unfold Jf at hp;simp only[A'] at hp;have hu:Q6 W.IE ((j-12:Nat):Int)=true:=Q5.2 ⟨Qo,Qo,hp.1.2.1⟩;exact(h.s _ c hu c0 c1).2.2.2.1
section
variable {base pb:Nat}{w:Wo}{W:Q7}{m:MW}{k c:Int}
theorem zl7{K:Int}(h:PW base pb w W m)(mC:SW K W)(hK0:0<=K)(hK:K<=100000000000000000)(c0:0<=c)(c1:c<(W.IF.length:Int)) :
  Cz Ti #[.agg #[.pointer (pA pb),I c]] w λe w'=>e=.returned (.tuple #[])/\Mp base pb [] w m w' (Zb W c) m:=by
 refine(BK (pA pb) c (R:=λv w'=>v=.tuple #[]/\Mp base pb [] w m w' (Zb W c) m) ?_).mono λe w' ⟨v,he,hv,h3⟩=>⟨by rw[he,hv],h3⟩
 intro x hx;have cP:=mC.a.gl;have hp0:=(Mp.start h).wpt;refine⟨hp0.some,_,_,_,hp0.IE,?_⟩;refine XN W.IE.length 0 rfl (λk w2=>k<=8/\Mp base pb [x] w m w2 (QQ W c k) m) (λw2 R2 _=>⟨Qd,((Mp.start h).add hx).R5 R2⟩) λk w2 We ⟨hk8,aB⟩=>?_
 obtain⟨pZ,oZ⟩:=O3 mC hK0 c0 c1 k hk8;have tY:(QQ W c k).IE.length=W.IE.length:=oZ.g.len;have AK7:(QQ W c k).IF.length=W.IF.length:=by rw[oZ.c]
 have Ww:QQ W c (k+1)=if (gi (QQ W c k).IE (k:Int)).used=true/\Zx (QQ W c k) (k:Int) c 20=true/\Z5 (QQ W c k) (k:Int) c 20>(Qb (QQ W c k) (k:Int) c).floor then Rx (QQ W c k) (k:Int) c (DR (QQ W c k) (k:Int) c) else QQ W c k:=rfl;have hN8:k=8->Zb W c=QQ W c k:=λe=>by rw[e]; rfl
 generalize QQ W c k=W2 at aB pZ oZ tY AK7 Ww hN8;have hp:=aB.wpt;have hr:=hp.rd;have fH:=pZ.a.t;refine⟨λIU=>?_,λRN=>?_⟩
 ·have IU:=Ot IU;have RM:(k:Int)<(W2.IE.length:Int):=Qo;refine⟨hp.some,_,_,_,hp.IE,hr.g.ix (i:=(k:Int)) Qo RM,(gi W2.IE (k:Int)).used,hr.g.used Qo RM,λg=>?_,λg=>?_⟩
  ·refine⟨⟨Qo,Qo⟩,λw3 Rb _=>Qt Qo ⟨Qo,?_⟩⟩;rw[Ww,C' (λh1=>by rw[h1.1] at g; cases g)];exact aB.step Rb
  have g:(gi W2.IE (k:Int)).used=true:=by simpa using g
  have hu:Q6 W2.IE (k:Int)=true:=Q5.2 ⟨Qo,RM,g⟩;have hsl:=pZ.a.sl hu;have cS:c<((gi W2.IE (k:Int)).IG.length:Int):=Qo;have hlm:=NX (W:=W2) (g:=(k:Int)) (c:=c) 20 λj hj hp=>IC (zy3 pZ c0 Qo hj hp) hK
  refine⟨hp.some,_,_,_,hp.tasks,λvs w1=>∃(t:Nat),vs=[I (TB W2 (k:Int) c t),I (t:Int)]/\t<=12/\Mp base pb [x] w m w1 W2 m,Zt W2.tasks.length 1,λw3 Rb _=>⟨0,rfl,Qd,aB.step Rb⟩,?_⟩;rintro least x1 R7 iB ⟨t,he,ht,kQ⟩;simp only[I5,I6,true_and,and_true] at he;obtain⟨rfl,rfl⟩:=he;have hp3:=kQ.wpt;refine⟨λBz9=>?_,λAQ6=>?_⟩
  ·have Bz9:=Ot Bz9;have hq:=D8 (g:=(k:Int)) (c:=c) hp3 (t:=(t:Int)) Qo Bz9;rw[Ih] at hq;refine⟨hp3.rd.t.ix QF Qo Bz9,_,_,_,_,_,_,_,_,_,hp3.rd.t (t:Int) Qo Bz9,λb1 gH=>⟨OQ W2 (k:Int) c t,hq,λga=>⟨⟨Qo,Qo⟩,λw4 SZ _=>⟨⟨t+1,?_,Qo,kQ.step SZ⟩,?_⟩⟩,λga=>⟨⟨Qo,Qo⟩,λw4 SZ _=>⟨⟨t+1,?_,Qo,kQ.step SZ⟩,?_⟩⟩⟩⟩
   ·simp only[TB];rw[Vh Qo,E' ga,DY Qo];rfl
   ·simp only[Zt,Xe,ZQ,Ig,List.getElem?_cons_succ]; omega
   ·simp only[TB];rw[Vh Qo,C' (by rw[ga]; decide)];rfl
   ·simp only[Zt,Xe,ZQ,Ig,List.getElem?_cons_succ]; omega
  have AQ6:=Ou AQ6;have CR4:t=12:=Qo;subst CR4;refine⟨hp3.some,_,_,_,hp3.IE,λvs w1=>∃(i:Nat),vs=[I (TB W2 (k:Int) c (12+i)),I (i:Int)]/\i<=8/\Mp base pb [x] w m w1 W2 m,Zt W2.IE.length 1,λw4 SZ _=>⟨0,rfl,Qd,kQ.step SZ⟩,?_⟩;rintro iY x9 Rr gY ⟨i,he,hi,lJ⟩;simp only[I5,I6,true_and,and_true] at he;obtain⟨rfl,rfl⟩:=he;have hp4:=lJ.wpt;refine⟨λBl8=>?_,λCe1=>?_⟩
  ·have Bl8:=Ot Bl8;have hh:=Fh (g:=(k:Int)) hp4 pZ.a (k:=(i:Int)) Qo Bl8 c0 Qo;rw[Ih] at hh
   have dF:TB W2 (k:Int) c (12+(i+1))=if Jf W2 (k:Int) c i=true then (if (Qb W2 (i:Int) c).v<TB W2 (k:Int) c (12+i) then (Qb W2 (i:Int) c).v else TB W2 (k:Int) c (12+i)) else TB W2 (k:Int) c (12+i):=by
    rw[show 12+(i+1)=12+i+1 from rfl];simp only[TB];rw[Ua,DX]
   refine⟨Jf W2 (k:Int) c i,hh,λga=>?_,λga=>⟨⟨Qo,Qo⟩,λw5 Sy _=>⟨⟨i+1,?_,Qo,lJ.step Sy⟩,?_⟩⟩⟩
   ·have hui:Q6 W2.IE (i:Int)=true:=by
     unfold Jf at ga;simp only[A'] at ga;exact Q5.2 ⟨Qo,Bl8,ga.1.2.1⟩
    have Da8:=pZ.a.sl hui;have hsh:=hp4.sh (g:=(i:Int)) (c:=c) Qo Bl8 c0 Qo;refine⟨_,Zw hp4 Qo Bl8 c0 Qo,hsh.1,_,hsh.2 (j:=2) rfl,⟨Qo,Qo⟩,λw5 Sy _=>⟨⟨i+1,?_,Qo,lJ.step Sy⟩,?_⟩⟩
    ·rw[dF,E' ga]; rfl
    ·simp only[Zt,Xe,ZQ,Ig,List.getElem?_cons_succ]; omega
   ·rw[dF,C' (by rw[ga]; decide)]; rfl
   ·simp only[Zt,Xe,ZQ,Ig,List.getElem?_cons_succ]; omega
  have Ce1:=Ou Ce1;have hi8:i=8:=Qo;subst hi8;rw[show 12+8=20 from rfl,hlm];have hsh:=hp4.sh (g:=(k:Int)) (c:=c) Qo RM c0 cS;have br:=zba pZ (k:=(k:Int)) c0 Qo hK0;refine⟨λgl=>?_,λgl=>?_⟩
  ·have hb:Zx W2 (k:Int) c 20=true:=Ir λhb=>by rw[C' hb] at gl; revert gl; decide
   rw[E' hb];have e1:=lJ.own.Bg3 (k:=(k:Int)) (c:=c) Qo Qo c0 cS (j:=0) (vs:=[I (if Z5 W2 (k:Int) c 20>(Qb W2 (k:Int) c).floor then Z5 W2 (k:Int) c 20 else (Qb W2 (k:Int) c).floor)]) (s:={ Qb W2 (k:Int) c with floor:=if Z5 W2 (k:Int) c 20>(Qb W2 (k:Int) c).floor then Z5 W2 (k:Int) c 20 else (Qb W2 (k:Int) c).floor }) rfl Qs
   have heq:Rx W2 (k:Int) c { Qb W2 (k:Int) c with floor:=if Z5 W2 (k:Int) c 20>(Qb W2 (k:Int) c).floor then Z5 W2 (k:Int) c 20 else (Qb W2 (k:Int) c).floor }=QQ W c (k+1):=by
    rw[Ww]
    by_cases hgt:Z5 W2 (k:Int) c 20>(Qb W2 (k:Int) c).floor
    ·rw[E' hgt,E' (show (gi W2.IE (k:Int)).used=true/\Zx W2 (k:Int) c 20=true/\_>_ from ⟨g,hb,hgt⟩)]; rfl
    ·rw[C' hgt,C' (λh=>hgt h.2.2)];exact zpc Qo RM c0 cS
   have vA:Qa (Rx W2 (k:Int) c { Qb W2 (k:Int) c with floor:=if Z5 W2 (k:Int) c 20>(Qb W2 (k:Int) c).floor then Z5 W2 (k:Int) c 20 else (Qb W2 (k:Int) c).floor }) m=Qa W2 m:=UL (UW Qo RM).fr;refine⟨_,Zw hp4 Qo RM c0 cS,_,Zw hp4 Qo RM c0 cS,hsh.1,_,hsh.2 (j:=0) rfl,hsh.1,lJ.own.CC4 lJ.nb Qo Qo c0 cS (j:=0) Qd,⟨Qo,Qo⟩,λw5 Sy _=>Qt (w1:=w2) Qo ⟨Qo,?_⟩⟩;rw[<-heq];exact(lJ.SH e1 (zq8 Qo Qo) vA).step Sy
  ·have hb:¬Zx W2 (k:Int) c 20=true:=λhb=>by
    rw[E' hb] at gl;have:=Ou gl;omega
   refine⟨⟨Qo,Qo⟩,λw5 Sy _=>Qt (w1:=w2) Qo ⟨Qo,?_⟩⟩;rw[Ww,C' (λh=>hb h.2.1)];exact lJ.step Sy
 ·have RN:=Ou RN;rw[hN8 Qo];exact λw3 Rb=>⟨rfl,(aB.step Rb).close⟩
theorem Mp.nil{w0 w:Wo}{m0:MW}(h:Mp base pb [] w0 m0 w W m){w':Wo}(hx:Q0 [] w w'):Mp base pb [] w0 m0 w' W m:=h.step hx
theorem D9{K:Int}(h:PW base pb w W m)(mC:SW K W)(hK0:0<=K)(hK:K+Vj<=100000000000000000) :
  Cz XU #[.pointer (pA pb)] w λe w'=>e=.returned (.tuple #[])/\Mp base pb [] w m w' (Qg W) m:=by
 refine(HG (pA pb) (R:=λv w'=>v=.tuple #[]/\Mp base pb [] w m w' (Qg W) m) ?_).mono λe w' ⟨v,he,hv,h3⟩=>⟨by rw[he,hv],h3⟩
 have cP:=mC.a.gl;have Cd0:=mC.a.c2;simp only[Vj,Qj] at hK;have hp0:=(Mp.start h).wpt;refine⟨hp0.some,_,_,_,hp0.IF,?_⟩;refine XN W.IF.length 0 rfl (λk w1=>k<=W.IF.length/\Mp base pb [] w m w1 (Y2 W k) m) (λw1 RZ _=>⟨Ie _,(Mp.start h).R5 RZ⟩) λk w1 dK ⟨hk,hM⟩=>?_
 obtain⟨hS,hO⟩:=Oq (F:=K) (K:=K+Qj) (mC.sf.mono (I3 _) (by simp only[Qj]; omega)) (I3 _) k hk;have Ww:Y2 W (k+1)=QL (Y2 W k) (k:Int):=rfl;have tX:k=W.IF.length->Y2 W W.IF.length=Y2 W k:=λe=>by rw[e]
 obtain⟨n1,n2,n3⟩:=L2 hO.fr;generalize Y2 W k=W1 at hM hS hO Ww tX n1 n2 n3;refine⟨λIU=>⟨_,_,JD,λM' RZ We=>?_⟩,λRN=>?_⟩
 ·have IU:=Ot IU;have hM1:=hM.nil RZ;refine I4 (PE hM1.pw hS Qo (by simp only[Qj]; omega) (c:=(k:Int)) Qo Qo) ?_;rintro e Rr ⟨he,hy⟩;refine⟨he,Y6,⟨Qo,Qo⟩,λw3 Rb _=>Qt Qo ⟨Qo,?_⟩⟩;rw[Ww];exact(hM1.call hy Qs).nil Rb
 have RN:=Ou RN;have tX:=tX Qo;have SI:Qg W=XC (Ll W1) W.IF.length:=by unfold Qg; rw[tX]
 have hp1:=hM.wpt;refine⟨hp1.some,_,_,_,hp1.IE,?_⟩;refine XN W1.IE.length 0 rfl (λg w2=>g<=8/\Mp base pb [] w m w2 (Yi W1 g) m) (λw2 R2 _=>⟨Qd,hM.nil R2⟩) λg w2 We ⟨hg8,aB⟩=>?_
 obtain⟨pZ,oZ⟩:=Vn hS g hg8;have AP0:Yi W1 (g+1)=if (gi (Yi W1 g).IE (g:Int)).used=true/\(gi (Yi W1 g).IE (g:Int)).IQ.IZ≠0 then ZZ (Yi W1 g) (g:Int) (Yi W1 g).IF.length else Yi W1 g:=rfl;have AV2:g=8->Ll W1=Yi W1 g:=λe=>by rw[e]; rfl
 have hf2:=hO.fr.trans oZ.fr;generalize Yi W1 g=W2 at aB pZ oZ AP0 AV2 hf2;obtain⟨q1,q2,q3⟩:=L2 hf2;have gV:=aB.wpt;refine⟨λIU=>?_,λbS=>?_⟩
 ·have IU:=Ot IU;have RM:(g:Int)<(W2.IE.length:Int):=Qo;have hrl:=gV.rd.g.Ck7 (i:=(g:Int)) Qo RM;refine⟨gV.some,_,_,_,gV.IE,gV.rd.g.ix Qo RM,_,_,_,hrl,?_⟩
  by_cases hq:(gi W2.IE (g:Int)).used=true/\(gi W2.IE (g:Int)).IQ.IZ≠0
  ·rw[E' hq] at AP0;have hu:Q6 W2.IE (g:Int)=true:=Q5.2 ⟨Qo,RM,hq.1⟩;have hbl:=((pZ.w.a.u hu).2.2.IQ hq.2).2.1;refine XN (gi W2.IE (g:Int)).IQ.locals.length 0 rfl (λc w3=>c<=W2.IF.length/\Mp base pb [] w m w3 (ZZ W2 (g:Int) c) m) (λw3 Rb _=>⟨Ie _,aB.nil Rb⟩) λc w3 iB ⟨hc,kQ⟩=>?_
   obtain⟨hS3,hO3,hq3⟩:=Gk pZ hu hq.2 c hc;have AF5:ZZ W2 (g:Int) (c+1)=if gi (gi (ZZ W2 (g:Int) c).IE (g:Int)).IQ.locals (c:Int)>0/\QV (ZZ W2 (g:Int) c) (g:Int) (c:Int)=false then RP (ZZ W2 (g:Int) c) (g:Int) (Y5 (gi (ZZ W2 (g:Int) c).IE (g:Int)).IQ (c:Int)) else ZZ W2 (g:Int) c:=rfl;have CG6:c=W2.IF.length->Yi W1 (g+1)=ZZ W2 (g:Int) c:=λe=>by rw[AP0,e]
   have hu3:Q6 (ZZ W2 (g:Int) c).IE (g:Int)=true:=by rw[hO3.g.fD]; exact hu
   have hf3:=hf2.trans hO3.fr;generalize ZZ W2 (g:Int) c=W3 at kQ hS3 hO3 hq3 AF5 CG6 hu3 hf3;obtain⟨r1,r2,r3⟩:=L2 hf3;obtain⟨u0,u1,mB⟩:=hS3.w.a.u hu3;obtain⟨hb3,C17,_⟩:=mB.IQ hq3;have Al8:(g:Int)<(W3.IE.length:Int):=Qo;have hp3:=kQ.wpt;have hLo:=hp3.rd.g.locals (g:Int) Qo Al8;refine⟨λmL=>?_,λAV5=>?_⟩
   ·have mL:=Ot mL;have CA5:=hLo.ix JH (i:=(c:Int)) Qo Qo;rw[C17,r1,<-q1,<-hbl] at CA5;have A85:=K5 (g:=(g:Int)) (c:=(c:Int)) hp3 hS3.w.a Qo Qo;refine⟨CA5,_,hLo (c:Int) Qo Qo,_,_,λ_=>JD,_,λ_=>A85,λg3 RQ Sy _=>?_,λg3=>?_⟩
    ·simp only[A',Ik,ID] at g3;rw[E' g3] at AF5;have hM5:=kQ.nil Sy;have B02:Zj 8 base RQ (RP W3 (g:Int) (gi W3.IE (g:Int)).IQ) m:=by rw[zdy Qo Al8]; exact hM5.own
     refine I4 (zsg (op:=⟨3,(c:Int),0⟩) B02 Qo Qo hb3) ?_;rintro e1 Wx ⟨jG,hB,hX⟩
     have gL:ZK (gi W3.IE (g:Int)).IQ ⟨3,(c:Int),0⟩=(Y5 (gi W3.IE (g:Int)).IQ (c:Int),0):=by
      unfold ZK;rw[C' (show ¬(3:Int)=4 by decide),C' (by rw[Qu.2 (by show 0<=(c:Int)/\(c:Int)<=_; omega)]; decide),C' (show ¬(3:Int)=1 by decide),C' (show ¬(3:Int)=2 by decide),E' rfl]
     rw[gL] at jG hB
     dsimp only at jG hB
     refine⟨_,jG,Y6,⟨Qo,Qo⟩,λw6 aS _=>Qt Qo ⟨Qo,?_⟩⟩;rw[AF5];exact(hM5.SH hB hX (UL (Ni Qo Al8).fr)).nil aS
    ·refine⟨⟨Qo,Qo⟩,λw6 aS _=>Qt Qo ⟨Qo,?_⟩⟩;rw[AF5,C']
     ·exact kQ.nil aS
     ·rintro⟨h1,h2⟩;rw[h2,Ii h1] at g3;cases g3
   ·have AV5:=Ou AV5;refine⟨⟨Qo,Qo⟩,λw6 aS _=>Qt Qo ⟨Qo,?_⟩⟩;rw[CG6 Qo];exact kQ.nil aS
  ·rw[C' hq] at AP0
   have hz:(gi W2.IE (g:Int)).IQ.locals.length=0:=by
    have hgp:=pZ.w.a.grp (g:Int) Qo Qo
    cases hu:(gi W2.IE (g:Int)).used with
    | false=>exact(GE (hgp.1 hu).b).2.2.2.1
    | true=>
     have h0:(gi W2.IE (g:Int)).IQ.IZ=0:=Ir λhn=>hq ⟨hu,hn⟩
     exact(GE ((hgp.2 hu).none h0).1).2.2.2.1
   rw[hz];refine XN 0 0 rfl (λc w3=>c<=0/\Mp base pb [] w m w3 W2 m) (λw3 Rb _=>⟨Ie _,aB.nil Rb⟩) λc w3 iB ⟨hc,kQ⟩=>⟨λmL=>?_,λ_=>⟨⟨Qo,Qo⟩,λw6 aS _=>Qt Qo ⟨Qo,?_⟩⟩⟩
   ·have:=Ot mL;omega
   ·rw[AP0];exact kQ.nil aS
 have bS:=Ou bS;have AV2:=AV2 Qo;rw[AV2] at SI;have hS4:SW (K+Qj) W2:=pZ.w;refine⟨gV.some,_,_,_,gV.IF,?_⟩;refine XN W2.IF.length 0 rfl (λk w3=>k<=W2.IF.length/\Mp base pb [] w m w3 (XC W2 k) m) (λw3 Rb _=>⟨Ie _,aB.nil Rb⟩) λk w3 iB ⟨hk,uV⟩=>?_
 obtain⟨hS7,hf7⟩:=KH hS4 (by simp only[Qj]; omega) k hk;have AV1:XC W2 (k+1)=Ul (XC W2 k) (k:Int):=rfl;have AV3:k=W2.IF.length->Qg W=XC W2 k:=λe=>by rw[SI,<-q1,e]
 have hfW:=hf2.trans hf7;obtain⟨q1,q2,q3⟩:=L2 hfW;generalize XC W2 k=W7 at uV hS7 hf7 AV1 AV3 hfW q1 q2 q3;refine⟨λIU=>⟨_,_,JD,λb hb S6 AF8 pD=>?_⟩,λRN=>?_⟩
 ·have IU:=Ot IU;have hM9:=(uV.add hb).R5 AF8;have hk4:(k:Int)<=4:=Qo;have uD:(k:Int)<(W7.IF.length:Int):=Qo;have hSF:=hS7.sf.mono (F':=K+Qj+(k:Int)*Qj) (K':=K+Qj+(k:Int)*Qj+Qj) (I3 _) (by simp only[Qj]; omega);refine I4 (PE hM9.pw hSF (I3 _) (by simp only[Qj]; omega) (c:=(k:Int)) Qo uD) ?_;rintro e2 dU ⟨aT,SE⟩;obtain⟨hS8,hO8⟩:=Hb hSF (I3 _) (c:=(k:Int)) Qo uD;have hM8:=hM9.call SE pD;refine⟨aT,hM9.kept SE pD,λS9 AF9 wP=>?_⟩;have BT4:=hM8.step AF9;have dF:Ul W7 (k:Int)=if Me (Zb (QL W7 (k:Int)) (k:Int)) (k:Int)=true then Ry (Zb (QL W7 (k:Int)) (k:Int)) (k:Int) else Zb (QL W7 (k:Int)) (k:Int):=rfl;have c2':(k:Int)<((QL W7 (k:Int)).IF.length:Int):=by rw[hO8.c]; exact uD
  refine I4 (zl7 BT4.pw hS8.w (by simp only[Qj]; omega) (by simp only[Qj]; omega) (c:=(k:Int)) Qo c2') ?_;rintro e3 rJ ⟨gP,jL⟩;obtain⟨CN6,CN5⟩:=O3 hS8.w (by simp only[Qj]; omega) (c:=(k:Int)) Qo c2' 8 Qd;have Al7:=BT4.call jL wP;have BT2:=BT4.kept jL wP;have Bl4:Fr W (Zb (QL W7 (k:Int)) (k:Int)):=(hfW.trans hO8.fr).trans CN5.fr;have uW:SW (K+Qj+(k:Int)*Qj+Qj) (Zb (QL W7 (k:Int)) (k:Int)):=CN6;generalize Zb (QL W7 (k:Int)) (k:Int)=W11 at Al7 Bl4 uW dF;obtain⟨r1,r2,r3⟩:=L2 Bl4;have hp:=Al7.wpt;have c3':(k:Int)<(W11.IF.length:Int):=Qo;have sP:=uW.cu (k:Int) Qo c3';have fH:=uW.a.t
  have hT:((gi W11.IF (k:Int)).cur != -1)=true->0<=(gi W11.IF (k:Int)).cur/\(gi W11.IF (k:Int)).cur<(W11.tasks.length:Int):=λg=>by
   have:(gi W11.IF (k:Int)).cur≠-1:=by simpa using g
   exact⟨Qo,Qo⟩
  have CA1:=L3 (c:=(k:Int)) hp Qo c3';have CI6:=KG (n:=Int.toNat (k:Int)*5) (hp.rd.c (k:Int) Qo c3');have Wd:=G3 (hp.rd.c (k:Int) Qo c3') (j:=1) rfl
  have CG9:Me W11 (k:Int)=(((gi W11.IF (k:Int)).cur != -1) && !(((Q9 W11 (gi W11.IF (k:Int)).cur).R3==(k:Int))&&ZL W11 (gi W11.IF (k:Int)).cur)):=by
   unfold Me
   have e:decide ((gi W11.IF (k:Int)).cur>=0)=((gi W11.IF (k:Int)).cur != -1):=by
    by_cases hc:(gi W11.IF (k:Int)).cur = -1
    ·rw[hc]; rfl
    ·rw[Iu.2 hc,Ii Qo]
   rw[e,Bool.not_and];rfl
  refine⟨gP,BT2,_,CA1,CI6,_,Wd,_,λ_=>CA1,λ_=>CI6,_,λ_=>Wd,_,λg=>D7 hp uW.a (hT g).1 (hT g).2 Qo c3' (λhs=>(uW.li (hT g).1 (hT g).2 hs).1),λg Sr vE AW0=>?_,λg=>?_⟩
  ·have BT5:=Al7.step vE;refine I4 (Om BT5.pw (c:=(k:Int)) Qo c3') ?_;rintro e4 pU ⟨he4,kJ⟩;refine⟨he4,BT5.kept kJ AW0,⟨Qo,Qo⟩,λw6 aS _=>Qt Qo ⟨Qo,?_⟩⟩;rw[AV1,dF,E' (by rw[CG9]; exact g)];exact((BT5.call kJ AW0).step aS).close
  ·refine⟨⟨Qo,Qo⟩,λw6 aS _=>Qt Qo ⟨Qo,?_⟩⟩;rw[AV1,dF,C' (by rw[CG9,g]; decide)];exact(Al7.step aS).close
 ·have RN:=Ou RN;rw[AV3 Qo];exact λw9 lQ=>⟨rfl,uV.nil lQ⟩
end
section
variable {b:JB}{m:MG}{w:Wo}
theorem zom(h1:znt [] w m.lO b.locals)(h2:ztv [] w m.dO b.Rz)(l1:b.locals.length<=1048576)(l2:b.Rz.length<=1048576) :
  Cz O5 #[.agg (Z2 b m).toArray] w λe w'=>∃p,e=.returned (.agg (Z2 b p).toArray)/\Z6 w.heap.size w' b p/\Q0 [] w w':=by
 refine(AO b.IZ b.RJ b.SB m.lO b.locals.length m.lC m.dO b.Rz.length m.dC (R:=λv w'=>∃p,v=.agg (Z2 b p).toArray/\Z6 w.heap.size w' b p/\Q0 [] w w') ?_).mono λe w' ⟨v,he,p,hv,h3⟩=>⟨p,by rw[he,hv],h3⟩
 have hm9:=Zl;intro x hx x5 Sy wr wB hs0;have s0:Sc w [x,x5] wr:=(((Sc.start w).add hx).add Sy).R5 wB;refine⟨_,_,_,_,Kc Yb P6 b.locals.length Qo Qo wr,Qe (Z9 _ _) hs0,λM' RZ dK=>?_⟩;have hL0:Ob Jn 1 Qc wr.heap.size [x,x5] _ (some ⟨wr.heap.size,0,none⟩) b.locals.length (List.replicate b.locals.length (0:Int)):=Ob.of (Vq (enc:=Jn) Yb.len Qc b.locals.length (0:Int) wr) hs0;have s1:=(s0.R5 (Z9 wr (.cells ((List.replicate b.locals.length (0:Int)).flatMap Jn).toArray Qc))).step RZ;have hL1:=hL0.step RZ;obtain⟨n1,w2,BF5,hL2,dG⟩:=zq0 Yb P6 z1q Qd (c2:=m.lC) hL1.own (h1.ext s1.ext) (m:=b.locals) Qs Qc #[false,false];rw[List.length_replicate] at BF5;have s2:=s1.call dG λy hy=>IB s0.ext.size (hL1.own.lt y hy).1
 have C00:Ob Jn 1 Qc wr.heap.size [x,x5] w2 (some ⟨wr.heap.size,0,none⟩) b.locals.length b.locals:=⟨hL2,hL1.nb⟩;refine⟨_,_,BF5,Gw dG dK hL1.nb,λO' R2 We=>⟨_,_,_,_,Kc Yu KJ b.Rz.length Qo Qo O',Qe (Z9 _ _) We,λRq Rb iB=>?_⟩⟩;have s3:=((s2.step R2).R5 (Z9 O' (.cells ((List.replicate b.Rz.length false).flatMap M0).toArray Ye))).step Rb;have hL3:=((C00.step R2).R5 (Z9 O' (.cells ((List.replicate b.Rz.length false).flatMap M0).toArray Ye))).step Rb;have hD0:Ob M0 1 Ye O'.heap.size [x,x5] _ (some ⟨O'.heap.size,0,none⟩) b.Rz.length (List.replicate b.Rz.length false):=Ob.of (Vq (enc:=M0) Yu.len Ye b.Rz.length false O') We;have hD1:=hD0.step Rb;obtain⟨n2,w4,BF6,hD2,SE⟩:=zq0 Yu KJ z2v Qd (c2:=m.dC) hD1.own (h2.ext s3.ext) (m:=b.Rz) Qs Qc #[false,false];rw[List.length_replicate] at BF6;have hz2:w.heap.size<=O'.heap.size:=(s2.step R2).ext.size;have s4:=s3.call SE λy hy=>IB hz2 (hD1.own.lt y hy).1
 have hL4:=hL3.call SE (hL3.own.Wf hD1.own Qd);have hD3:Ob M0 1 Ye O'.heap.size [x,x5] w4 (some ⟨O'.heap.size,0,none⟩) b.Rz.length b.Rz:=⟨hD2,hD1.nb⟩;exact⟨_,_,BF6,Gw SE iB hD1.nb,λRw SZ=>⟨⟨some ⟨wr.heap.size,0,none⟩,b.locals.length,some ⟨O'.heap.size,0,none⟩,b.Rz.length,none,0⟩,rfl,⟨(hL4.step SZ).own.mono s0.ext.size,(hD3.step SZ).own.mono hz2⟩,(s4.step SZ).ext⟩⟩
end
theorem FX{α:Type}[Inhabited α]{P:Program}{enc:α->List Va}{z:Nat}{ty t:TypeId}{bytes:Nat}{zero:α}(E:zpr P enc z ty bytes zero)(ht:P.underlying t=some (.slice ty))(B01:∀x,Zm (enc x)=true)(hz0:0<z){w:Wo}{o:OA}{c:Nat}{l:List α}(h:Rd enc z [] w o l)(hl:l.length<=1048576)(hby:bytes<=1000)(tr:TypeId)(cs:Array Bool) :
  ∃o' c' w',(builtin .append #[t,t] tr cs #[.slice none 0 0,.slice o l.length c]).run P w=.ok (.value (.slice o' l.length c')) w'/\Uo enc z ty w.heap.size w' o' c' l/\Q0 [] w w':=by
 have hO:Uo enc z ty w.heap.size w none 0 ([]:List α):=.inl ⟨rfl,rfl,rfl⟩
 have hbb:(2*(([]:List α).length+l.length))*bytes<=281474976710656:=by
  rw[List.length_nil,Nat.zero_add];exact IB (Nat.mul_le_mul (show 2*l.length<=2097152 by omega) hby) Qd
 obtain⟨o',c',w',h1,h2,h3,_⟩:=zqz E ht hO (zwq E.len B01 ht h (c:=c) hz0) hbb (by rw[List.length_nil]; omega) tr (I8 _);rw[List.length_nil,Nat.zero_add] at h1;exact⟨o',c',w',zbc h1,h2,h3⟩
theorem zmu(W:Q7)(ms:Nat->MG)(n k:Nat)(hk:k<n)(p:MG):(TR W ms n).set k (gi W.IE (k:Int),p)=TR W (λj=>if j=k then p else ms j) n:=by
 refine zoi (by rw[H',X5,X5]) λj hj=>?_
 rw[H',X5] at hj;have:=QG (TR W ms n) (gi W.IE (k:Int),p) (i:=(k:Int)) Qo (by rw[X5]; omega) (j:=(j:Int)) Qo;rw[Ih] at this;rw[this,Hi Qo Qo,Hi Qo Qo]
 by_cases e:k=j
 ·subst e; simp
 ·rw[C' Qo,C' (by simp; omega)]
theorem zo1(W:Q7){ms ms':Nat->MG}{n:Nat}(h:∀j,j<n->ms j=ms' j):TR W ms n=TR W ms' n:=by
 unfold TR;exact List.map_congr_left λj hj=>by rw[h j (List.mem_range.1 hj)]
section
variable {W:Q7}{m:MW}{w:Wo}
theorem NW(h:Xg [] w W m)(ha:WA W) :
  Cz Ud #[.agg (Qa W m).toArray] w λe w'=>∃m',e=.returned (.agg (Qa W m').toArray)/\Zj 8 w.heap.size w' W m'/\Q0 [] w w':=by
 refine(BL _ _ _ _ _ _ _ _ _ _ (R:=λv w'=>∃m',v=.agg (Qa W m').toArray/\Zj 8 w.heap.size w' W m'/\Q0 [] w w') ?_).mono λe w' ⟨v,he,m',hv,h3⟩=>⟨m',by rw[he,hv],h3⟩
 have tP:=ha.c2;have fH:=ha.t;have cP:=ha.gl;intro x hx x1 RZ x2 R2 wr wB hs0;have s0:Sc w [x,x1,x2] wr:=((((Sc.start w).add hx).add RZ).add R2).R5 wB;obtain⟨cO,cC,w1,BF5,hC1,dG⟩:=FX KX Ke z1p Qd (c:=m.cC) (h.c.ext s0.ext) Qo Qd Zs #[false,false];refine⟨_,_,_,_,BF5,Qe dG hs0,λM' Cj4 dK=>?_⟩;have s1:=(s0.R5 dG).step Cj4;have hC2:=(Ob.of hC1 hs0).step Cj4;obtain⟨tO,tC,w2,BF6,hT1,SE⟩:=FX OZ Mw z2x Qd (c:=m.tC) (h.t.ext s1.ext) Qo Qd Z4 #[false,false];refine⟨_,_,_,_,BF6,Qe SE dK,λO' CR7 We=>?_⟩;have s2:=(s1.R5 SE).step CR7;have hC3:=(hC2.R5 SE).step CR7;have hT3:=(Ob.of hT1 dK).step CR7
 have hrp:Rd TP 14 [] O' m.gO (TR W m.ms 8):=λi h0 hi=>by
  rw[X5] at hi;rw[Hi h0 hi];exact(h.g.ext s2.ext).cells i h0 Qo
 obtain⟨gO,gC,w3,B06,hG1,jL⟩:=FX Yf Ps (λp=>z2w p.1 p.2) Qd (c:=m.gC) hrp (by rw[X5]; decide) Qd QA #[false,false];rw[X5] at B06;have B07:(builtin .append #[QA,QA] QA #[false,false] #[.slice none 0 0,.slice m.gO W.IE.length m.gC]).run Tryz.prog O'=.ok (.value (.slice gO W.IE.length gC)) w3:=by rw[cP]; exact B06
 have z1:w.heap.size<=M'.heap.size:=s1.ext.size;have z2:w.heap.size<=O'.heap.size:=s2.ext.size;have s3:=s2.R5 jL;have hC4:=(hC3.R5 jL).mono s0.ext.size;have hT4:=(hT3.R5 jL).mono z1;have hG4:=Ob.of hG1 We
 refine⟨_,_,_,_,B07,Qe jL We,λvs w4=>∃(k:Nat) (ms:Nat->MG),vs=[I (k:Int)]/\k<=8/\Sc w [x,x1,x2] w4/\O'.heap.size<=w4.heap.size/\Ob KY 5 ZD w.heap.size [x,x1,x2] w4 cO cC W.IF/\Ob YK 9 QK w.heap.size [x,x1,x2] w4 tO tC W.tasks/\Ob TP 14 QP O'.heap.size [x,x1,x2] w4 gO gC (TR W ms 8)
   /\ (∀j,j<k->PI O'.heap.size w4 (gi W.IE (j:Int),ms j)/\∀y∈Qn (ms j),y∉[x,x1,x2])/\(∀i j,i<k->j<k->i≠j->∀y∈Qn (ms i),y∉Qn (ms j))/\(∀j,k<=j->ms j=m.ms j),
  Zt W.IE.length 0,λw4 SZ _=>⟨0,m.ms,rfl,Qd,s3.step SZ,IB jL.size SZ.size,hC4.step SZ,hT4.step SZ,hG4.step SZ,λj hj=>by omega,λi j hi=>by omega,λj _=>rfl⟩,?_⟩
 clear s3 hC4 hT4 hG4 hG1 hrp B06 B07 hC3 hT3 hC2 hT1 BF5 BF6 hC1;rintro x9 S3 iB ⟨k,ms,he,hk,s3,z3,hC,hT,hG,hE,hJ,hF⟩;simp only[I5,I6,true_and,and_true] at he;subst he;refine⟨λIU=>?_,λRN=>?_⟩
 ·have IU:=Ot IU;have hrb:Li [x,x1,x2] S3 m.gO W.IE m.ms:=(h.g.wide (cs:=[x,x1,x2]) λy hm=>.inr (s3.new y hm)).ext s3.ext.of_nil;have Wl:=hrb.ix (i:=(k:Int)) Qo IU;obtain⟨bl1,bl2,bl3⟩:=Kj ha (k:=(k:Int)) Qo Qo;refine⟨Wl,_,_,_,_,_,_,_,_,_,_,_,_,_,_,_,_,_,_,_,_,hrb.cells (k:Int) Qo IU,λb3 hb3 Rw SZ gY=>?_⟩;have s4:=s3.put SZ hb3;have hC4:=hC.put SZ hb3;have hT4:=hT.put SZ hb3;have hG4:=hG.put SZ hb3;have hr4:=h.g.ext s4.ext;have z4:O'.heap.size<=Rw.heap.size:=IB z3 SZ.size;refine I4 (zom (hr4.locals (k:Int) Qo IU) (hr4.Rz (k:Int) Qo IU) Qo Qo) ?_;rintro e aF ⟨p,he,hB,kJ⟩;have s5:=s4.R5 kJ;have hC5:=hC4.R5 kJ;have hT5:=hT4.R5 kJ;have hG5:=hG4.R5 kJ;have uF:gi (TR W ms 8) (k:Int)=(gi W.IE (k:Int),ms k):=by rw[Hi Qo Qo,Ih]
  have hmk:ms k=m.ms k:=hF k (I8 _);have hBn:∀y∈ZP p,Rw.heap.size<=y:=λy hm=>(hB.lt y hm).1
  have e1:=hG5.own.R9 Yf.len (i:=(k:Int)) Qo (by rw[X5]; omega) (j:=8) (vs:=Z2 (gi W.IE (k:Int)).IQ p) (x:=(gi W.IE (k:Int),TT (ms k) p)) (by rw[uF]; rfl) (by simp[Z2]);have Ce2:=hG5.own.ix (i:=(k:Int)) Qo (by rw[X5]; omega);have Ce5:=hG5.own.wr Yf.len hG5.nb (i:=(k:Int)) Qo (by rw[X5]; omega) (j:=8) (n:=5) Qd;rw[X5] at Ce2;have CG8:Ix gO W.IE.length (k:Int):=by rw[cP]; exact Ce2
  simp only[Ih] at e1 Ce5;rw[zmu W ms 8 k Qo] at e1;refine⟨_,_,_,_,_,_,_,_,_,he,Qe kJ gY,rfl,CG8,Ce5,λRQ Sy mM=>?_⟩;have hX5:=hG5.own.rD (k*14+8) (Z2 (gi W.IE (k:Int)).IQ p);have s6:=(s5.call hX5 λy hy=>IB z2 (hG5.own.lt y hy).1).step Sy;have hC6:=(hC5.call hX5 (hC5.own.Wf hG5.own Qd)).step Sy;have hT6:=(hT5.call hX5 (hT5.own.Wf hG5.own Qd)).step Sy;have hG6:Ob TP 14 QP O'.heap.size ([x,x1,x2]++[b3]) RQ gO gC (TR W (λj=>if j=k then TT (ms k) p else ms j) 8):=(⟨e1,hG5.nb⟩:Ob TP 14 QP O'.heap.size ([x,x1,x2]++[b3]) _ gO gC _).step Sy
  have B90:∀y∈ZP p,y∉[x,x1,x2]++[b3]:=λy hm gX=>by
   have:=hBn y hm;have:=gY y gX;omega
  have hBg:∀y∈ZP p,y∉QE gO:=λy hm gX=>by
   have:=hBn y hm;have:=(hG4.own.lt y gX).2;omega
  have hB6:=(hB.ext hX5 hBg).ext Sy B90;have z5:Rw.heap.size<=RQ.heap.size:=IB (IB kJ.size hX5.size) Sy.size;obtain⟨sO,sC,w6,Ci1,hS6,hy6⟩:=FX T1 Pt z1r Qd (c:=(m.ms k).sC) ((h.g.ext s6.ext).IG (k:Int) Qo IU) Qo Qd Za #[true,false];have s7:=s6.R5 hy6;have hC7:=hC6.R5 hy6;have hT7:=hT6.R5 hy6;have hG7:=hG6.R5 hy6;have hB7:=hB6.WQ hy6
  have C30:gi (TR W (λj=>if j=k then TT (ms k) p else ms j) 8) (k:Int)=(gi W.IE (k:Int),TT (ms k) p):=by
   rw[Hi Qo Qo,Ih,E' rfl]
  have e2:=hG7.own.R9 Yf.len (i:=(k:Int)) Qo (by rw[X5]; omega) (j:=13) (vs:=[.slice sO (gi W.IE (k:Int)).IG.length sC]) (x:=(gi W.IE (k:Int),⟨p.lO,p.lC,p.dO,p.dC,sO,sC⟩)) (by rw[C30]; rfl) Qs;have CH0:=hG7.own.wr Yf.len hG7.nb (i:=(k:Int)) Qo (by rw[X5]; omega) (j:=13) (n:=1) Qd;simp only[Ih] at e2 CH0;rw[zmu _ _ 8 k Qo] at e2
  have C48:TR W (λj=>if j=k then (⟨p.lO,p.lC,p.dO,p.dC,sO,sC⟩:MG) else if j=k then TT (ms k) p else ms j) 8=TR W (λj=>if j=k then (⟨p.lO,p.lC,p.dO,p.dC,sO,sC⟩:MG) else ms j) 8:=zo1 W λj _=>by
   by_cases e:j=k
   ·rw[E' e,E' e]
   ·rw[C' e,C' e,C' e]
  rw[C48] at e2;have hX7:=hG7.own.rD (k*14+13) [.slice sO (gi W.IE (k:Int)).IG.length sC];refine⟨_,_,_,_,Ci1,Qe hy6 mM,rfl,CG8,CH0,⟨Qo,Qo⟩,λw9 lQ _=>⟨⟨k+1,λj=>if j=k then (⟨p.lO,p.lC,p.dO,p.dC,sO,sC⟩:MG) else ms j,rfl,Qo,?_,?_,?_,?_,?_,?_,?_,?_⟩,?_⟩⟩
  ·exact((s7.call hX7 λy hy=>IB z2 (hG7.own.lt y hy).1).step lQ).sub Qs
  ·exact IB (IB (IB (IB z4 z5) hy6.size) hX7.size) lQ.size
  ·exact((hC7.call hX7 (hC7.own.Wf hG7.own Qd)).step lQ).sub Qs
  ·exact((hT7.call hX7 (hT7.own.Wf hG7.own Qd)).step lQ).sub Qs
  ·exact((⟨e2,hG7.nb⟩:Ob TP 14 QP O'.heap.size ([x,x1,x2]++[b3]) _ gO gC _).step lQ).sub Qs
  ·intro j hj;have hSn:∀y∈QE sO,RQ.heap.size<=y:=λy hm=>(hS6.lt y hm).1
   by_cases e:j=k
   ·subst e;simp only[if_true]
    have Cb8:∀y∈QE sO,y∉[x,x1,x2]++[b3]:=λy hm gX=>by
     have:=hSn y hm;have:=mM y gX;omega
    have hO9:PI O'.heap.size w9 (gi W.IE (j:Int),⟨p.lO,p.lC,p.dO,p.dC,sO,sC⟩):=by
     have hB9:=((hB7.ext hX7 hBg).ext lQ B90).mono z4;exact⟨hB9.loc,hB9.Rz,(((hS6.ext hX7 (hS6.Wf hG7.own Qd)).ext lQ Cb8)).mono (IB z4 z5)⟩
    refine⟨hO9,λy hm gX=>?_⟩;have CP7:y∈[x,x1,x2]++[b3]:=Ib _ gX;simp only[Qn,Io] at hm;rcases hm with (hm | hm) | hm
    ·exact B90 y (Ib _ hm) CP7
    ·exact B90 y (Iy _ hm) CP7
    ·exact Cb8 y hm CP7
   ·dsimp only
    rw[C' e];obtain⟨hm1,hm2⟩:=hE j Qo;refine⟨?_,hm2⟩
    have Cg5:∀y∈Qn (ms j),y∉[x,x1,x2]++[b3]:=λy hm gX=>by
     rcases Io.1 gX with h1 | h1
     ·exact hm2 y hm h1
     ·have:y=b3:=by simpa using h1
      have:=(hm1.lt y hm).2;omega
    have hgg:∀y∈Qn (ms j),y∉QE gO:=XZ (p:=(gi W.IE (j:Int),ms j)) hG.own hm1;exact((((((hm1.ext SZ hm2).WQ kJ).ext hX5 hgg).ext Sy Cg5).WQ hy6).ext hX7 hgg).ext lQ Cg5
  ·intro i j hi hj hij y hm gX
   dsimp only at hm gX
   have qD:∀y∈Qn (⟨p.lO,p.lC,p.dO,p.dC,sO,sC⟩:MG),Rw.heap.size<=y:=λy hm=>by
    simp only[Qn,Io] at hm;rcases hm with (hm | hm) | hm
    ·exact hBn y (Ib _ hm)
    ·exact hBn y (Iy _ hm)
    ·exact IB z5 (hS6.lt y hm).1
   have hold:∀j,j<k->∀y∈Qn (ms j),y<Rw.heap.size:=λj hj y hm=>Nat.lt_of_lt_of_le ((hE j hj).1.lt y hm).2 SZ.size
   by_cases e1:i=k
   ·rw[E' e1] at hm
    by_cases e2:j=k
    ·omega
    ·rw[C' e2] at gX;have:=qD y hm;have:=hold j Qo y gX;omega
   ·rw[C' e1] at hm
    by_cases e2:j=k
    ·rw[E' e2] at gX;have:=qD y gX;have:=hold i Qo y hm;omega
    ·rw[C' e2] at gX;exact hJ i j Qo Qo hij y hm gX
  ·intro j hj
   dsimp only
   rw[C' Qo];exact hF j Qo
  ·simp only[Zt,Xe,ZQ,Ig]; omega
 ·have RN:=Ou RN;have hk8:k=8:=Qo;subst hk8;refine λw9 lQ=>⟨⟨cO,cC,tO,tC,gO,gC,ms⟩,rfl,⟨(hC.step lQ).own,(hT.step lQ).own,?_,cP⟩,(s3.step lQ).ext⟩
  have e:zo2 W ⟨cO,cC,tO,tC,gO,gC,ms⟩=TR W ms 8:=by unfold zo2 TR; rw[cP]
  rw[e]
  have hgi:∀i:Int,0<=i->i<((TR W ms 8).length:Int)->i.toNat<8/\gi (TR W ms 8) i=(gi W.IE ((i.toNat:Nat):Int),ms i.toNat):=λi a b=>by
   rw[X5] at b;refine⟨Qo,?_⟩;rw[Hi a b,show ((i.toNat:Nat):Int)=i by omega]
  refine⟨(hG.step lQ).own.mono z2,λi a b=>?_,λi j a b a' b' hij=>?_⟩
  ·obtain⟨c1,c2⟩:=hgi i a b;rw[c2];exact((hE _ c1).1.ext lQ (hE _ c1).2).mono z2
  ·obtain⟨c1,c2⟩:=hgi i a b;obtain⟨d1,d2⟩:=hgi j a' b';rw[c2,d2];exact hJ _ _ c1 d1 Qo
end
end Go.Proofs.YtnclplgaicdapaaGreatDoor
