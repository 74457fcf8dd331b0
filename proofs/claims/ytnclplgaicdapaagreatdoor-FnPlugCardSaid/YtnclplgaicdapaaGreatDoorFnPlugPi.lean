/- Part 9 of what the law FnPlug needs. -/
import Derived.Test.YtnclplgaicdapaaGreatDoorFnPlugPh
set_option linter.unusedVariables false
set_option linter.unusedSimpArgs false
set_option maxRecDepth 100000
set_option maxHeartbeats 8000000
namespace Go.Proofs.YtnclplgaicdapaaGreatDoor
open Go.RowKit
theorem zuj{F K:Int}{W:Q8}(h:SF F K W)(hk:F+Qi<=K){k c d:Int}(hu:Q6 W.IC k=true)(hd:dep 3 W.IC k=d)(d1:1<=d)(c0:0<=c)(c1:c<(W.ID.length:Int)):SF F K (RA W k c (ZS W k c)):=by
 have hz:k≠0:=fun e=>by subst e; rw[ZZ] at hd; omega
 have hp:=h.w.a.up hu hz;have s1:=h.w.s k c hu c0 c1;have s2:=h.w.s _ c hp c0 c1;have f1:=h.f k c hu c0 c1;have f2:=h.f _ c hp c0 c1;have lc:=ZQ ((Qc W k c).v-(Qc W (gi W.IC k).parent c).floor) (Qc W k c).w;have lm:=Y3 (Qc W k c).w;refine h.RA hu c0 c1 s1.1 f1 (by show (Qc W k c).floor<=K; omega) ?_ ?_ s1.2.2.2.2.1 s1.2.2.2.2.2
 ·simp only[ZS]; split <;> omega
 ·simp only[ZS]; simp only[Qi] at hk; split <;> omega
structure U2 (W W':Q8):Prop where
 n:W'.now=W.now
 c:W'.ID=W.ID
 t:W'.tasks=W.tasks
 g:Z2 W.IC W'.IC
 b:∀i:Int,0<=i->(gi W'.IC i).IQ=(gi W.IC i).IQ
 l:∀i:Int,0<=i->(gi W'.IC i).IE.length=(gi W.IC i).IE.length
theorem U2.refl(W:Q8):U2 W W:=⟨rfl,rfl,rfl,Z2.refl _,fun _ _=>rfl,fun _ _=>rfl⟩
theorem U2.trans{A B C:Q8}(h:U2 A B)(k:U2 B C):U2 A C:=⟨k.n.trans h.n,k.c.trans h.c,k.t.trans h.t,h.g.trans k.g,fun i hi=>(k.b i hi).trans (h.b i hi),fun i hi=>(k.l i hi).trans (h.l i hi)⟩
theorem VH{W:Q8}{g c:Int}{s:LI}(h0:0<=g)(h1:g<(W.IC.length:Int)):U2 W (RA W g c s):=⟨rfl,rfl,rfl,XO h0 h1,fun _ hi=>zga h0 h1 hi,fun _ hi=>zha h0 h1 hi⟩
theorem F1{F K:Int}{W:Q8}(h:SF F K W)(hk:F+Qi<=K){c d:Int}(d1:1<=d)(c0:0<=c)(c1:c<(W.ID.length:Int)):∀k:Nat,k<=8->SF F K (Zj W c d k)/\U2 W (Zj W c d k)
 | 0,_=>⟨h,U2.refl _⟩
 | k+1,hk8=>by
  obtain⟨ih,io⟩:=F1 h hk (d:=d) d1 c0 c1 k Qo;have hl:=ih.w.a.gl;simp only[Zj];split
  ·rename_i hc;have hu:Q6 (Zj W c d k).IC (k:Int)=true:=Q4.2 ⟨Qo,Qo,hc.1⟩;exact⟨zuj ih hk hu hc.2 d1 c0 (by rw[io.c]; exact c1),io.trans (VH Qo Qo)⟩
  ·exact⟨ih,io⟩
theorem H5{F K:Int}{W:Q8}(h:SF F K W)(hk:F+Qi<=K){c:Int}(c0:0<=c)(c1:c<(W.ID.length:Int)):∀j:Nat,j<=3->SF F K (YL W c j)/\U2 W (YL W c j)
 | 0,_=>⟨h,U2.refl _⟩
 | j+1,hj=>by
  obtain⟨a1,b1⟩:=H5 h hk c0 c1 j Qo;obtain⟨a2,b2⟩:=F1 a1 hk (c:=c) (d:=3-(j:Int)) Qo c0 (by rw[b1.c]; exact c1) 8 Qo;exact⟨a2,b1.trans b2⟩
theorem H4{F K:Int}{W:Q8}(h:SF F K W)(hk:F+Qi<=K){c:Int}(c0:0<=c)(c1:c<(W.ID.length:Int)):SF F K (QF W c)/\U2 W (QF W c):=H5 h hk c0 c1 3 (I7 _)
def Ya(W:Q8):Nat->Q8
 | 0=>W
 | c+1=>QF (Ya W c) (c:Int)
theorem O6{F K:Int}{W:Q8}(h:SF F K W)(hk:F+Qi<=K):∀c:Nat,c<=W.ID.length->SF F K (Ya W c)/\U2 W (Ya W c)
 | 0,_=>⟨h,U2.refl _⟩
 | c+1,hc=>by
  obtain⟨a,b⟩:=O6 h hk c Qo;obtain⟨a2,b2⟩:=H4 a hk (c:=(c:Int)) Qo (by rw[b.c]; omega);exact⟨a2,b.trans b2⟩
def Ys(b:UM)(c:Int):UM:={ b with Rv:=b.Rv+gi b.locals c,locals:=b.locals.set c.toNat 0,Rw:=if b.Rv+gi b.locals c>0 then List.replicate b.Rw.length false else b.Rw }
theorem Fw(l:List Int)(c:Int)(x:Int)(c0:0<=c)(c1:c<(l.length:Int)):∀k:Nat,UY (l.set c.toNat x) k=UY l k+if c<(k:Int) then x-gi l c else 0
 | 0=>by simp only[UY]; rw[B' Qo]; omega
 | k+1=>by
  simp only[UY];rw[Fw l c x c0 c1 k,QE _ _ c0 c1 Qo]
  by_cases e:c=(k:Int)
  ·subst e;rw[B' Qo,C' rfl,C' Qo]; omega
  ·rw[B' e]
   by_cases h:c<(k:Int)
   ·rw[C' h,C' Qo]; omega
   ·rw[B' h,B' Qo]; omega
theorem zjt{l:List Int}(h:∀c:Int,0<=c->c<(l.length:Int)->0<=gi l c){c:Int}(c0:0<=c):∀k:Nat,k<=l.length->0<=UY l k/\(c<(k:Int)->gi l c<=UY l k)
 | 0,_=>by simp only[UY]; exact⟨Qo,fun h=>by omega⟩
 | k+1,hk=>by
  have ih:=zjt h c0 k Qo;have:=h (k:Int) Qo Qo;simp only[UY];refine⟨Qo,fun hc=>?_⟩
  by_cases e:c=(k:Int)
  ·subst e; omega
  ·have:=ih.2 Qo; omega
theorem PV{α:Type}[Inhabited α](n:Nat)(x:α){i:Int}(h0:0<=i)(h1:i<(n:Int)):gi (List.replicate n x) i=x:=by
 obtain⟨k,rfl⟩:=Int.eq_ofNat_of_zero_le h0;rw[VG (by simp; omega)]; simp
theorem ztz{b:UM}(h:Oq b){c:Int}(c0:0<=c)(c1:c<(b.locals.length:Int))(hp:0<gi b.locals c):Oq (Ys b c)/\(Ys b c).locals.length=b.locals.length/\(Ys b c).IW=b.IW:=by
 have hs:=Fw b.locals c 0 c0 c1 b.locals.length;rw[C' c1] at hs;have hn:=zjt (fun d d0 d1=>(h.each d d0 d1).1) c0 b.locals.length (I7 _);have hn2:=hn.2 c1;have p1:=h.p1;have s1:=h.s1;have su:=h.sum;have Bb1:b.Rv+gi b.locals c>0:=Qo;refine⟨⟨h.q1,h.q2,?_,?_,?_,?_,?_,h.s1,h.s2,fun d d0 d1=>?_,?_⟩,by simp[Ys],rfl⟩
 ·simp only[Ys,E']; exact h.l1
 ·simp only[Ys,E']; exact h.l2
 ·simp only[Ys]; rw[C' Bb1]; simp[h.dl]
 ·simp only[Ys]; omega
 ·simp only[Ys]; omega
 ·simp only[Ys,E'] at d1 ⊢;have hd:=h.dl;have he:=h.each d d0 d1;rw[C' Bb1,PV _ _ d0 Qo,QE _ _ c0 c1 d0];have:=h.q1;refine⟨?_,?_,fun h=>by cases h⟩
  ·split <;> omega
  ·split <;> omega
 ·simp only[Ys,E'];rw[hs]; omega
def ZM(W:Q8)(k:Int):Nat->Q8
 | 0=>W
 | c+1=>if gi (gi (ZM W k c).IC k).IQ.locals (c:Int)>0/\QT (ZM W k c) k (c:Int)=false then RI (ZM W k c) k (Ys (gi (ZM W k c).IC k).IQ (c:Int)) else ZM W k c
def Y7(W:Q8):Nat->Q8
 | 0=>W
 | k+1=>if (gi (Y7 W k).IC (k:Int)).used=true/\(gi (Y7 W k).IC (k:Int)).IQ.IW≠0 then ZM (Y7 W k) (k:Int) (Y7 W k).ID.length else Y7 W k
def L3(W:Q8):Q8:=Y7 W 8
structure VP (W W':Q8):Prop where
 n:W'.now=W.now
 c:W'.ID=W.ID
 t:W'.tasks=W.tasks
 g:Z2 W.IC W'.IC
 s:∀i:Int,0<=i->(gi W'.IC i).IE=(gi W.IC i).IE
theorem VP.refl(W:Q8):VP W W:=⟨rfl,rfl,rfl,Z2.refl _,fun _ _=>rfl⟩
theorem VP.trans{A B C:Q8}(h:VP A B)(k:VP B C):VP A C:=⟨k.n.trans h.n,k.c.trans h.c,k.t.trans h.t,h.g.trans k.g,fun i hi=>(k.s i hi).trans (h.s i hi)⟩
theorem BK{W:Q8}{g:Int}{b:UM}(h0:0<=g)(h1:g<(W.IC.length:Int)):VP W (RI W g b):=⟨rfl,rfl,rfl,JE h0 h1 rfl rfl rfl,fun i hi=>by
 unfold RI;rw[YY h0 h1 hi];split
 ·rename_i e; subst e; rfl
 ·rfl⟩
theorem SF.Az2{F K:Int}{W W':Q8}(h:SF F K W)(ho:VP W W')(ha:WA W'):SF F K W':=by
 have e:∀k c:Int,Q6 W'.IC k=true->Qc W' k c=Qc W k c:=fun k c hu=>by unfold Qc; rw[ho.s k (Q4.1 hu).1]
 have et:∀t:Int,Q7 W' t=Q7 W t:=fun t=>by unfold Q7; rw[ho.t]
 refine⟨⟨ha,fun t a b n=>?_,fun t a b=>by rw[et]; exact h.w.tv t a b,fun k c u a b=>?_,fun c a b=>?_⟩,fun k c u a b=>?_⟩
 ·rw[et] at n ⊢; rw[ho.g.cK,ho.c]; exact h.w.t t a b n
 ·rw[e k c u]; rw[ho.g.cK] at u; rw[ho.c] at b; exact h.w.s k c u a b
 ·rw[ho.c] at b ⊢; exact h.w.cu c a b
 ·rw[e k c u]; rw[ho.g.cK] at u; rw[ho.c] at b; exact h.f k c u a b
theorem WA.RI{W:Q8}(ha:WA W){g:Int}{b:UM}(hu:Q6 W.IC g=true)(hq:(gi W.IC g).IQ.IW≠0)(hb:Oq b)(hl:b.locals.length=W.ID.length)(he:b.IW=(gi W.IC g).IQ.IW):WA (RI W g b):=by
 obtain⟨u0,u1,hg⟩:=ha.u hu;have hb0:=hg.IQ hq;refine ha.set u0 u1 rfl rfl rfl (fun hn=>?_) fun _=>⟨hg.w1,hg.w2,hg.m,hg.m0,hg.s,hg.len,fun h=>⟨(hg.root h).1,(hg.root h).2.1,by show b.IW=0; rw[he]; exact(hg.root h).2.2⟩,fun h=>Ir (he.symm.trans h) hq,fun _=>⟨hb,hl,hb0.2.2⟩⟩
 have:(gi W.IC g).used=false:=hn;rw[(Q4.1 hu).2.2] at this;cases this
theorem Gc{F K:Int}{W:Q8}(h:SF F K W){k:Int}(hu:Q6 W.IC k=true)(hq:(gi W.IC k).IQ.IW≠0):∀c:Nat,c<=W.ID.length->SF F K (ZM W k c)/\VP W (ZM W k c)/\(gi (ZM W k c).IC k).IQ.IW≠0
 | 0,_=>⟨h,VP.refl _,hq⟩
 | c+1,hc=>by
  obtain⟨a,b,q⟩:=Gc h hu hq c Qo;simp only[ZM];split
  ·rename_i AL5;have hu':Q6 (ZM W k c).IC k=true:=by rw[b.g.cK]; exact hu
   obtain⟨u0,u1,hg⟩:=a.w.a.u hu';have hb:=hg.IQ q;have hl:=a.w.a.gl;have rJ:(ZM W k c).ID.length=W.ID.length:=by rw[b.c]
   obtain⟨g1,g2,g3⟩:=ztz hb.1 (c:=(c:Int)) Qo Qo AL5.1;have ho:=BK (W:=ZM W k c) (b:=Ys (gi (ZM W k c).IC k).IQ (c:Int)) u0 Qo;refine⟨a.Az2 ho (a.w.a.RI hu' q g1 (by rw[g2,hb.2.1]) g3),b.trans ho,?_⟩;show (gi (Rf _ k _).IC k).IQ.IW≠0;rw[YY u0 Qo u0,C' rfl];exact fun e=>q (by rw[<-g3]; exact e)
  ·exact⟨a,b,q⟩
theorem Te{F K:Int}{W:Q8}(h:SF F K W):∀k:Nat,k<=8->SF F K (Y7 W k)/\VP W (Y7 W k)
 | 0,_=>⟨h,VP.refl _⟩
 | k+1,hk=>by
  obtain⟨a,b⟩:=Te h k Qo;simp only[Y7];split
  ·rename_i hc;have hl:=a.w.a.gl;obtain⟨a2,b2,_⟩:=Gc a (k:=(k:Int)) (Q4.2 ⟨Qo,Qo,hc.1⟩) hc.2 _ (I7 _);exact⟨a2,b.trans b2⟩
  ·exact⟨a,b⟩
def Du(W:Q8)(k c:Int):LI:={ Qc W k c with floor:=Z0 W k c 20 }
def QN(W:Q8)(c:Int):Nat->Q8
 | 0=>W
 | k+1=>if (gi (QN W c k).IC (k:Int)).used=true/\Zr (QN W c k) (k:Int) c 20=true/\Z0 (QN W c k) (k:Int) c 20>(Qc (QN W c k) (k:Int) c).floor then RA (QN W c k) (k:Int) c (Du (QN W c k) (k:Int) c) else QN W c k
def Z6(W:Q8)(c:Int):Q8:=QN W c 8
theorem z7{K:Int}{W:Q8}(h:SW K W){k c:Int}(c0:0<=c)(c1:c<(W.ID.length:Int))(hK:0<=K):0<=Z0 W k c 20/\Z0 W k c 20<=K:=by
 unfold Z0;split
 ·omega
 ·rename_i hn;have hl:=h.a.gl;rcases Zo (Zk W k c) (Ze W c) 20 with h1 | h1
  ·omega
  ·obtain⟨j,hj⟩:∃j:Nat,QW (Zk W k c) (Ze W c) 20=(j:Int):=⟨(QW (Zk W k c) (Ze W c) 20).toNat,Qo⟩;rw[hj,Ig] at h1 ⊢;have hp:=h1.2.2.1;unfold Ze
   by_cases h12:j<12
   ·rw[C' h12];exact h.tv (j:Int) Qo Qo
   ·rw[B' h12];unfold Zk at hp;rw[B' h12] at hp;unfold XW at hp;simp only[A'] at hp;have hu:Q6 W.IC ((j-12:Nat):Int)=true:=Q4.2 ⟨Qo,Qo,hp.1.2.1⟩;have:=h.s _ c hu c0 c1;omega
theorem Pu{K:Int}{W:Q8}(h:SW K W)(hK:0<=K){c:Int}(c0:0<=c)(c1:c<(W.ID.length:Int)):∀k:Nat,k<=8->SW K (QN W c k)/\U2 W (QN W c k)
 | 0,_=>⟨h,U2.refl _⟩
 | k+1,hk=>by
  obtain⟨a,b⟩:=Pu h hK c0 c1 k Qo;have hl:=a.a.gl;have qX:c<((QN W c k).ID.length:Int):=by rw[b.c]; exact c1
  simp only[QN];split
  ·rename_i hc;have hu:Q6 (QN W c k).IC (k:Int)=true:=Q4.2 ⟨Qo,Qo,hc.1⟩;have s1:=a.s _ c hu c0 qX;have br:=z7 a (k:=(k:Int)) c0 qX hK;exact⟨(a.sf.RA (s:=Du (QN W c k) (k:Int) c) hu c0 qX br.1 br.2 br.2 s1.2.2.1 s1.2.2.2.1 s1.2.2.2.2.1 s1.2.2.2.2.2).w,b.trans (VH Qo Qo)⟩
  ·exact⟨a,b⟩
def XU(x:Mj):Mj:={ x with cur := -1,WH:=0 }
def Rn(W:Q8)(c:Int):Q8:=RM W c (XU (gi W.ID c))
theorem zqi{cs lA:List Mj}:∀k:Nat,(∀j:Nat,j<k->(gi lA (j:Int)).up=(gi cs (j:Int)).up)->Ux lA k=Ux cs k
 | 0,_=>rfl
 | k+1,h=>by simp only[Ux]; rw[zqi k fun j hj=>h j Qo,h k Qo]
theorem zju{cs lA:List Mj}(hl:lA.length=cs.length)(h:∀j:Nat,j<cs.length->(gi lA (j:Int)).up=(gi cs (j:Int)).up):Ju lA=Ju cs:=by
 unfold Ju;rw[hl];exact zqi _ h
theorem WA.cp{W:Q8}(ha:WA W){cs:List Mj}(hl:cs.length=W.ID.length)(hu:Ju cs≠0):WA { W with ID:=cs }:=
 ⟨ha.n1,ha.n2,by show 1<=cs.length; rw[hl]; exact ha.c1,by show cs.length<=4; rw[hl]; exact ha.c2,ha.t,ha.tree,hu,fun k a b=>by
  have:=ha.grp k a b;refine⟨this.1,fun hu=>?_⟩;have hg:=this.2 hu
  exact⟨hg.w1,hg.w2,hg.m,hg.m0,hg.s,by show (gi W.IC k).IE.length=cs.length; rw[hl]; exact hg.len,hg.root,hg.none,fun q=>by
   have:=hg.IQ q;exact⟨this.1,by show (gi W.IC k).IQ.locals.length=cs.length; rw[hl]; exact this.2.1,this.2.2⟩⟩⟩
theorem SW.Rn{K:Int}{W:Q8}(h:SW K W){c:Int}(c0:0<=c)(c1:c<(W.ID.length:Int)):SW K (Rn W c):=by
 have hl:(W.ID.set c.toNat (XU (gi W.ID c))).length=W.ID.length:=E';have hg:∀d:Int,0<=d->gi (W.ID.set c.toNat (XU (gi W.ID c))) d=if c=d then XU (gi W.ID c) else gi W.ID d:=fun d d0=>QE _ _ c0 c1 d0
 refine⟨h.a.cp hl ?_,fun t a b n=>?_,h.tv,fun k d u a b=>?_,fun d a b=>?_⟩
 ·rw[zju hl fun j hj=>?_]
  ·exact h.a.sZ
  ·rw[hg _ Qo];split
   ·rename_i e; rw[e]; rfl
   ·rfl
 ·show _/\_/\_<(((W.ID.set c.toNat (XU (gi W.ID c))).length:Nat):Int);rw[hl];exact h.t t a b n
 ·have b:d<(((W.ID.set c.toNat (XU (gi W.ID c))).length:Nat):Int):=b;rw[hl] at b;exact h.s k d u a b
 ·have b:d<(((W.ID.set c.toNat (XU (gi W.ID c))).length:Nat):Int):=b;rw[hl] at b;show _<=(gi (W.ID.set c.toNat (XU (gi W.ID c))) d).cur/\_;rw[show (gi (YtnclplgaicdapaaGreatDoor.Rn W c).ID d).cur=(gi (W.ID.set c.toNat (XU (gi W.ID c))) d).cur from rfl,hg _ a];split
  ·exact⟨I2 _,show (-1:Int)<12 by decide⟩
  ·exact h.cu d a b
def PY(W:Q8)(c:Int):Bool:=decide ((gi W.ID c).cur>=0)&&(((Q7 W (gi W.ID c).cur).IZ != c) || !ZA W (gi W.ID c).cur)
def UX(W:Q8)(c:Int):Q8:=if PY (Z6 (QF W c) c) c=true then Rn (Z6 (QF W c) c) c else Z6 (QF W c) c
def XK(W:Q8):Nat->Q8
 | 0=>W
 | c+1=>UX (XK W c) (c:Int)
def Qg(W:Q8):Q8:=XK (L3 (Ya W W.ID.length)) W.ID.length
structure Fr (W W':Q8):Prop where
 n:W'.now=W.now
 c:W'.ID.length=W.ID.length
 t:W'.tasks=W.tasks
 g:Z2 W.IC W'.IC
theorem Fr.refl(W:Q8):Fr W W:=⟨rfl,rfl,rfl,Z2.refl _⟩
theorem Fr.trans{A B C:Q8}(h:Fr A B)(k:Fr B C):Fr A C:=⟨k.n.trans h.n,k.c.trans h.c,k.t.trans h.t,h.g.trans k.g⟩
theorem U2.fr{W W':Q8}(h:U2 W W'):Fr W W':=⟨h.n,by rw[h.c],h.t,h.g⟩
theorem VP.fr{W W':Q8}(h:VP W W'):Fr W W':=⟨h.n,by rw[h.c],h.t,h.g⟩
theorem zaz(W:Q8)(c:Int):Fr W (Rn W c):=⟨rfl,E',rfl,Z2.refl _⟩
theorem zvs{K:Int}{W:Q8}(h:SW K W)(hK:0<=K){c:Int}(c0:0<=c)(c1:c<(W.ID.length:Int)):SW (K+Qi) (UX W c)/\Fr W (UX W c):=by
 obtain⟨a1,b1⟩:=H4 (F:=K) (K:=K+Qi) (h.sf.mono (I2 _) (by simp only[Qi]; omega)) (I2 _) c0 c1;obtain⟨a2,b2⟩:=Pu a1.w (by simp only[Qi]; omega) c0 (c:=c) (by rw[b1.c]; exact c1) 8 Qo;have hf:=b1.fr.trans b2.fr;unfold UX;split
 ·exact⟨SW.Rn a2 c0 (by show c<((QN (QF W c) c 8).ID.length:Int); rw[hf.c]; exact c1),hf.trans (zaz _ _)⟩
 ·exact⟨a2,hf⟩
theorem Ku{K:Int}{W:Q8}(h:SW K W)(hK:0<=K):∀c:Nat,c<=W.ID.length->SW (K+(c:Int)*Qi) (XK W c)/\Fr W (XK W c)
 | 0,_=>⟨h.mono Qs,Fr.refl _⟩
 | c+1,hc=>by
  obtain⟨a,b⟩:=Ku h hK c Qo;obtain⟨a2,b2⟩:=zvs a (by simp only[Qi]; omega) (c:=(c:Int)) Qo (by rw[b.c]; omega);exact⟨a2.mono (by simp only[Qi]; omega),b.trans b2⟩
abbrev UL:Int:=5*Qi
theorem VC{K:Int}{W:Q8}(h:SW K W)(hK:0<=K):SW (K+UL) (Qg W)/\Fr W (Qg W):=by
 obtain⟨a1,b1⟩:=O6 (F:=K) (K:=K+Qi) (h.sf.mono (I2 _) (by simp only[Qi]; omega)) (I2 _) W.ID.length (I7 _);obtain⟨a2,b2⟩:=Te a1 8 Qo;have hf:=b1.fr.trans b2.fr;obtain⟨a3,b3⟩:=Ku a2.w (by simp only[Qi]; omega) W.ID.length (by show W.ID.length<=(Y7 (Ya W W.ID.length) 8).ID.length; rw[hf.c]; exact I7 _);have:=h.a.c2;exact⟨a3.mono (by simp only[Qi,UL]; omega),hf.trans b3⟩
abbrev Qj:Int:=50000000000000000
structure KY (W:Q8):Prop where
 n:W.now<=Qj
 c:∀c:Int,0<=c->c<(W.ID.length:Int)->(gi W.ID c).busy<=Qj/\(gi W.ID c).idle<=Qj
 t:∀t:Int,0<=t->t<(W.tasks.length:Int)->(gi W.tasks t).v<=Qj/\(gi W.tasks t).sum<=Qj/\(gi W.tasks t).used<=Qj
 g:∀k:Int,0<=k->k<(W.IC.length:Int)->(gi W.IC k).sum<=Qj
 s:∀k c:Int,0<=k->k<(W.IC.length:Int)->0<=c->c<((gi W.IC k).IE.length:Int)->(Qc W k c).floor<=Qj/\(Qc W k c).v<=Qj/\(Qc W k c).sum<=Qj
noncomputable def QQ(W:Q8):Bool:=JH (KY W)
theorem Md{W:Q8}(wp:XS W)(r:KY W):SW Qj W:=by
 have ht:=wp.a.t;have hg:=wp.a.gl;refine⟨wp.a,fun t t0 t1 n=>?_,fun t t0 t1=>?_,fun k c u c0 c1=>?_,fun c c0 c1=>?_⟩
 ·rcases wp.t t t0 t1 with h | h
  ·exact Ir h.1 n
  ·exact⟨h.2.g,LW wp.a h.2.c⟩
 ·refine⟨?_,(r.t t t0 Qo).1⟩;rcases wp.t t t0 t1 with h | h
  ·rw[h.2]; exact I2 _
  ·exact(YZ.1 h.2.v).1
 ·obtain⟨u0,u1,_⟩:=Q4.1 u;have hl:=wp.a.sl u;have hs:=wp.s k c u0 Qo c0 Qo;have hr:=r.s k c u0 u1 c0 Qo;exact⟨(YZ.1 hs.f).1,hr.1,(YZ.1 hs.v).1,hr.2.1,hs.w1,hs.w2⟩
 ·have hc:=wp.c c c0 c1;have h1:=hc.c1;have h2:=hc.c2;omega
theorem WA.tk{W:Q8}(ha:WA W){ts:List MM}(hl:ts.length=W.tasks.length):WA { W with tasks:=ts }:=
 ⟨ha.n1,ha.n2,ha.c1,ha.c2,by show ts.length=12; rw[hl]; exact ha.t,ha.tree,ha.sZ,fun k a b=>by
  have:=ha.grp k a b;refine⟨this.1,fun hu=>?_⟩;have hg:=this.2 hu;exact⟨hg.w1,hg.w2,hg.m,hg.m0,hg.s,hg.len,hg.root,hg.none,hg.IQ⟩⟩
theorem SW.IT{K:Int}{W:Q8}(h:SW K W){t:Int}(t0:0<=t)(t1:t<12){x:MM}(hx:x.state≠0->Q6 W.IC x.group=true/\0<=x.IZ/\x.IZ<(W.ID.length:Int))(v0:0<=x.v)(v1:x.v<=K):SW K (IT W t x):=by
 have hl:=h.a.t;have e:∀i:Int,0<=i->Q7 (YtnclplgaicdapaaGreatDoor.IT W t x) i=if t=i then x else Q7 W i:=fun i i0=>QE _ _ t0 Qo i0
 refine⟨h.a.tk E',fun i a b n=>?_,fun i a b=>?_,h.s,h.cu⟩
 ·rw[e i a] at n ⊢;split
  ·rename_i he; rw[C' he] at n; exact hx n
  ·rename_i he; rw[B' he] at n; exact h.t i a b n
 ·rw[e i a];split
  ·exact⟨v0,v1⟩
  ·exact h.tv i a b
def KA:Q8:=⟨0,[],[],[]⟩
def zwb:MW:=⟨none,0,none,0,none,0,fun _=>⟨none,0,none,0,none,0⟩⟩
noncomputable def Yp(W:Q8)(bar:Int)(W':Q8):Q8×Int:=if Qx W=false then (KA,1) else if bar≠0 then (W,bar) else (W',0)
theorem zot{W W':Q8}{bar:Int}(h:Qx W=false):Yp W bar W'=(KA,1):=C' h
theorem Ci{W W':Q8}{bar:Int}(h:Qx W=true)(hb:bar≠0):Yp W bar W'=(W,bar):=by unfold Yp; rw[B' (by rw[h]; decide),C' hb]
theorem zhz{W W':Q8}{bar:Int}(h:Qx W=true)(hb:bar=0):Yp W bar W'=(W',0):=by unfold Yp; rw[B' (by rw[h]; decide),B' (by simpa using hb)]
def Yb(W:Q8)(t:Int):Bool:=YK t 0 ((W.tasks.length:Int)-1)&&((Q7 W t).state != 0)
theorem YQ{W:Q8}{t:Int}(h:Yb W t=true):0<=t/\t<(W.tasks.length:Int)/\(Q7 W t).state≠0:=by
 unfold Yb at h;simp only[A',It,ne_eq] at h;have:=Qu.1 h.1;exact⟨Qo,Qo,h.2⟩
noncomputable def VS(W:Q8)(t:Int):Int:=if Yb W t=false then 2 else if (Q7 W t).state≠1 then 6 else if QQ W=false then 10 else 0
def zh6(W:Q8)(t:Int):Q8:=Qg (IT W t { Q7 W t with state:=2 })
theorem zj6{W:Q8}{t:Int}(hW:Qx W=true)(hb:VS W t=0):Yb W t=true/\(Q7 W t).state=1/\SW Qj W/\SW Qj (IT W t { Q7 W t with state:=2 }):=by
 have wp:=Ql.1 hW;unfold VS at hb
 split at hb
 ·cases hb
 ·rename_i h1
  split at hb
  ·cases hb
  ·rename_i h2
   split at hb
   ·cases hb
   ·rename_i h3;have h1:Yb W t=true:=by simpa using h1
    have h2:(Q7 W t).state=1:=by simpa using h2
    have h3:QQ W=true:=by simpa using h3
    have sw:=Md wp (Ql.1 h3);obtain⟨t0,t1,n⟩:=YQ h1;have hl:=wp.a.t;have hv:=sw.tv t t0 Qo;exact⟨h1,h2,sw,sw.IT t0 Qo (fun _=>sw.t t t0 Qo n) hv.1 hv.2⟩
theorem Uz.same{α:Type}{enc:α->List Va}{z:Nat}{ty:TypeId}{base:Nat}{w:Wo}{o:OA}{cap:Nat}{l l':List α}(h:Uz enc z ty base w o cap l)(he:l'.flatMap enc=l.flatMap enc)(hl:l'.length=l.length):Uz enc z ty base w o cap l':=by
 rcases h with ⟨h1,rfl,h3⟩ | ⟨b,sp,rfl,h1,h2,h3,h4⟩
 ·exact .inl ⟨h1,List.eq_nil_of_length_eq_zero hl,h3⟩
 ·exact .inr ⟨b,sp,rfl,h1,by rw[he]; exact h2,by rw[he]; exact h3,Qo⟩
theorem HK{α:Type}{enc:α->List Va}:∀(l:List α) (i:Nat) (x:α),(∀y,l[i]? = some y->enc x=enc y)->(l.set i x).flatMap enc=l.flatMap enc
 | [],_,_,_=>rfl
 | y::r,0,x,h=>by simp only[List.set_cons_zero,List.flatMap_cons]; rw[h y rfl]
 | y::r,i+1,x,h=>by
  simp only[List.set_cons_succ,List.flatMap_cons];rw[HK r i x fun z hz=>h z (by simpa using hz)]
theorem zzr{α:Type}[Inhabited α]{l:List α}{i:Int}(h0:0<=i)(hi:i<(l.length:Int)):l[i.toNat]? = some (gi l i):=by
 obtain⟨k,rfl⟩:=Int.eq_ofNat_of_zero_le h0;rw[Ig];exact zw1 Qo
section
variable {base:Nat}{w w':Wo}{o:OA}{cap:Nat}{ps:List (ZO×MG)}
theorem KC.BE1{α:Type}{enc:α->List Va}{z:Nat}{ty:TypeId}{WW pF:Nat}{o':OA}{l:List α}(h:KC base w o cap ps)(h':Uz enc z ty WW w o' pF l)(n1:QS≠ty)(n2:Qb≠ty)(n3:Y4≠ty)(n4:YF≠ty)(hx:Q0 (QI o') w w'):KC base w' o cap ps:=
 ⟨h.row.ext hx (h.row.SR h' n1),fun i a b=>(h.each i a b).ext hx fun x hm=>by
  simp only[Qr,Im] at hm;rcases hm with (hm | hm) | hm
  ·exact(h.each i a b).loc.SR h' n2 x hm
  ·exact(h.each i a b).Rw.SR h' n3 x hm
  ·exact(h.each i a b).shl.SR h' n4 x hm,h.dj⟩
theorem KC.Rl(h:KC base w o cap ps){i:Int}(h0:0<=i)(hi:i<(ps.length:Int)){p:ZO×MG}(hp:Pj base w p)(hd:∀j:Int,0<=j->j<(ps.length:Int)->i≠j->∀b∈Qr (gi ps j).2,b∉Qr p.2){j:Nat}{vs:List Va}(he:TL p=(TL (gi ps i)).take j++vs++(TL (gi ps i)).drop (j+vs.length))(hj:j+vs.length<=14):KC base (YtnclplgaicdapaaGreatDoor.Rl w o (Int.toNat i*14+j) vs) o cap (ps.set i.toNat p):=by
 have hx:=h.row.qC (Int.toNat i*14+j) vs;have hlen:(ps.set i.toNat p).length=ps.length:=E';refine⟨h.row.Rl Yk.len h0 hi he hj,fun k hk qZ=>?_,fun a k ha hal hk qZ hak b hb fD=>?_⟩
 ·rw[hlen] at qZ;rw[QE _ _ h0 hi hk];split
  ·exact hp.ext hx (Jh h.row hp)
  ·exact(h.each k hk qZ).ext hx (Jh h.row (h.each k hk qZ))
 ·rw[hlen] at hal qZ;rw[QE _ _ h0 hi ha] at hb;rw[QE _ _ h0 hi hk] at fD
  by_cases e1:i=a
  ·rw[C' e1] at hb
   by_cases e2:i=k
   ·omega
   ·rw[B' e2] at fD;exact hd k hk qZ e2 b fD hb
  ·rw[B' e1] at hb
   by_cases e2:i=k
   ·rw[C' e2] at fD;exact hd a ha hal e1 b hb fD
   ·rw[B' e2] at fD;exact h.dj a k ha hal hk qZ hak b hb fD
theorem KC.in(h:KC base w o cap ps){i:Int}(h0:0<=i)(hi:i<(ps.length:Int)){p:ZO×MG}{bs:List Nat}(hx:Q0 bs w w')(hb:∀x∈bs,x∈Qr (gi ps i).2)(hp:Pj base w' p)(hm:p.2=(gi ps i).2)(he:TL p=TL (gi ps i)):KC base w' o cap (ps.set i.toNat p):=by
 have hlen:(ps.set i.toNat p).length=ps.length:=E';refine⟨?_,fun k hk qZ=>?_,fun a k ha hal hk qZ hak b dI fD=>?_⟩
 ·refine(h.row.ext hx fun b dI bT=>Jh h.row (h.each i h0 hi) b (hb b bT) dI).same (HK _ _ _ fun y hy=>?_) hlen;rw[zzr h0 hi] at hy;cases hy;exact he
 ·rw[hlen] at qZ;rw[QE _ _ h0 hi hk];split
  ·exact hp
  ·rename_i dE;exact(h.each k hk qZ).ext hx fun b dI bT=>h.dj i k h0 hi hk qZ dE b (hb b bT) dI
 ·rw[hlen] at hal qZ;rw[QE _ _ h0 hi ha] at dI;rw[QE _ _ h0 hi hk] at fD
  have e1:b∈Qr (gi ps a).2:=by
   by_cases e:i=a
   ·rw[C' e,hm,e] at dI; exact dI
   ·rw[B' e] at dI; exact dI
  have e2:b∈Qr (gi ps k).2:=by
   by_cases e:i=k
   ·rw[C' e,hm,e] at fD; exact fD
   ·rw[B' e] at fD; exact fD
  exact h.dj a k ha hal hk qZ hak b e1 e2
end
def zpx(W:Q8)(m:MW):List (ZO×MG):=(List.range W.IC.length).map fun (k:Nat)=>(gi W.IC (k:Int),m.ms k)
theorem JU(W:Q8)(m:MW):(zpx W m).length=W.IC.length:=by simp[zpx]
theorem M9{W:Q8}{m:MW}{i:Int}(h0:0<=i)(hi:i<(W.IC.length:Int)):gi (zpx W m) i=(gi W.IC i,m.ms i.toNat):=by
 obtain⟨k,rfl⟩:=Int.eq_ofNat_of_zero_le h0;rw[VG (by rw[JU]; omega)];simp[zpx]
def QR(n:Nat)(m:MW):List Nat:=QI m.cO++QI m.tO++QI m.gO++(List.range n).flatMap fun (k:Nat)=>Qr (m.ms k)
structure Zf (n base:Nat) (w:Wo) (W:Q8) (m:MW):Prop where
 c:Uz Hy 5 Zt base w m.cO m.cC W.ID
 t:Uz Xv 9 QD base w m.tO m.tC W.tasks
 g:KC base w m.gO m.gC (zpx W m)
 len:W.IC.length=n
section
variable {n base:Nat}{w w':Wo}{W:Q8}{m:MW}{bs:List Nat}
theorem zbv{x:Nat}(h:x∈QI m.cO):x∈QR n m:=by simp[QR,h]
theorem zbx{x:Nat}(h:x∈QI m.tO):x∈QR n m:=by simp[QR,h]
theorem zbw{x:Nat}(h:x∈QI m.gO):x∈QR n m:=by simp[QR,h]
theorem Ud{x k:Nat}(hk:k<n)(h:x∈Qr (m.ms k)):x∈QR n m:=by
 unfold QR;exact Iw _ (List.mem_flatMap.2 ⟨k,List.mem_range.2 hk,h⟩)
theorem Nt{x:Nat}(h:x∈QR n m):x∈QI m.cO\/x∈QI m.tO\/x∈QI m.gO\/∃k,k<n/\x∈Qr (m.ms k):=by
 unfold QR at h;simp only[Im,List.mem_flatMap,List.mem_range] at h;rcases h with ((h | h) | h) | ⟨k,hk,h⟩
 ·exact .inl h
 ·exact .inr (.inl h)
 ·exact .inr (.inr (.inl h))
 ·exact .inr (.inr (.inr ⟨k,hk,h⟩))
theorem Zf.each(h:Zf n base w W m){i:Int}(h0:0<=i)(hi:i<(n:Int)):Pj base w (gi W.IC i,m.ms i.toNat):=by
 have:=h.g.each i h0 (by rw[JU,h.len]; exact hi)
 rwa[M9 h0 (by rw[h.len]; exact hi)] at this
theorem Zf.lt(h:Zf n base w W m):∀x∈QR n m,base<=x/\x<w.heap.size:=fun x hx=>by
 rcases Nt hx with hx | hx | hx | ⟨k,hk,hx⟩
 ·exact h.c.lt x hx
 ·exact h.t.lt x hx
 ·exact h.g.row.lt x hx
 ·exact(h.each (i:=(k:Int)) Qo Qo).lt x (by simpa using hx)
theorem Zf.ext(h:Zf n base w W m)(hx:Q0 bs w w')(hd:∀x∈QR n m,x∉bs):Zf n base w' W m:=
 ⟨h.c.ext hx fun b hb=>hd b (zbv hb),h.t.ext hx fun b hb=>hd b (zbx hb),
  ⟨h.g.row.ext hx fun b hb=>hd b (zbw hb),fun i a b=>by
   have b':i<(W.IC.length:Int):=by rw[JU] at b; exact b
   have hl:=h.len;refine(h.g.each i a b).ext hx fun x hm=>?_
   rw[M9 a b'] at hm;exact hd x (Ud Qo hm),h.g.dj⟩,h.len⟩
theorem Zf.Wi(h:Zf n base w W m)(hx:Q0 [] w w'):Zf n base w' W m:=h.ext hx Qs
theorem Zf.mono{WW:Nat}(h:Zf n base w W m)(hb:WW<=base):Zf n WW w W m:=⟨h.c.mono hb,h.t.mono hb,h.g.mono hb,h.len⟩
theorem Zf.rd(h:Zf n base w W m)(hd:∀x∈QR n m,x∉bs):XQ bs w W m:=by
 have hl:=h.len;refine⟨h.c.rd H1.len fun b hb=>hd b (zbv hb),h.t.rd PF.len fun b hb=>hd b (zbx hb),⟨fun i h0 hi=>?_,fun i h0 hi=>?_,fun i h0 hi=>?_,fun i h0 hi=>?_⟩⟩
 ·have:=h.g.row.rd Yk.len (bs:=bs) (fun b hb=>hd b (zbw hb)) i h0 (by rw[JU]; exact hi)
  rwa[M9 h0 hi] at this
 ·exact(h.each h0 Qo).loc.rd YT.len fun b hb=>hd b (Ud (k:=i.toNat) Qo (by simp[Qr]; exact .inl hb))
 ·exact(h.each h0 Qo).Rw.rd XC.len fun b hb=>hd b (Ud (k:=i.toNat) Qo (by simp[Qr]; exact .inr (.inl hb)))
 ·exact(h.each h0 Qo).shl.rd Pt.len fun b hb=>hd b (Ud (k:=i.toNat) Qo (by simp[Qr]; exact .inr (.inr hb)))
theorem Zf.AA0(h:Zf n base w W m){i:Int}(h0:0<=i)(hi:i<(W.tasks.length:Int)){j:Nat}{vs:List Va}{x:MM}(he:Xv x=(Xv (gi W.tasks i)).take j++vs++(Xv (gi W.tasks i)).drop (j+vs.length))(hj:j+vs.length<=9) :
  Zf n base (Rl w m.tO (Int.toNat i*9+j) vs) { W with tasks:=W.tasks.set i.toNat x } m:=
 ⟨h.c.ext (h.t.qC _ _) (h.c.SR h.t Qd),h.t.Rl PF.len h0 hi he hj,h.g.BE1 h.t Qd Qd Qd Qd (h.t.qC _ _),h.len⟩
theorem Zf.AV0(h:Zf n base w W m){i:Int}(h0:0<=i)(hi:i<(W.ID.length:Int)){j:Nat}{vs:List Va}{x:Mj}(he:Hy x=(Hy (gi W.ID i)).take j++vs++(Hy (gi W.ID i)).drop (j+vs.length))(hj:j+vs.length<=5) :
  Zf n base (Rl w m.cO (Int.toNat i*5+j) vs) { W with ID:=W.ID.set i.toNat x } m:=
 ⟨h.c.Rl H1.len h0 hi he hj,h.t.ext (h.c.qC _ _) (h.t.SR h.c Qd),h.g.BE1 h.c Qd Qd Qd Qd (h.c.qC _ _),h.len⟩
def LD(m:MW)(k:Nat)(p:MG):MW:={ m with ms:=fun j=>if k=j then p else m.ms j }
theorem zg8(m:MW)(k:Nat):LD m k (m.ms k)=m:=by
 unfold LD
 have:(fun j=>if k=j then m.ms k else m.ms j)=m.ms:=by
  funext j
  split
  ·rename_i e; rw[e]
  ·rfl
 rw[this]
theorem zpy{i:Int}(h0:0<=i)(hi:i<(W.IC.length:Int))(g:ZO)(p:MG):zpx { W with IC:=W.IC.set i.toNat g } (LD m i.toNat p)=(zpx W m).set i.toNat (g,p):=by
 refine zm8 (by rw[JU,E',E',JU]) fun k hk=>?_
 rw[JU,E'] at hk;rw[M9 Qo (by rw[E']; omega),QE _ _ h0 hi Qo,QE _ _ h0 (by rw[JU]; exact hi) Qo];simp only[LD]
 by_cases e:i=(k:Int)
 ·rw[C' e,C' e,C' Qo]
 ·rw[B' e,B' e,B' Qo,M9 Qo Qo]
theorem Zf.BY5{p:MG}(h:Zf n base w W m){i:Int}(hn:∀x∈Qr p,x∉QR n m\/x∈Qr (m.ms i.toNat))(h0:0<=i)(hi:i<(n:Int)):∀j:Int,0<=j->j<((zpx W m).length:Int)->i≠j->∀b∈Qr (gi (zpx W m) j).2,b∉Qr p:=fun j hj hjl hij b hb fD=>by
 have hl:=h.len;rw[JU] at hjl;have bT:=hb;rw[M9 hj hjl] at hb;rcases hn b fD with h1 | h1
 ·exact h1 (Ud Qo hb)
 ·have:=h.g.dj i j h0 (by rw[JU]; omega) hj (by rw[JU]; exact hjl) hij b (by rw[M9 h0 Qo]; exact h1);exact this bT
theorem Zf.Be1(h:Zf n base w W m){i:Int}(h0:0<=i)(hi:i<(n:Int)){g:ZO}{p:MG}(hp:Pj base w (g,p))(hn:∀x∈Qr p,x∉QR n m\/x∈Qr (m.ms i.toNat)){j:Nat}{vs:List Va}(he:Yq g p=(Yq (gi W.IC i) (m.ms i.toNat)).take j++vs++(Yq (gi W.IC i) (m.ms i.toNat)).drop (j+vs.length))(hj:j+vs.length<=14) :
  Zf n base (Rl w m.gO (Int.toNat i*14+j) vs) { W with IC:=W.IC.set i.toNat g } (LD m i.toNat p):=by
 have hl:=h.len;have hx:=h.g.row.qC (Int.toNat i*14+j) vs;refine⟨h.c.ext hx (h.c.SR h.g.row Qd),h.t.ext hx (h.t.SR h.g.row Qd),?_,by rw[E']; exact hl⟩;have:=h.g.Rl h0 (by rw[JU]; omega) hp (h.BY5 hn h0 hi) (j:=j) (vs:=vs) (by rw[M9 h0 Qo]; exact he) hj;rw[zpy h0 Qo];exact this
theorem Zf.Az4(h:Zf n base w W m){i:Int}(h0:0<=i)(hi:i<(n:Int)){g:ZO}(e1:g.IQ.locals=(gi W.IC i).IQ.locals)(e2:g.IQ.Rw=(gi W.IC i).IQ.Rw)(e3:g.IE=(gi W.IC i).IE){j:Nat}{vs:List Va}(he:Yq g (m.ms i.toNat)=(Yq (gi W.IC i) (m.ms i.toNat)).take j++vs++(Yq (gi W.IC i) (m.ms i.toNat)).drop (j+vs.length))(hj:j+vs.length<=14) :
  Zf n base (Rl w m.gO (Int.toNat i*14+j) vs) { W with IC:=W.IC.set i.toNat g } m:=by
 have hm:=h.each h0 hi;have:=h.Be1 h0 hi (g:=g) (p:=m.ms i.toNat) ⟨by rw[e1]; exact hm.loc,by rw[e2]; exact hm.Rw,by rw[e3]; exact hm.shl⟩ (fun x hx=>.inr hx) he hj
 rwa[zg8] at this
theorem Zf.in(h:Zf n base w W m){i:Int}(h0:0<=i)(hi:i<(n:Int)){g:ZO}(hx:Q0 bs w w')(hb:∀x∈bs,x∈Qr (m.ms i.toNat))(hp:Pj base w' (g,m.ms i.toNat))(he:Yq g (m.ms i.toNat)=Yq (gi W.IC i) (m.ms i.toNat)) :
  Zf n base w' { W with IC:=W.IC.set i.toNat g } m:=by
 have hl:=h.len;have hmi:=h.each h0 hi
 have hf:∀{α:Type} {enc:α->List Va} {z:Nat} {ty:TypeId} {WW pF:Nat} {o':OA} {l:List α},Uz enc z ty WW w o' pF l->ty≠Qb->ty≠Y4->ty≠YF->∀b∈QI o',b∉bs:=fun ho n1 n2 n3 b dI bT=>by
  have hm:=hb b bT;simp only[Qr,Im] at hm;rcases hm with (hm | hm) | hm
  ·exact ho.SR hmi.loc n1 b dI hm
  ·exact ho.SR hmi.Rw n2 b dI hm
  ·exact ho.SR hmi.shl n3 b dI hm
 refine⟨h.c.ext hx (hf h.c Qd Qd Qd),h.t.ext hx (hf h.t Qd Qd Qd),?_,by rw[E']; exact hl⟩;have:=h.g.in h0 (by rw[JU]; omega) (p:=(g,m.ms i.toNat)) hx (by rw[M9 h0 Qo]; exact hb) hp (by rw[M9 h0 Qo]) (by rw[M9 h0 Qo]; exact he);have hs:=zpy (m:=m) h0 (W:=W) Qo g (m.ms i.toNat);rw[zg8] at hs;rw[hs];exact this
theorem zyb(W:Q8)(i:Int)(c:Int)(x:LI)(mg:MG):Yq { gi W.IC i with IE:=(gi W.IC i).IE.set c.toNat x } mg=Yq (gi W.IC i) mg:=by
 simp[Yq]
theorem Zf.Bp2(h:Zf n base w W m){i c:Int}(h0:0<=i)(hi:i<(n:Int))(c0:0<=c)(c1:c<((gi W.IC i).IE.length:Int)){j:Nat}{vs:List Va}{x:LI}(he:PG x=(PG (gi (gi W.IC i).IE c)).take j++vs++(PG (gi (gi W.IC i).IE c)).drop (j+vs.length))(hj:j+vs.length<=5) :
  Zf n base (Rl w (m.ms i.toNat).sO (Int.toNat c*5+j) vs) { W with IC:=W.IC.set i.toNat { gi W.IC i with IE:=(gi W.IC i).IE.set c.toNat x } } m:=by
 have hm:=h.each h0 hi;have hx:=hm.shl.qC (Int.toNat c*5+j) vs;exact h.in h0 hi hx (fun x hx=>by simp[Qr]; exact .inr (.inr hx)) ⟨hm.loc.ext hx (hm.loc.SR hm.shl Qd),hm.Rw.ext hx (hm.Rw.SR hm.shl Qd),hm.shl.Rl Pt.len c0 c1 he hj⟩ (zyb _ _ _ _ _)
theorem Zf.cN(h:Zf n base w W m){i c:Int}(h0:0<=i)(hi:i<(n:Int))(c0:0<=c)(c1:c<((gi W.IC i).IQ.locals.length:Int))(x:Int) :
  Zf n base (Rl w (m.ms i.toNat).lO (Int.toNat c*1+0) [I x]) { W with IC:=W.IC.set i.toNat { gi W.IC i with IQ:={ (gi W.IC i).IQ with locals:=(gi W.IC i).IQ.locals.set c.toNat x } } } m:=by
 have hm:=h.each h0 hi;have hx:=hm.loc.qC (Int.toNat c*1+0) [I x];exact h.in h0 hi hx (fun x hx=>by simp[Qr]; exact .inl hx) ⟨hm.loc.Rl YT.len c0 c1 (j:=0) (vs:=[I x]) (x:=x) rfl Qs,hm.Rw.ext hx (hm.Rw.SR hm.loc Qd),hm.shl.ext hx (hm.shl.SR hm.loc Qd)⟩ (by simp[Yq])
theorem Zf.Bp1(h:Zf n base w W m){i c:Int}(h0:0<=i)(hi:i<(n:Int))(c0:0<=c)(c1:c<((gi W.IC i).IQ.Rw.length:Int))(x:Bool) :
  Zf n base (Rl w (m.ms i.toNat).dO (Int.toNat c*1+0) [.bool x]) { W with IC:=W.IC.set i.toNat { gi W.IC i with IQ:={ (gi W.IC i).IQ with Rw:=(gi W.IC i).IQ.Rw.set c.toNat x } } } m:=by
 have hm:=h.each h0 hi;have hx:=hm.Rw.qC (Int.toNat c*1+0) [.bool x];exact h.in h0 hi hx (fun x hx=>by simp[Qr]; exact .inr (.inl hx)) ⟨hm.loc.ext hx (hm.loc.SR hm.Rw Qd),hm.Rw.Rl XC.len c0 c1 (j:=0) (vs:=[.bool x]) (x:=x) rfl Qs,hm.shl.ext hx (hm.shl.SR hm.Rw Qd)⟩ (by simp[Yq])
end
structure Mv (n base:Nat) (bs:List Nat) (w0:Wo) (m0:MW) (w:Wo) (W:Q8) (m:MW):Prop where
 own:Zf n base w W m
 ext:Q0 (QR n m0) w0 w
 sub:∀x∈QR n m,x∈QR n m0\/w0.heap.size<=x
 hd:m={ m0 with ms:=m.ms }
 nb:∀x∈QR n m,x∉bs
 new:∀x∈bs,w0.heap.size<=x
section
variable {n base:Nat}{bs cs:List Nat}{w0 w w':Wo}{W W':Q8}{m0 m m':MW}{b:Nat}
theorem Mv.start(h:Zf n base w W m):Mv n base [] w m w W m:=⟨h,Q0.refl _ _,fun x hx=>.inl hx,rfl,Qs,Qs⟩
theorem Mv.add(h:Mv n base bs w0 m0 w W m)(hb:w.heap.size<=b):Mv n base (bs++[b]) w0 m0 w W m:=⟨h.own,h.ext,h.sub,h.hd,fun x hx hm=>by
 rcases Im.1 hm with hm | hm
 ·exact h.nb x hx hm
 ·have:x=b:=by simpa using hm
  have:=(h.own.lt x hx).2;omega,fun x hm=>by
 rcases Im.1 hm with hm | hm
 ·exact h.new x hm
 ·have:x=b:=by simpa using hm
  have:=h.ext.size;omega⟩
theorem Mv.BB5(h:Mv n base bs w0 m0 w W m)(hs:∀x∈cs,x∈bs):Mv n base cs w0 m0 w W m:=⟨h.own,h.ext,h.sub,h.hd,fun x hx hm=>h.nb x hx (hs x hm),fun x hm=>h.new x (hs x hm)⟩
theorem Mv.close(h:Mv n base bs w0 m0 w W m):Mv n base [] w0 m0 w W m:=h.BB5 Qs
theorem Mv.step(h:Mv n base bs w0 m0 w W m)(hx:Q0 bs w w'):Mv n base bs w0 m0 w' W m:=⟨h.own.ext hx h.nb,h.ext.fresh hx fun x hm=>.inl (h.new x hm),h.sub,h.hd,h.nb,h.new⟩
theorem Mv.M'(h:Mv n base bs w0 m0 w W m)(hx:Q0 [] w w'):Mv n base bs w0 m0 w' W m:=⟨h.own.Wi hx,h.ext.trans hx.of_nil,h.sub,h.hd,h.nb,h.new⟩
theorem Mv.call(h:Mv n base bs w0 m0 w W m)(k:Mv n base [] w m w' W' m')(hs:∀x∈bs,x<w.heap.size):Mv n base bs w0 m0 w' W' m':=
 ⟨k.own,h.ext.fresh k.ext fun x hm=>(h.sub x hm).symm,fun x hx=>by
  rcases k.sub x hx with h1 | h1
  ·exact h.sub x h1
  ·have:=h.ext.size;exact .inr Qo,by rw[k.hd,h.hd],fun x hx hm=>by
  rcases k.sub x hx with h1 | h1
  ·exact h.nb x h1 hm
  ·have:=hs x hm;omega,h.new⟩
theorem Mv.Sj(h:Mv n base bs w0 m0 w W m)(k:Zf n base w' W' m)(hx:Q0 (QR n m) w w'):Mv n base bs w0 m0 w' W' m:=
 ⟨k,h.ext.fresh hx fun x hm=>(h.sub x hm).symm,h.sub,h.hd,h.nb,h.new⟩
theorem Mv.kept(h:Mv n base bs w0 m0 w W m)(k:Mv n base [] w m w' W' m')(hs:∀x∈bs,x<w.heap.size):Q9 bs w w':=fun x hm=>k.ext.block x (hs x hm) fun fE=>h.nb x fE hm
theorem Mv.rd(h:Mv n base bs w0 m0 w W m):XQ bs w W m:=h.own.rd h.nb
theorem Mv.rd0(h:Mv n base bs w0 m0 w W m):XQ [] w W m:=h.own.rd Qs
theorem Mv.trans{w1:Wo}{W1:Q8}{m1:MW}(h:Mv n base [] w0 m0 w W m)(k:Mv n base [] w m w1 W1 m1):Mv n base [] w0 m0 w1 W1 m1:=h.call k Qs
theorem Mv.AJ1(h:Mv n base bs w0 m0 w W m){W0:Q8}(e0:W.now=W0.now)(e1:W.ID.length=W0.ID.length)(e2:W.tasks.length=W0.tasks.length)(e3:W.IC.length=W0.IC.length):Qa W m=Qa W0 m0:=by
 rw[h.hd];simp only[Qa,e0,e1,e2,e3]
end
structure OW (n base:Nat) (bs:List Nat) (w:Wo) (W:Q8) (m:MW):Prop where
 own:Zf n base w W m
 nb:∀x∈QR n m,x∉bs
section
variable {n base:Nat}{bs cs:List Nat}{w w':Wo}{W:Q8}{m:MW}{b:Nat}
theorem OW.of(h:Zf n base w W m)(hs:∀x∈bs,x<base):OW n base bs w W m:=⟨h,fun x hx hm=>by
 have:=(h.lt x hx).1;have:=hs x hm;omega⟩
theorem OW.step(h:OW n base bs w W m)(hx:Q0 bs w w'):OW n base bs w' W m:=⟨h.own.ext hx h.nb,h.nb⟩
theorem OW.M'(h:OW n base bs w W m)(hx:Q0 [] w w'):OW n base bs w' W m:=⟨h.own.Wi hx,h.nb⟩
theorem OW.call(h:OW n base bs w W m)(hx:Q0 cs w w')(hd:∀x∈QR n m,x∉cs):OW n base bs w' W m:=⟨h.own.ext hx hd,h.nb⟩
theorem OW.add(h:OW n base bs w W m)(hb:w.heap.size<=b):OW n base (bs++[b]) w W m:=⟨h.own,fun x hx hm=>by
 rcases Im.1 hm with hm | hm
 ·exact h.nb x hx hm
 ·have:x=b:=by simpa using hm
  have:=(h.own.lt x hx).2;omega⟩
theorem OW.put(h:OW n base bs w W m)(hx:Q0 bs w w')(hb:w.heap.size<=b):OW n base (bs++[b]) w' W m:=⟨(h.step hx).own,(h.add hb).nb⟩
theorem OW.Aq8{b2:Nat}(h:OW n base bs w W m)(hx:Q0 bs w w')(hb:w.heap.size<=b)(bT:w.heap.size<=b2):OW n base (bs++[b]++[b2]) w' W m:=⟨(h.step hx).own,((h.add hb).add bT).nb⟩
theorem OW.sub(h:OW n base bs w W m)(hs:∀x∈cs,x∈bs):OW n base cs w W m:=⟨h.own,fun x hx hm=>h.nb x hx (hs x hm)⟩
theorem OW.mono{WW:Nat}(h:OW n base bs w W m)(hb:WW<=base):OW n WW bs w W m:=⟨h.own.mono hb,h.nb⟩
theorem OW.rd(h:OW n base bs w W m):XQ bs w W m:=h.own.rd h.nb
theorem OW.rd0(h:OW n base bs w W m):XQ [] w W m:=h.own.rd Qs
end
def Jg(b:UM):UM:=⟨b.IW,b.IW,0,List.replicate b.Rw.length 0,List.replicate b.Rw.length false⟩
def ZX(b:UM)(c:Int):UM×Int:=
 if gi b.locals c>0 then (b,0)
 else (⟨b.IW,b.Rv-Zx 20 b.Rv,b.Sl,b.locals.set c.toNat (Zx 20 b.Rv),b.Rw.set c.toNat (Zx 20 b.Rv==0)⟩,if Zx 20 b.Rv=0 then 2 else 0)
def Xy(b:UM)(c n:Int):UM×Int:=
 if n<1\/n>gi b.locals c then (b,3) else ({ b with Sl:=b.Sl+n,locals:=b.locals.set c.toNat (gi b.locals c-n) },0)
def ZL(b:UM)(op:z10):UM×Int:=
 if op.kind=4 then (Jg b,0)
 else if YK op.nA 0 ((b.locals.length:Int)-1)=false then (b,1)
 else if op.kind=1 then ZX b op.nA
 else if op.kind=2 then Xy b op.nA op.n
 else if op.kind=3 then (Ys b op.nA,0)
 else (b,1)
structure Zn (base:Nat) (w:Wo) (b:UM) (p:MG):Prop where
 loc:Uz JI 1 Qb base w p.lO p.lC b.locals
 Rw:Uz Mm 1 Y4 base w p.dO p.dC b.Rw
def Yn(p:MG):List Nat:=QI p.lO++QI p.dO
theorem Zn.lt{base:Nat}{w:Wo}{b:UM}{p:MG}(h:Zn base w b p):∀x∈Yn p,base<=x/\x<w.heap.size:=fun x hx=>by
 rcases Im.1 hx with hx | hx
 ·exact h.loc.lt x hx
 ·exact h.Rw.lt x hx
theorem Zn.ext{base:Nat}{w w':Wo}{b:UM}{p:MG}{bs:List Nat}(h:Zn base w b p)(hx:Q0 bs w w')(hd:∀x∈Yn p,x∉bs):Zn base w' b p:=
 ⟨h.loc.ext hx fun x hm=>hd x (Ia _ hm),h.Rw.ext hx fun x hm=>hd x (Iw _ hm)⟩
theorem Zn.Wi{base:Nat}{w w':Wo}{b:UM}{p:MG}(h:Zn base w b p)(hx:Q0 [] w w'):Zn base w' b p:=h.ext hx Qs
theorem Zn.CB8{base:Nat}{w w':Wo}{b:UM}{p:MG}{bs:List Nat}(h:Zn base w b p)(hx:Q0 bs w w')(hb:∀x∈bs,x<base):Zn base w' b p:=h.ext hx fun x hm fE=>by
 have:=(h.lt x hm).1;have:=hb x fE;omega
theorem Zn.mono{base WW:Nat}{w:Wo}{b:UM}{p:MG}(h:Zn base w b p)(hb:WW<=base):Zn WW w b p:=⟨h.loc.mono hb,h.Rw.mono hb⟩
theorem Zn.cN{base:Nat}{w:Wo}{b:UM}{p:MG}(h:Zn base w b p){c:Int}(c0:0<=c)(c1:c<(b.locals.length:Int))(x:Int):Zn base (Rl w p.lO (Int.toNat c*1) [I x]) { b with locals:=b.locals.set c.toNat x } p:=
 ⟨h.loc.Rl YT.len c0 c1 (j:=0) (vs:=[I x]) (x:=x) rfl Qs,h.Rw.ext (h.loc.qC _ _) (h.Rw.SR h.loc Qd)⟩
theorem Zn.Bp1{base:Nat}{w:Wo}{b:UM}{p:MG}(h:Zn base w b p){c:Int}(c0:0<=c)(c1:c<(b.Rw.length:Int))(x:Bool):Zn base (Rl w p.dO (Int.toNat c*1) [.bool x]) { b with Rw:=b.Rw.set c.toNat x } p:=
 ⟨h.loc.ext (h.Rw.qC _ _) (h.loc.SR h.Rw Qd),h.Rw.Rl XC.len c0 c1 (j:=0) (vs:=[.bool x]) (x:=x) rfl Qs⟩
theorem Zn.xL{base:Nat}{w:Wo}{b:UM}{p:MG}(h:Zn base w b p)(n:Nat)(vs:List Va):Q0 (Yn p) w (Rl w p.lO n vs):=(h.loc.qC n vs).mono fun x hx=>Ia _ hx
theorem Zn.xD{base:Nat}{w:Wo}{b:UM}{p:MG}(h:Zn base w b p)(n:Nat)(vs:List Va):Q0 (Yn p) w (Rl w p.dO n vs):=(h.Rw.qC n vs).mono fun x hx=>Iw _ hx
section
variable {b:UM}{m:MG}{w:Wo}
theorem GK{α:Type}[Inhabited α]{l:List α}{i:Nat}(h:i<l.length):l.take i++[gi l (i:Int)]=l.take (i+1):=by
 rw[List.take_succ_eq_append_getElem h,VG h]
theorem EX(h1:zqo [] w m.lO b.locals)(h2:zy9 [] w m.dO b.Rw)(hd:b.Rw.length=b.locals.length)(hl:b.locals.length<=1048576) :
  Cz Og #[.agg (Zv b m).toArray] w fun e w'=>∃p,e=.returned (.agg (Zv b p).toArray)/\Zn w.heap.size w' b p/\Q0 [] w w':=by
 refine(zij b.IW b.Rv b.Sl m.lO b.locals.length m.lC m.dO b.Rw.length m.dC (R:=fun v w'=>∃p,v=.agg (Zv b p).toArray/\Zn w.heap.size w' b p/\Q0 [] w w') ?_).mono fun e w' ⟨v,he,p,hv,h3⟩=>⟨p,by rw[he,hv],h3⟩
 intro x rA x5 Sg x6 aO
 refine⟨fun vs w1=>∃(i:Nat) (p:MG),vs=[I (i:Int),I b.IW,I b.Rv,I b.Sl,.slice p.lO (b.locals.take i).length p.lC,.slice p.dO (b.Rw.take i).length p.dC]/\i<=b.locals.length/\Sc w [x,x5,x6] w1/\Ob JI 1 Qb w.heap.size [x,x5,x6] w1 p.lO p.lC (b.locals.take i)/\Ob Mm 1 Y4 w.heap.size [x,x5,x6] w1 p.dO p.dC (b.Rw.take i),
  Zq b.locals.length 0,fun wr hx _=>⟨0,⟨none,0,none,0,none,0⟩,Qs,Ic _,(((Sc.start w).add rA).add Sg |>.add aO).M' hx,⟨.inl ⟨rfl,rfl,rfl⟩,by simp[QI]⟩,⟨.inl ⟨rfl,rfl,rfl⟩,by simp[QI]⟩⟩,?_⟩
 rintro c1 l l1 l2 RY RZ S4 l4O l4L l4C wv hs ⟨i,p,he,hi,s1,hO,hD⟩;simp only[I4,I5,Iv,true_and,and_true] at he;obtain⟨rfl,rfl,rfl,rfl,⟨rfl,rfl,rfl⟩,rfl,rfl,rfl⟩:=he;refine⟨fun IS=>?_,fun Ry=>?_⟩
 ·have IS:=Ot IS;have tQ:=h1.scb s1;refine⟨tQ.ix Jm Qo IS,_,tQ i Qo IS,fun b8 hb8=>⟨rfl,fun Rp R4 dQ Wr=>?_⟩⟩;have s2:=s1.put R4 hb8;have mD:=hO.put R4 hb8;have hD2:=hD.put R4 hb8;obtain⟨o2,c2,w2,Wp,hk2,hO3,Sn⟩:=mD.AK7 YT Mg (x:=gi b.locals (i:Int)) dQ s2.ext.size Wr (z0b _) (by rw[List.length_take]; omega) Qd YA #[false,false];rw[GK Qo] at Wp hO3;have s3:=s2.call Sn fun x hm=>(mD.own.lt x hm).1
  have hD3:=hD2.call Sn (hD2.own.SR mD.own Qd);have sS:=h2.scb s3;refine⟨_,_,_,w2,Wp,hk2,sS.ix Dq Qo Qo,_,sS i Qo Qo,fun b9 hb9=>⟨rfl,fun Rt SD cJ B16=>?_⟩⟩;have s4:=s3.put SD hb9;have hO4:=hO3.put SD hb9;have hD4:=hD3.put SD hb9;obtain⟨o4,c4,w4,Bv3,hk4,hD5,fL⟩:=hD4.AK7 XC Kw (x:=gi b.Rw (i:Int)) cJ s4.ext.size B16 (z1j _) (by rw[List.length_take]; omega) Qd XV #[false,false];rw[GK Qo] at Bv3 hD5;have s5:=s4.call fL fun x hm=>(hD4.own.lt x hm).1
  have hO5:=hO4.call fL (hO4.own.SR hD4.own Qd);refine⟨_,_,_,w4,Bv3,hk4,⟨Qo,Qo⟩,fun w5 Sg _=>⟨⟨i+1,⟨o2,c2,o4,c4,none,0⟩,rfl,Qo,(s5.step Sg).sub Qs,(hO5.step Sg).sub Qs,(hD5.step Sg).sub Qs⟩,?_⟩⟩;simp only[Zq,Xc,ZR,Ie];omega
 ·have Ry:=Ou Ry;have e1:b.locals.take i=b.locals:=List.take_of_length_le Qo;have e2:b.Rw.take i=b.Rw:=List.take_of_length_le Qo;rw[e1] at hO ⊢;rw[e2] at hD ⊢;exact fun w2 R0=>⟨p,rfl,⟨(hO.step R0).own,(hD.step R0).own⟩,(s1.step R0).ext⟩
theorem zmd(l:List Bool)(k:Nat)(h:k<l.length):(List.replicate k false++l.drop k).set k false=List.replicate (k+1) false++l.drop (k+1):=by
 rw[List.set_append,B' Qs,List.length_replicate,Nat.sub_self,List.drop_eq_getElem_cons h,List.set_cons_zero,List.replicate_succ',List.append_assoc,List.singleton_append]
theorem EY{base:Nat}(h:Zn base w b m)(hl:b.Rw.length<=1048576) :
  Cz Oh #[.agg (Zv b m).toArray] w fun e w'=>e=.returned (.agg (Zv b m).toArray)/\Zn base w' { b with Rw:=List.replicate b.Rw.length false } m/\Q0 (Yn m) w w':=by
 refine(zik b.IW b.Rv b.Sl m.lO b.locals.length m.lC m.dO b.Rw.length m.dC (R:=fun v w'=>v=.agg (Zv b m).toArray/\Zn base w' { b with Rw:=List.replicate b.Rw.length false } m/\Q0 (Yn m) w w') ?_).mono fun e w' ⟨v,he,hv,h3⟩=>⟨by rw[he,hv],h3⟩
 intro x rA x5 Sg
 have hnb:∀y∈Yn m,y∉[x,x5]:=fun y hy hm=>by
  have:=(h.lt y hy).2;simp only[Ii,List.not_mem_nil,or_false] at hm;rcases hm with rfl | rfl <;> omega
 have tP:∀y∈[x,x5],w.heap.size<=y:=fun y hm=>by
  simp only[Ii,List.not_mem_nil,or_false] at hm;rcases hm with rfl | rfl <;> assumption
 refine Xx b.Rw.length 0 rfl (fun k w1=>k<=b.Rw.length/\Zn base w1 { b with Rw:=List.replicate k false++b.Rw.drop k } m/\Q0 (Yn m) w w1) (fun w1 S9 _=>⟨Ic _,by simpa using h.Wi S9,S9.of_nil⟩) fun k w1 hs ⟨hk,hO,hX⟩=>⟨fun IS=>?_,fun Ry=>?_⟩
 ·have IS:=Ot IS;have hlen:(List.replicate k false++b.Rw.drop k).length=b.Rw.length:=by simp; omega
  have e1:=hO.Bp1 (c:=(k:Int)) Qo (by show (k:Int)<((List.replicate k false++b.Rw.drop k).length:Int); rw[hlen]; exact IS) false;have e2:({ b with Rw:=(List.replicate k false++b.Rw.drop k).set k false }:UM)={ b with Rw:=List.replicate (k+1) false++b.Rw.drop (k+1) }:=by rw[zmd _ _ Qo]
  have V':=hO.Rw.ix (i:=(k:Int)) Qo (by show (k:Int)<((List.replicate k false++b.Rw.drop k).length:Int); rw[hlen]; exact IS);have tH:=hO.Rw.wr XC.len (bs:=[x,x5]) (fun y hy=>hnb y (Iw _ hy)) (i:=(k:Int)) Qo (by show (k:Int)<((List.replicate k false++b.Rw.drop k).length:Int); rw[hlen]; exact IS) (j:=0) (n:=1) Qd;refine⟨by rw[<-hlen]; exact V',tH,⟨Qo,Qo⟩,fun w2 R0 _=>Qm Qo ⟨Qo,?_,(hX.trans (hO.xD _ _)).fresh R0 fun y hy=>.inl (tP y hy)⟩⟩;rw[Ig] at e1;have:=(e2▸e1:Zn base (Rl w1 m.dO (k*1) [.bool false]) { b with Rw:=List.replicate (k+1) false++b.Rw.drop (k+1) } m);exact this.ext (by rw[Ig] at R0; exact R0) hnb
 ·have Ry:=Ou Ry;have hk2:k=b.Rw.length:=Qo;subst hk2;rw[List.drop_length,List.append_nil] at hO;exact fun w2 R0=>⟨rfl,hO.ext R0 hnb,hX.fresh R0 fun y hy=>.inl (tP y hy)⟩
theorem Cs{p:Int}(h:0<=p):0<=Zx 20 p/\Zx 20 p<=p:=by unfold Zx; split <;> omega
theorem US{op:z10}(hb:Oq b)(h1:zqo [] w m.lO b.locals)(h2:zy9 [] w m.dO b.Rw) :
  Cz Xi #[.agg (Zv b m).toArray,.agg (z09 op).toArray] w fun e w'=>∃p,e=.returned (.tuple #[.agg (Zv (ZL b op).1 p).toArray,I (ZL b op).2])/\Zn w.heap.size w' (ZL b op).1 p/\Q0 [] w w':=by
 refine(zen b.IW b.Rv b.Sl m.lO b.locals.length m.lC m.dO b.Rw.length m.dC op.kind op.nA op.n (R:=fun v w'=>∃p,v=.tuple #[.agg (Zv (ZL b op).1 p).toArray,I (ZL b op).2]/\Zn w.heap.size w' (ZL b op).1 p/\Q0 [] w w') ?_).mono fun e w' ⟨v,he,p,hv,h3⟩=>⟨p,by rw[he,hv],h3⟩
 have hm9:=ZH;have hl2:=hb.l2;have hdl:=hb.dl;have q1:=hb.q1;have q2:=hb.q2;have p1:=hb.p1;have p2:=hb.p2;have s1':=hb.s1;have s2':=hb.s2;intro x rA x5 Sg x6 aO;have hok:=HR (bs:=[]) h1 h2 Qo;rw[Ql.2 hb] at hok;refine⟨true,hok,fun h=>by simp at h,fun _ I' S9 cX=>?_⟩;have t1:=((((Sc.start w).add rA).add Sg).add aO).M' S9;refine(EX (h1.ext S9) (h2.ext S9) hdl Qo).mono fun e wv ⟨p,he,hO,bE⟩=>⟨_,_,_,_,_,_,_,_,_,he,Qe bE cX,fun g4=>?_,fun g4=>?_⟩
 ·have g4:op.kind=4:=by simpa using g4
  have t2:=t1.M' bE;have hbl:∀y∈[x,x5,x6],y<I'.heap.size:=cX;refine fun J' R0 SS=>⟨_,_,_,_,K3 YT Mg b.Rw.length Qo Qo J',Qe (Z4 _ _) SS,fun Rp R4 dQ=>?_⟩
  have hLo:=(UV (enc:=JI) YT.len Qb b.Rw.length (0:Int) J').ext R4 fun y hy hm=>by
   have:y=J'.heap.size:=by simpa[QI] using hy
   have:=SS y hm;omega
  have hD3:Uz Mm 1 Y4 I'.heap.size Rp p.dO p.dC b.Rw:=((hO.CB8 R0 hbl).Wi (Z4 J' _)).CB8 R4 hbl |>.Rw
  have Ck9:I'.heap.size<=J'.heap.size:=IA bE.size R0.size;have hB3:Zn I'.heap.size Rp { b with locals:=List.replicate b.Rw.length 0 } ⟨some ⟨J'.heap.size,0,none⟩,b.Rw.length,p.dO,p.dC,none,0⟩:=⟨hLo.mono Ck9,hD3⟩;have t3:=((t2.step R0).M' (Z4 J' (.cells ((List.replicate b.Rw.length (0:Int)).flatMap JI).toArray Qb))).step R4;have hw:=EY (b:=⟨b.IW,b.IW,0,List.replicate b.Rw.length 0,b.Rw⟩) (m:=⟨some ⟨J'.heap.size,0,none⟩,b.Rw.length,p.dO,p.dC,none,0⟩) (base:=I'.heap.size) ⟨hB3.loc,hB3.Rw⟩ (by show b.Rw.length<=_; omega);simp only[Zv,List.length_replicate] at hw;refine I3 hw fun e w4 ⟨he4,hO4,fL⟩=>⟨_,_,_,_,_,_,_,_,_,he4,fun y hm=>fL.block y (dQ y hm) fun fE=>?_,fun Rt SD=>⟨⟨some ⟨J'.heap.size,0,none⟩,b.Rw.length,p.dO,p.dC,none,0⟩,?_,?_,?_⟩⟩
  ·have:=(hB3.lt y fE).1;have:=cX y hm;omega
  ·have:ZL b op=(Jg b,0):=by unfold ZL; rw[C' g4]
   rw[this]; simp[Zv,Jg]
  ·have:ZL b op=(Jg b,0):=by unfold ZL; rw[C' g4]
   rw[this]
   exact(Zn.mono ⟨hO4.loc,hO4.Rw⟩ S9.size).ext SD fun y hy hm=>by
    have:=(hB3.lt y hy).1;have:=cX y hm;omega
  ·exact((t3.call fL fun y hy=>IA S9.size (hB3.lt y hy).1).step SD).ext
 ·have g4:¬op.kind=4:=by simpa using g4
  have t2:=t1.M' bE
  have hbl:∀y∈Yn p,y∉[x,x5,x6]:=fun y hy hm=>by
   have:=(hO.lt y hy).1;have:=cX y hm;omega
  have hO0:Zn w.heap.size wv b p:=hO.mono S9.size
  have fin:∀{b':UM} {c:Int} {w1 w2:Wo},ZL b op=(b',c)->Zn w.heap.size w1 b' p->Q0 (Yn p) wv w1->Q0 [x,x5,x6] w1 w2->Zn w.heap.size w2 (ZL b op).1 p/\Q0 [] w w2:=fun e hB hX hx=>by
   rw[e];exact⟨hB.ext hx hbl,((t2.call hX fun y hy=>(hO0.lt y hy).1).step hx).ext⟩
  have tQ:zqo [x,x5,x6] wv p.lO b.locals:=hO.loc.rd YT.len fun y hy=>hbl y (Ia _ hy)
  refine⟨⟨Qo,Qo⟩,_,Qp,fun g5 wr hx=>⟨p,?_,fin (b':=b) (c:=1) ?_ hO0 (Q0.refl _ _) hx⟩,fun g5=>?_⟩
  ·have:ZL b op=(b,1):=by unfold ZL; rw[B' g4,C' (by simpa using g5)]
   rw[this]; rfl
  ·unfold ZL; rw[B' g4,C' (by simpa using g5)]
  have g5':YK op.nA 0 ((b.locals.length:Int)-1)=true:=by simpa using g5
  have dD:ZL b op=if op.kind=1 then ZX b op.nA else if op.kind=2 then Xy b op.nA op.n else if op.kind=3 then (Ys b op.nA,0) else (b,1):=by
   unfold ZL; rw[B' g4,B' (by rw[g5']; decide)]
  obtain⟨c0,c1⟩:=Qu.1 g5';have c1:op.nA<(b.locals.length:Int):=Qo;have he':=hb.each _ c0 c1;have V':=tQ.ix Jm c0 c1;have hwL:X0 [x,x5,x6] wv p.lO (Int.toNat op.nA*1) 1:=hO.loc.wr YT.len (fun y hy=>hbl y (Ia _ hy)) c0 c1 (j:=0) Qd;refine⟨fun g6=>?_,fun g6=>?_⟩
  ·have g6:op.kind=1:=by simpa using g6
   rw[C' g6] at dD;refine⟨V',_,tQ _ c0 c1,fun g7 wr hx=>⟨p,?_,fin (b':=b) (c:=0) ?_ hO0 (Q0.refl _ _) hx⟩,fun g7=>?_⟩
   ·rw[dD]; unfold ZX; rw[C' (Ot g7)]; rfl
   ·rw[dD]; unfold ZX; rw[C' (Ot g7)]
   have g7:=Ou g7;have ht:ZX b op.nA=(⟨b.IW,b.Rv-Zx 20 b.Rv,b.Sl,b.locals.set op.nA.toNat (Zx 20 b.Rv),b.Rw.set op.nA.toNat (Zx 20 b.Rv==0)⟩,if Zx 20 b.Rv=0 then 2 else 0):=by unfold ZX; rw[B' g7]
   rw[ht] at dD;have hm:=Cs p1;have e1:=hO0.cN c0 c1 (Zx 20 b.Rv);have e2:=e1.Bp1 (c:=op.nA) c0 (by show op.nA<(b.Rw.length:Int); omega) (Zx 20 b.Rv==0);have hX:=(hO0.xL (Int.toNat op.nA*1) [I (Zx 20 b.Rv)]).trans (e1.xD (Int.toNat op.nA*1) [.bool (Zx 20 b.Rv==0)]);refine⟨_,Jt,⟨Qo,Qo⟩,V',hwL,e1.Rw.ix c0 (by show op.nA<(b.Rw.length:Int); omega),e1.Rw.wr XC.len (fun y hy=>hbl y (Iw _ hy)) c0 (by show op.nA<(b.Rw.length:Int); omega) (j:=0) Qd,fun g8 wr hx=>⟨p,?_,fin dD ⟨e2.loc,e2.Rw⟩ hX hx⟩,fun g8 wr hx=>⟨p,?_,fin dD ⟨e2.loc,e2.Rw⟩ hX hx⟩⟩
   ·rw[dD,C' (by simpa using g8)]; simp[Zv]
   ·rw[dD,B' (by simpa using g8)]; simp[Zv]
  ·have g6:¬op.kind=1:=by simpa using g6
   rw[B' g6] at dD;refine⟨fun g7=>?_,fun g7=>?_⟩
   ·have g7:op.kind=2:=by simpa using g7
    rw[C' g7] at dD;refine⟨fun _=>V',_,fun _=>tQ _ c0 c1,fun g8 wr hx=>⟨p,?_,fin (b':=b) (c:=3) ?_ hO0 (Q0.refl _ _) hx⟩,fun g8=>?_⟩
    ·rw[dD]; unfold Xy; rw[C' (by simpa using g8)]; rfl
    ·rw[dD]; unfold Xy; rw[C' (by simpa using g8)]
    have g8':¬(op.n<1\/op.n>gi b.locals op.nA):=by simpa using g8
    have ht:Xy b op.nA op.n=({ b with Sl:=b.Sl+op.n,locals:=b.locals.set op.nA.toNat (gi b.locals op.nA-op.n) },0):=by unfold Xy; rw[B' g8']
    rw[ht] at dD;have e1:=hO0.cN c0 c1 (gi b.locals op.nA-op.n);refine⟨V',_,tQ _ c0 c1,⟨Qo,Qo⟩,V',hwL,⟨Qo,Qo⟩,fun wr hx=>⟨p,?_,fin dD ⟨e1.loc,e1.Rw⟩ (hO0.xL _ _) hx⟩⟩;rw[dD]; simp[Zv]
   ·have g7:¬op.kind=2:=by simpa using g7
    rw[B' g7] at dD;refine⟨fun g8=>?_,fun g8 wr hx=>⟨p,?_,fin (b':=b) (c:=1) ?_ hO0 (Q0.refl _ _) hx⟩⟩
    ·have g8:op.kind=3:=by simpa using g8
     rw[C' g8] at dD;have e1:=hO0.cN c0 c1 0;refine⟨V',_,tQ _ c0 c1,⟨Qo,Qo⟩,V',hwL,fun g9 wr hx hs=>?_,fun g9 wr hx=>⟨p,?_,fin dD ?_ (hO0.xL _ _) hx⟩⟩
     ·have g9:=Ot g9;have e2:Zn w.heap.size wr ⟨b.IW,b.Rv+gi b.locals op.nA,b.Sl,b.locals.set op.nA.toNat 0,b.Rw⟩ p:=Zn.ext ⟨e1.loc,e1.Rw⟩ hx hbl;have hw:=EY e2 (by show b.Rw.length<=_; omega);simp only[Zv,E'] at hw;refine I3 hw fun e w4 ⟨he4,hO4,fL⟩=>⟨_,_,_,_,_,_,_,_,_,he4,fun y hm=>fL.block y (hs y hm) fun fE=>hbl y fE hm,fun Rt SD=>⟨p,?_,?_,?_⟩⟩
      ·rw[dD]; simp[Zv,Ys,C' g9]
      ·rw[dD];have:Ys b op.nA=⟨b.IW,b.Rv+gi b.locals op.nA,b.Sl,b.locals.set op.nA.toNat 0,List.replicate b.Rw.length false⟩:=by unfold Ys; rw[C' g9]
       rw[this];exact Zn.ext ⟨hO4.loc,hO4.Rw⟩ SD hbl
      ·exact((((t2.call (hO0.xL _ _) fun y hy=>(hO0.lt y hy).1).step hx).call fL fun y hy=>(hO0.lt y hy).1).step SD).ext
     ·have g9:=Ou g9;rw[dD]; simp[Zv,Ys,B' g9]
     ·have g9:=Ou g9;have:Ys b op.nA=⟨b.IW,b.Rv+gi b.locals op.nA,b.Sl,b.locals.set op.nA.toNat 0,b.Rw⟩:=by unfold Ys; rw[B' g9]
      rw[this];exact⟨e1.loc,e1.Rw⟩
    ·rw[dD,B' (by simpa using g8)]; rfl
    ·rw[dD,B' (by simpa using g8)]
end
section
variable {base:Nat}{W:Q8}{m:MW}{w:Wo}
theorem Yi{w:Wo}{x x1:Nat}(h:w.heap.size<=x)(h1:w.heap.size<=x1):∀y∈[x,x1],w.heap.size<=y:=fun y hm=>by
 simp only[Ii,List.not_mem_nil,or_false] at hm;rcases hm with rfl | rfl <;> assumption
theorem Mv.two{n:Nat}(h:Zf n base w W m){x x1:Nat}(hx:w.heap.size<=x)(S9:w.heap.size<=x1):Mv n base [x,x1] w m w W m:=((Mv.start h).add hx).add S9
theorem C9{n:Nat}{m:MW}{w:Wo}{k:Nat}{vs:List Va}:Q0 (QR n m) w (Rl w m.cO k vs):=JV fun a ha=>zbv (by rw[ha]; simp[QI])
theorem GJ{n:Nat}{m:MW}{w:Wo}{k:Nat}{vs:List Va}:Q0 (QR n m) w (Rl w m.tO k vs):=JV fun a ha=>zbx (by rw[ha]; simp[QI])
theorem Cc{n:Nat}{m:MW}{w:Wo}{k:Nat}{vs:List Va}:Q0 (QR n m) w (Rl w m.gO k vs):=JV fun a ha=>zbw (by rw[ha]; simp[QI])
theorem zjs{n:Nat}{m:MW}{w:Wo}{i k:Nat}{vs:List Va}(hi:i<n):Q0 (QR n m) w (Rl w (m.ms i).sO k vs):=JV fun a ha=>Ud hi (by simp[Qr,QI,ha])
theorem zyf{n:Nat}{m:MW}{w:Wo}{i k:Nat}{vs:List Va}(hi:i<n):Q0 (QR n m) w (Rl w (m.ms i).lO k vs):=JV fun a ha=>Ud hi (by simp[Qr,QI,ha])
theorem z1q{n:Nat}{m:MW}{w:Wo}{i k:Nat}{vs:List Va}(hi:i<n):Q0 (QR n m) w (Rl w (m.ms i).dO k vs):=JV fun a ha=>Ud hi (by simp[Qr,QI,ha])
theorem zst{n:Nat}{bs:List Nat}(h:Zf n base w W m)(hd:∀x∈QR n m,x∉bs){i:Int}(h0:0<=i)(h1:i<(W.ID.length:Int)){j k:Nat}(hj:j+k<=5):X0 bs w m.cO (Int.toNat i*5+j) k:=h.c.wr H1.len (fun b hb=>hd b (zbv hb)) h0 h1 hj
theorem zqn{n:Nat}{bs:List Nat}(h:Zf n base w W m)(hd:∀x∈QR n m,x∉bs){i:Int}(h0:0<=i)(h1:i<(W.tasks.length:Int)){j k:Nat}(hj:j+k<=9):X0 bs w m.tO (Int.toNat i*9+j) k:=h.t.wr PF.len (fun b hb=>hd b (zbx hb)) h0 h1 hj
theorem zqm{n:Nat}{bs:List Nat}(h:Zf n base w W m)(hd:∀x∈QR n m,x∉bs){i:Int}(h0:0<=i)(h1:i<(n:Int)){j k:Nat}(hj:j+k<=14):X0 bs w m.gO (Int.toNat i*14+j) k:=h.g.row.wr Yk.len (fun b hb=>hd b (zbw hb)) h0 (by rw[JU,h.len]; exact h1) hj
theorem z1v{n:Nat}{bs:List Nat}(h:Zf n base w W m)(hd:∀x∈QR n m,x∉bs){i c:Int}(h0:0<=i)(h1:i<(n:Int))(c0:0<=c)(c1:c<((gi W.IC i).IE.length:Int)){j k:Nat}(hj:j+k<=5):X0 bs w (m.ms i.toNat).sO (Int.toNat c*5+j) k:=
 (h.each h0 h1).shl.wr Pt.len (fun b hb=>hd b (Ud (k:=i.toNat) Qo (by simp[Qr]; exact .inr (.inr hb)))) c0 c1 hj
theorem z2w{n:Nat}{bs:List Nat}(h:Zf n base w W m)(hd:∀x∈QR n m,x∉bs){i c:Int}(h0:0<=i)(h1:i<(n:Int))(c0:0<=c)(c1:c<((gi W.IC i).IQ.locals.length:Int)){j k:Nat}(hj:j+k<=1):X0 bs w (m.ms i.toNat).lO (Int.toNat c*1+j) k:=
 (h.each h0 h1).loc.wr YT.len (fun b hb=>hd b (Ud (k:=i.toNat) Qo (by simp[Qr]; exact .inl hb))) c0 c1 hj
theorem z2v{n:Nat}{bs:List Nat}(h:Zf n base w W m)(hd:∀x∈QR n m,x∉bs){i c:Int}(h0:0<=i)(h1:i<(n:Int))(c0:0<=c)(c1:c<((gi W.IC i).IQ.Rw.length:Int)){j k:Nat}(hj:j+k<=1):X0 bs w (m.ms i.toNat).dO (Int.toNat c*1+j) k:=
 (h.each h0 h1).Rw.wr XC.len (fun b hb=>hd b (Ud (k:=i.toNat) Qo (by simp[Qr]; exact .inr (.inl hb)))) c0 c1 hj
theorem zps{n:Nat}(h:Zf n base w W m){c:Int}(c0:0<=c)(c1:c<(W.ID.length:Int)) :
  (Zf n base (Rl w m.cO (Int.toNat c*5+1) [I (-1)]) { W with ID:=W.ID.set c.toNat { gi W.ID c with cur := -1 } } m)/\
  Zf n base (Rl (Rl w m.cO (Int.toNat c*5+1) [I (-1)]) m.cO (Int.toNat c*5+2) [I 0]) (Rn W c) m:=by
 have e1:=h.AV0 c0 c1 (j:=1) (vs:=[I (-1)]) (x:={ gi W.ID c with cur := -1 }) rfl Qd;refine⟨e1,?_⟩;have hg:gi (W.ID.set c.toNat { gi W.ID c with cur := -1 }) c={ gi W.ID c with cur := -1 }:=by rw[QE _ _ c0 c1 c0,C' rfl]
 have e2:=e1.AV0 c0 (by simpa using c1) (j:=2) (vs:=[I 0]) (x:=XU (gi W.ID c)) (by rw[hg]; rfl) Qd;rw[List.set_set] at e2;exact e2
theorem Zw{n:Nat}(h:Zf n base w W m){c:Int}(c0:0<=c)(c1:c<(W.ID.length:Int)) :
  Cz Z9 #[.agg (Qa W m).toArray,I c] w fun e w'=>e=.returned (.agg (Qa (Rn W c) m).toArray)/\Mv n base [] w m w' (Rn W c) m:=by
 refine(zil _ _ _ _ _ _ _ _ _ _ c (R:=fun v w'=>v=.agg (Qa (Rn W c) m).toArray/\Mv n base [] w m w' (Rn W c) m) ?_).mono fun e w' ⟨v,he,hv,h3⟩=>⟨by rw[he,hv],h3⟩
 intro x hx x1 S9;obtain⟨e1,e2⟩:=zps h c0 c1;have hr:=h.rd (bs:=[]) Qs;refine⟨hr.c.ix ZP c0 c1,zst h Qs c0 c1 Qd,hr.c.ix ZP c0 c1,zst e1 Qs c0 (by simpa using c1) Qd,fun wr R0=>⟨by simp[Qa,Rn,RM],((Mv.start h).Sj e2 (C9.trans C9)).M' R0⟩⟩
theorem zy5{W:Q8}{g c:Int}{s:LI}:RA W g c s={ W with IC:=W.IC.set g.toNat { gi W.IC g with IE:=(gi W.IC g).IE.set c.toNat s } }:=rfl
theorem Ui{W W':Q8}{m:MW}(h:Fr W W'):Qa W' m=Qa W m:=by
 simp only[Qa,h.n,h.c,h.t,h.g.len]
theorem zib{gs:List ZO}(ht:Y5 gs){k:Int}(hu:Q6 gs k=true):OP (gs.length+1) gs k 0=dep 3 gs k:=by
 have hp:∀g:Int,g≠0->Q6 gs g=true->Q6 gs (gi gs g).parent=true:=fun g hz hu=>(Y6 ht hu hz).1
 have hd:0<=dep 3 gs k/\dep 3 gs k<=3:=by
  by_cases hz:k=0
  ·subst hz; rw[ZZ]; omega
  ·obtain⟨_,_,_,d,e,_,hd⟩:=Y6 ht hu hz;omega
 have hm:=LZ gs 3 gs.length k hd.1 (by rw[ht.len]; omega);rw[F0 hp _ _ _ hu,hm,B' Qo];omega
theorem zbr{F K:Int}{n:Nat}(dR:SF F K W)(h:Zf n base w W m)(hk:F+Qi<=K){k c:Int}(hu:Q6 W.IC k=true)(hn:n=8)(c0:0<=c)(c1:c<(W.ID.length:Int))(s:LI) :
  Zf n base (Rl w (m.ms k.toNat).sO (Int.toNat c*5) (PG s)) (RA W k c s) m:=by
 obtain⟨u0,u1,_⟩:=Q4.1 hu;have hl:=dR.w.a.gl;have hs:=dR.w.a.sl hu;exact h.Bp2 u0 Qo c0 Qo (j:=0) (vs:=PG s) (x:=s) (by simp[PG]) (by simp[PG])
theorem Gm{F K:Int}(h:Zf 8 base w W m)(dR:SF F K W)(hk:F+Qi<=K)(hK:K<=1000000000000000000){c:Int}(c0:0<=c)(c1:c<(W.ID.length:Int)) :
  Cz Vd #[.agg (Qa W m).toArray,I c] w fun e w'=>e=.returned (.agg (Qa W m).toArray)/\Mv 8 base [] w m w' (QF W c) m:=by
 refine(zap _ _ _ _ _ _ _ _ _ _ c (R:=fun v w'=>v=.agg (Qa W m).toArray/\Mv 8 base [] w m w' (QF W c) m) ?_).mono fun e w' ⟨v,he,hv,h3⟩=>⟨by rw[he,hv],h3⟩
 intro x hx x1 S9;have bM:=dR.w.a.gl
 refine⟨fun vs w1=>∃(j:Nat),vs=[I (3-(j:Int))]/\j<=3/\Mv 8 base [x,x1] w m w1 (YL W c j) m,
  fun vs _=>(ZR 0 vs).toNat,fun wr rA _=>⟨0,rfl,Qd,(Mv.two h hx S9).M' rA⟩,?_⟩
 rintro d wv hs ⟨j,he,j3,hM⟩;obtain⟨hS,hO⟩:=H5 dR hk c0 c1 j j3;have hN:YL W c (j+1)=Zj (YL W c j) c (3-(j:Int)) 8:=rfl;have hE:j=3->YL W c j=QF W c:=fun e=>by rw[e]; rfl
 generalize YL W c j=W1 at hM hS hO hN hE;simp only[I4,I5,true_and,and_true] at he;refine⟨fun hd=>?_,fun hd=>?_⟩
 ·have hd:=Ot hd;have qX:c<(W1.ID.length:Int):=by rw[hO.c]; exact c1
  refine Xx W.IC.length 1 rfl (fun k w2=>1<=k/\k<=8/\Mv 8 base [x,x1] w m w2 (Zj W1 c d k) m) (fun w2 R0 _=>⟨I7 _,Qd,?_⟩) fun k w2 SS ⟨hk1,hk8,Wq⟩=>?_
  ·have e:Zj W1 c d 1=W1:=zro Qo;rw[e];exact hM.step R0
  obtain⟨mY,mD⟩:=F1 hS hk (c:=c) (d:=d) Qo c0 qX k hk8;have hf2:=hO.trans mD;have e0:Qa (Zj W1 c d k) m=Qa W m:=Ui hf2.fr;have hr:=Wq.rd;have qS:(Zj W1 c d k).IC.length=W.IC.length:=hf2.g.len;have AL4:(Zj W1 c d k).ID.length=W.ID.length:=by rw[hf2.c]
  have SN:Zj W1 c d (k+1)=if (gi (Zj W1 c d k).IC (k:Int)).used=true/\dep 3 (Zj W1 c d k).IC (k:Int)=d then RA (Zj W1 c d k) (k:Int) c (ZS (Zj W1 c d k) (k:Int) c) else Zj W1 c d k:=rfl;have hN8:k=8->YL W c (j+1)=Zj W1 c d k:=fun e=>by rw[hN,<-he,e]
  generalize Zj W1 c d k=W2 at Wq mY mD hf2 e0 hr qS AL4 SN hN8;refine⟨fun IS=>?_,fun Ry=>?_⟩
  ·have IS:=Ot IS;have Rr:(k:Int)<(W2.IC.length:Int):=Qo;have hdp:=M5 (g:=(k:Int)) (c:=m.gC) hr.g (by have:=ZH; omega);rw[qS] at hdp;refine⟨by have:=hr.g.ix (i:=(k:Int)) Qo Rr; rwa[qS] at this,(gi W2.IC (k:Int)).used,hr.g.used Qo Rr,_,fun _=>hdp,fun g=>?_,fun g=>?_⟩
   ·refine⟨⟨Qo,Qo⟩,fun w3 R4 _=>Qm Qo ⟨Qo,Qo,?_⟩⟩;rw[SN,B']
    ·exact Wq.step R4
    ·rintro⟨h1,h2⟩;have hu:Q6 W2.IC (k:Int)=true:=Q4.2 ⟨Qo,Rr,h1⟩;have:=zib mY.w.a.tree hu;rw[qS] at this;rw[this,h1,h2] at g;simp at g
   ·simp only[H',I6,bne_eq_false_iff_eq] at g;have hu:Q6 W2.IC (k:Int)=true:=Q4.2 ⟨Qo,Rr,g.1⟩;have hdk:=zib mY.w.a.tree hu;rw[qS,g.2] at hdk;rw[C' ⟨g.1,hdk.symm⟩] at SN;have hsl:=mY.w.a.sl hu;have hz:(k:Int)≠0:=Qo;have hp:=mY.w.a.up hu hz;obtain⟨p0,p1,_⟩:=Q4.1 hp;have hpl:=mY.w.a.sl hp;have s1:=mY.w.s _ c hu c0 Qo;have s2:=mY.w.s _ c hp c0 Qo;have lc:=ZQ ((Qc W2 (k:Int) c).v-(Qc W2 (gi W2.IC (k:Int)).parent c).floor) (Qc W2 (k:Int) c).w;have lm:=Y3 (Qc W2 (k:Int) c).w;have V':Ix m.gO W.IC.length (k:Int):=by have:=hr.g.ix (i:=(k:Int)) Qo Rr; rwa[qS] at this
    have AH7:=(hr.g.IE (k:Int) Qo Rr).ix YW c0 Qo;have Ao1:=P8 (g:=(k:Int)) hr mY.w.a c0 Qo;have Bm4:=KJ (g:=(k:Int)) hr mY.w.a hu c0 Qo;rw[e0] at Ao1 Bm4;have SE:=fun s=>zbr mY Wq.own hk hu rfl c0 (c:=c) Qo s
    have A79:∀{vs:List Va},Q0 (QR 8 m) w2 (Rl w2 (m.ms k).sO (Int.toNat c*5) vs):=fun {vs}=>zjs Qo
    have tH:=z1v Wq.own Wq.nb (i:=(k:Int)) Qo Qo c0 Qo (j:=0) (k:=5) Qd;simp only[Ig] at SE tH AH7;refine⟨V',_,_,_,hr.g.RC Qo Rr,AH7,_,_,_,_,_,(hr.g.IE (k:Int) Qo Rr) c c0 Qo,fun b2 bT=>⟨QT W2 (k:Int) c,Ao1,JY W2 (k:Int) c,fun _=>Bm4,fun g2=>?_,fun g2=>?_⟩⟩
    ·have yL:ZS W2 (k:Int) c=⟨(Qc W2 (k:Int) c).floor,QT W2 (k:Int) c && !JY W2 (k:Int) c,(Qc W2 (gi W2.IC (k:Int)).parent c).floor+Y9 ((Qc W2 (k:Int) c).v-(Qc W2 (gi W2.IC (k:Int)).parent c).floor) (Qc W2 (k:Int) c).w,(Qc W2 (k:Int) c).w,(Qc W2 (k:Int) c).sum⟩:=by
      unfold ZS;rw[C']
      simpa[Qc] using g2
     have SE:=SE (ZS W2 (k:Int) c);rw[yL] at SE;have AB7:Ix m.gO W.IC.length (gi W2.IC (k:Int)).parent:=by have:=hr.g.ix p0 p1; rwa[qS] at this
     refine⟨V',_,hr.g.parent Qo Rr,AB7,_,_,_,hr.g.RC p0 p1,(hr.g.IE _ p0 p1).ix YW c0 Qo,_,zmh.f (hr.g.IE _ p0 p1) c0 Qo (j:=0) rfl,⟨by show _<=(Qc W2 (k:Int) c).v-(Qc W2 (gi W2.IC (k:Int)).parent c).floor; omega,by show (Qc W2 (k:Int) c).v-(Qc W2 (gi W2.IC (k:Int)).parent c).floor<=_; omega⟩,_,MY,⟨?_,?_⟩,V',_,_,_,hr.g.RC Qo Rr,AH7,tH,⟨Qo,Qo⟩,fun w3 R4 _=>Qm Qo ⟨Qo,Qo,?_⟩⟩
     ·show -9223372036854775808<=(Qc W2 (gi W2.IC (k:Int)).parent c).floor+Y9 ((Qc W2 (k:Int) c).v-(Qc W2 (gi W2.IC (k:Int)).parent c).floor) (Qc W2 (k:Int) c).w;omega
     ·show (Qc W2 (gi W2.IC (k:Int)).parent c).floor+Y9 ((Qc W2 (k:Int) c).v-(Qc W2 (gi W2.IC (k:Int)).parent c).floor) (Qc W2 (k:Int) c).w<=9223372036854775807;omega
     ·rw[SN,yL];exact(Wq.Sj SE A79).step R4
    ·have yL:ZS W2 (k:Int) c=⟨(Qc W2 (k:Int) c).floor,QT W2 (k:Int) c && !JY W2 (k:Int) c,(Qc W2 (k:Int) c).v,(Qc W2 (k:Int) c).w,(Qc W2 (k:Int) c).sum⟩:=by
      unfold ZS;rw[B'];intro h1;rw[h1.1,show (gi (gi W2.IC (k:Int)).IE c).on=false from h1.2] at g2;cases g2
     have SE:=SE (ZS W2 (k:Int) c);rw[yL] at SE;refine⟨V',_,_,_,hr.g.RC Qo Rr,AH7,tH,⟨Qo,Qo⟩,fun w3 R4 _=>Qm Qo ⟨Qo,Qo,?_⟩⟩;rw[SN,yL];exact(Wq.Sj SE A79).step R4
  ·have Ry:=Ou Ry;have hN8:=hN8 Qo;refine⟨⟨Qo,Qo⟩,fun w3 R4 _=>⟨⟨j+1,?_,Qo,?_⟩,?_⟩⟩
   ·rw[show d-1=3-((j+1:Nat):Int) by omega]
   ·rw[hN8];exact Wq.step R4
   ·show (d-1).toNat<d.toNat;omega
 ·have hd:=Ou hd;rw[<-hE Qo];exact fun w2 R0=>⟨rfl,(hM.step R0).close⟩
end
theorem Oc{n:Nat}{m:MW}{i:Nat}{p:MG}:∀x∈QR n (LD m i p),x∈QR n m\/x∈Qr p:=fun x hx=>by
 rcases Nt hx with h | h | h | ⟨k,hk,h⟩
 ·exact .inl (zbv h)
 ·exact .inl (zbx h)
 ·exact .inl (zbw h)
 ·simp only[LD] at h
  split at h
  ·exact .inr h
  ·exact .inl (Ud hk h)
theorem Mv.swap{n base:Nat}{bs:List Nat}{w0 w w':Wo}{W W':Q8}{m0 m m':MW}(h:Mv n base bs w0 m0 w W m)(k:Zf n base w' W' m')(hx:Q0 (QR n m) w w')(hm:m'={ m with ms:=m'.ms })(A79:∀x∈QR n m',x∈QR n m\/(w0.heap.size<=x/\x∉bs)):Mv n base bs w0 m0 w' W' m':=
 ⟨k,h.ext.fresh hx fun x hm=>(h.sub x hm).symm,fun x hx=>by
  rcases A79 x hx with h1 | h1
  ·exact h.sub x h1
  ·exact .inr h1.1,by rw[hm,h.hd],fun x hx=>by
  rcases A79 x hx with h1 | h1
  ·exact h.nb x h1
  ·exact h1.2,h.new⟩
section
variable {base:Nat}{W:Q8}{m:MW}{w:Wo}
theorem AI{K:Int}(h:Zf 8 base w W m)(dR:SW K W)(hK:0<=K){c:Int}(c0:0<=c)(c1:c<(W.ID.length:Int)) :
  Cz TZ #[.agg (Qa W m).toArray,I c] w fun e w'=>e=.returned (.agg (Qa W m).toArray)/\Mv 8 base [] w m w' (Z6 W c) m:=by
 refine(Ar _ _ _ _ _ _ _ _ _ _ c (R:=fun v w'=>v=.agg (Qa W m).toArray/\Mv 8 base [] w m w' (Z6 W c) m) ?_).mono fun e w' ⟨v,he,hv,h3⟩=>⟨by rw[he,hv],h3⟩
 intro x hx x1 S9;have bM:=dR.a.gl;refine Xx W.IC.length 0 rfl (fun k w2=>k<=8/\Mv 8 base [x,x1] w m w2 (QN W c k) m) (fun w2 R0 _=>⟨Qd,(Mv.two h hx S9).M' R0⟩) fun k w2 SS ⟨hk8,Wq⟩=>?_
 obtain⟨mY,mD⟩:=Pu dR hK c0 c1 k hk8;have e0:Qa (QN W c k) m=Qa W m:=Ui mD.fr;have hr:=Wq.rd;have qS:(QN W c k).IC.length=W.IC.length:=mD.g.len;have AL4:(QN W c k).ID.length=W.ID.length:=by rw[mD.c]
 have SN:QN W c (k+1)=if (gi (QN W c k).IC (k:Int)).used=true/\Zr (QN W c k) (k:Int) c 20=true/\Z0 (QN W c k) (k:Int) c 20>(Qc (QN W c k) (k:Int) c).floor then RA (QN W c k) (k:Int) c (Du (QN W c k) (k:Int) c) else QN W c k:=rfl;have hN8:k=8->Z6 W c=QN W c k:=fun e=>by rw[e]; rfl
 generalize QN W c k=W2 at Wq mY mD e0 hr qS AL4 SN hN8;refine⟨fun IS=>?_,fun Ry=>?_⟩
 ·have IS:=Ot IS;have Rr:(k:Int)<(W2.IC.length:Int):=Qo;have V':Ix m.gO W.IC.length (k:Int):=by have:=hr.g.ix (i:=(k:Int)) Qo Rr; rwa[qS] at this
  refine⟨V',(gi W2.IC (k:Int)).used,hr.g.used Qo Rr,fun g=>?_,fun g=>?_⟩
  ·refine⟨⟨Qo,Qo⟩,fun w3 R4 _=>Qm Qo ⟨Qo,?_⟩⟩;rw[SN,B' (fun h1=>by rw[h1.1] at g; cases g)];exact Wq.step R4
  ·have g:(gi W2.IC (k:Int)).used=true:=by simpa using g
   have hu:Q6 W2.IC (k:Int)=true:=Q4.2 ⟨Qo,Rr,g⟩;have hsl:=mY.a.sl hu;have hle:=Gl (g:=(k:Int)) hr mY.a c0 Qo;rw[e0] at hle;have yL:=hr.g.IE (k:Int) Qo Rr;have AH7:=yL.ix YW c0 Qo;have tH:=z1v Wq.own Wq.nb (i:=(k:Int)) Qo Qo c0 Qo (j:=0) (k:=1) Qd;have SE:=Wq.own.Bp2 (i:=(k:Int)) Qo Qo c0 Qo (j:=0) (vs:=[I (Z0 W2 (k:Int) c 20)]) (x:=Du W2 (k:Int) c) rfl Qs;rw[<-zy5] at SE;have A79:Q0 (QR 8 m) w2 (Rl w2 (m.ms k).sO (Int.toNat c*5+0) [I (Z0 W2 (k:Int) c 20)]):=zjs Qo;simp only[Ig] at tH AH7 SE;refine⟨_,_,hle,fun _=>V',_,_,_,fun _=>hr.g.RC Qo Rr,fun _=>AH7,_,fun _=>zmh.f yL c0 Qo (j:=0) rfl,fun g2=>?_,fun g2=>?_⟩
   ·refine⟨V',_,_,_,hr.g.RC Qo Rr,AH7,tH,⟨Qo,Qo⟩,fun w3 R4 _=>Qm Qo ⟨Qo,?_⟩⟩;rw[SN,C' ⟨g,by simpa[Qc] using g2⟩];exact(Wq.Sj SE A79).step R4
   ·refine⟨⟨Qo,Qo⟩,fun w3 R4 _=>Qm Qo ⟨Qo,?_⟩⟩;rw[SN,B']
    ·exact Wq.step R4
    ·rintro⟨_,h1,h2⟩;rw[h1,show decide (Z0 W2 (k:Int) c 20>(gi (gi W2.IC (k:Int)).IE c).floor)=true from Ih h2] at g2;cases g2
 ·have Ry:=Ou Ry;rw[hN8 Qo];exact fun w3 R4=>⟨rfl,(Wq.step R4).close⟩
theorem KX.CN4{bs:List Nat}{w:Wo}{gs:List ZO}{ms:Nat->MG}{o:OA}(h:KX bs w o gs ms){i:Int}(h0:0<=i)(h1:i<(gs.length:Int)):Q1 bs w o (Int.toNat i*14+8+3) [.slice (ms i.toNat).lO (gi gs i).IQ.locals.length (ms i.toNat).lC]:=(h.cells i h0 h1).get 11 _ rfl
theorem KX.quo{bs:List Nat}{w:Wo}{gs:List ZO}{ms:Nat->MG}{o:OA}(h:KX bs w o gs ms){i:Int}(h0:0<=i)(h1:i<(gs.length:Int)):Q1 bs w o (Int.toNat i*14+8+0) [I (gi gs i).IQ.IW]:=(h.cells i h0 h1).get 8 _ rfl
def K2(m:MG)(p:MG):MG:=⟨p.lO,p.lC,p.dO,p.dC,m.sO,m.sC⟩
theorem Oa{m p:MG}:∀x∈Qr (K2 m p),x∈Yn p\/x∈Qr m:=fun x hx=>by
 simp only[Qr,K2,Yn,Im] at hx ⊢;rcases hx with (h | h) | h
 ·exact .inl (.inl h)
 ·exact .inl (.inr h)
 ·exact .inr (.inr h)
theorem Zf.Bo9{n:Nat}(h:Zf n base w W m){i:Int}(h0:0<=i)(hi:i<(n:Int)){b:UM}{p:MG}(hb:Zn base w b p)(hn:∀x∈Yn p,x∉QR n m) :
  Zf n base (Rl w m.gO (Int.toNat i*14+8) (Zv b p)) (RI W i b) (LD m i.toNat (K2 (m.ms i.toNat) p)):=by
 have hm:=h.each h0 hi;refine h.Be1 h0 hi (g:={ gi W.IC i with IQ:=b }) (p:=K2 (m.ms i.toNat) p) ⟨hb.loc,hb.Rw,hm.shl⟩ (fun x hx=>?_) rfl (by simp[Zv]);rcases Oa x hx with h1 | h1
 ·exact .inl (hn x h1)
 ·exact .inr h1
theorem ze6{F K:Int}(h:Zf 8 base w W m)(dR:SF F K W)(rH:base<=w.heap.size) :
  Cz PO #[.agg (Qa W m).toArray] w fun e w'=>∃m',e=.returned (.agg (Qa W m).toArray)/\Mv 8 base [] w m w' (L3 W) m':=by
 refine(zeq _ _ _ _ _ _ _ _ _ _ (R:=fun v w'=>∃m',v=.agg (Qa W m).toArray/\Mv 8 base [] w m w' (L3 W) m') ?_).mono fun e w' ⟨v,he,m',hv,h3⟩=>⟨m',by rw[he,hv],h3⟩
 intro x hx x1 S9;have bM:=dR.w.a.gl;have CF1:=dR.w.a.c2;have Ao5:=Yi hx S9;refine Xx W.IC.length 0 rfl (fun k w2=>k<=8/\∃m2,Mv 8 base [x,x1] w m w2 (Y7 W k) m2) (fun w2 R0 _=>⟨Qd,m,(Mv.two h hx S9).M' R0⟩) fun k w2 SS ⟨hk8,m2,Wq⟩=>?_
 obtain⟨mY,mD⟩:=Te dR k hk8;have qS:(Y7 W k).IC.length=W.IC.length:=mD.g.len;have AL4:(Y7 W k).ID.length=W.ID.length:=by rw[mD.c]
 have SN:Y7 W (k+1)=if (gi (Y7 W k).IC (k:Int)).used=true/\(gi (Y7 W k).IC (k:Int)).IQ.IW≠0 then ZM (Y7 W k) (k:Int) (Y7 W k).ID.length else Y7 W k:=rfl;have hN8:k=8->L3 W=Y7 W k:=fun e=>by rw[e]; rfl
 generalize Y7 W k=W2 at Wq mY mD qS AL4 SN hN8;have hmg:m2.gO=m.gO:=by rw[Wq.hd]
 have hr:=Wq.rd;refine⟨fun IS=>?_,fun Ry=>?_⟩
 ·have IS:=Ot IS;have Rr:(k:Int)<(W2.IC.length:Int):=Qo;have V':Ix m.gO W.IC.length (k:Int):=by have:=hr.g.ix (i:=(k:Int)) Qo Rr; rwa[qS,hmg] at this
  have hru:=hr.g.used (i:=(k:Int)) Qo Rr;have hrq:=hr.g.quo (i:=(k:Int)) Qo Rr;rw[hmg] at hru hrq;refine⟨V',(gi W2.IC (k:Int)).used,hru,fun _=>V',_,fun _=>hrq,fun g=>?_,fun g=>?_⟩
  ·refine⟨⟨Qo,Qo⟩,fun w3 R4 _=>Qm Qo ⟨Qo,m2,?_⟩⟩;rw[SN,B']
   ·exact Wq.step R4
   ·rintro⟨h1,h2⟩;rw[h1] at g;simp[h2] at g
  ·simp only[H',I6,beq_eq_false_iff_ne] at g;have hu:Q6 W2.IC (k:Int)=true:=Q4.2 ⟨Qo,Rr,g.1⟩;rw[C' ⟨g.1,g.2⟩] at SN;refine Xx W.ID.length 0 rfl (fun c w3=>c<=W.ID.length/\∃m3,Mv 8 base [x,x1] w m w3 (ZM W2 (k:Int) c) m3) (fun w3 R4 _=>⟨Ic _,m2,Wq.step R4⟩) fun c w3 dQ ⟨hc,m3,dZ⟩=>?_
   obtain⟨hS3,hO3,hq3⟩:=Gc mY hu g.2 c Qo;have CG5:(ZM W2 (k:Int) c).IC.length=W.IC.length:=by rw[hO3.g.len,qS]
   have CF0:(ZM W2 (k:Int) c).ID.length=W.ID.length:=by rw[hO3.c,AL4]
   have yU:ZM W2 (k:Int) (c+1)=if gi (gi (ZM W2 (k:Int) c).IC (k:Int)).IQ.locals (c:Int)>0/\QT (ZM W2 (k:Int) c) (k:Int) (c:Int)=false then RI (ZM W2 (k:Int) c) (k:Int) (Ys (gi (ZM W2 (k:Int) c).IC (k:Int)).IQ (c:Int)) else ZM W2 (k:Int) c:=rfl;have hN3:c=W.ID.length->Y7 W (k+1)=ZM W2 (k:Int) c:=fun e=>by rw[SN,AL4,e]
   have e3:Qa (ZM W2 (k:Int) c) m3=Qa W m:=dZ.AJ1 (by rw[hO3.n,mD.n]) CF0 (by rw[hO3.t,mD.t]) CG5;have hu3:Q6 (ZM W2 (k:Int) c).IC (k:Int)=true:=by rw[hO3.g.cK]; exact hu
   generalize ZM W2 (k:Int) c=W3 at dZ hS3 hO3 hq3 CG5 CF0 yU hN3 e3 hu3;have CI3:m3.gO=m.gO:=by rw[dZ.hd]
   have hr3:=dZ.rd;refine⟨fun AM2=>?_,fun Ba1=>?_⟩
   ·have AM2:=Ot AM2;obtain⟨u0,u1,jA⟩:=hS3.w.a.u hu3;obtain⟨hb,hbl,_⟩:=jA.IQ hq3;have AU4:(k:Int)<(W3.IC.length:Int):=Qo;have hrl:=hr3.g.CN4 (i:=(k:Int)) Qo AU4;have hrb:=hr3.g.IQ (i:=(k:Int)) Qo AU4;rw[CI3] at hrl hrb;have hLo:=hr3.g.locals (k:Int) Qo AU4;have hDo:=hr3.g.Rw (k:Int) Qo AU4;have Ao1:=P8 (g:=(k:Int)) (c:=(c:Int)) hr3 hS3.w.a Qo Qo;rw[e3] at Ao1;refine⟨V',_,_,_,hrl,hLo.ix Jm Qo Qo,_,hLo (c:Int) Qo Qo,_,fun _=>Ao1,fun g3=>?_,fun g3=>?_⟩
    ·simp only[A',Ij,IB] at g3;rw[C' g3] at yU;refine⟨V',_,_,_,_,_,_,_,_,_,hrb,fun Rp R4 cJ=>?_⟩;have fH:=dZ.step R4;have hr4:=fH.rd0;refine I3 (US (op:=⟨3,(c:Int),0⟩) hb (hr4.g.locals (k:Int) Qo AU4) (hr4.g.Rw (k:Int) Qo AU4)) ?_;rintro e Rx ⟨p,he,hO,hy⟩
     have dD:ZL (gi W3.IC (k:Int)).IQ ⟨3,(c:Int),0⟩=(Ys (gi W3.IC (k:Int)).IQ (c:Int),0):=by
      unfold ZL;rw[B' (show ¬(3:Int)=4 by decide),B' (by rw[Qu.2 (by show 0<=(c:Int)/\(c:Int)<=_; omega)]; decide),B' (show ¬(3:Int)=1 by decide),B' (show ¬(3:Int)=2 by decide),C' rfl]
     rw[dD] at he hO
     dsimp only at he hO
     have hM5:=fH.M' hy;have hbs:base<=Rp.heap.size:=by have:=fH.ext.size; omega
     have hOb:∀y∈Yn p,Rp.heap.size<=y:=fun y hy=>(hO.lt y hy).1
     have A76:=hM5.own.Bo9 (i:=(k:Int)) Qo Qo (hO.mono hbs) (fun y hy hm=>by have:=hOb y hy; have:=(fH.own.lt y hm).2; omega);have tH:=zqm hM5.own hM5.nb (i:=(k:Int)) Qo Qo (j:=8) (k:=5) Qd;have qJ:=fH.ext.size
     have hM6:=hM5.swap A76 Cc rfl fun y hy=>by
      rcases Oc y hy with h1 | h1
      ·exact .inl h1
      ·rcases Oa y h1 with h2 | h2
       ·have:=hOb y h2;exact .inr ⟨Qo,fun hm=>by have:=cJ y hm; omega⟩
       ·exact .inl (Ud Qo h2)
     rw[CI3] at tH hM6;refine⟨_,_,_,_,_,_,_,_,_,_,he,Qe hy cJ,fun b2 bT=>⟨V',tH,⟨Qo,Qo⟩,fun w5 Sg _=>Qm (w1:=w3) Qo ⟨Qo,LD m3 (Int.toNat (k:Int)) (K2 (m3.ms (Int.toNat (k:Int))) p),?_⟩⟩⟩;rw[yU];exact hM6.step Sg
    ·refine⟨⟨Qo,Qo⟩,fun w5 Sg _=>Qm Qo ⟨Qo,m3,?_⟩⟩;rw[yU,B']
     ·exact dZ.step Sg
     ·rintro⟨h1,h2⟩;rw[h2,Ih h1] at g3;cases g3
   ·have Ba1:=Ou Ba1;refine⟨⟨Qo,Qo⟩,fun w5 Sg _=>Qm Qo ⟨Qo,m3,?_⟩⟩;rw[hN3 Qo];exact dZ.step Sg
 ·have Ry:=Ou Ry;rw[hN8 Qo];exact fun w3 R4=>⟨m2,rfl,(Wq.step R4).close⟩
end
section
variable {base:Nat}{W:Q8}{m:MW}{w:Wo}
theorem KI{W W':Q8}(h:Fr W W'):W'.ID.length=W.ID.length/\W'.tasks.length=W.tasks.length/\W'.IC.length=W.IC.length:=⟨h.c,by rw[h.t],h.g.len⟩
theorem zna{n:Nat}{bs:List Nat}{w0 w:Wo}{W0 W:Q8}{m0 m:MW}(h:Mv n base bs w0 m0 w W m)(hf:Fr W0 W):Qa W m=Qa W0 m0:=h.AJ1 hf.n hf.c (by rw[hf.t]) hf.g.len
theorem Qv{K:Int}(h:Zf 8 base w W m)(dR:SW K W)(hK0:0<=K)(hK:K<=100000000000000000)(rH:base<=w.heap.size) :
  Cz Qn #[.agg (Qa W m).toArray] w fun e w'=>∃m',e=.returned (.agg (Qa (Qg W) m').toArray)/\Mv 8 base [] w m w' (Qg W) m':=by
 refine(As _ _ _ _ _ _ _ _ _ _ (R:=fun v w'=>∃m',v=.agg (Qa (Qg W) m').toArray/\Mv 8 base [] w m w' (Qg W) m') ?_).mono fun e w' ⟨v,he,m',hv,h3⟩=>⟨m',by rw[he,hv],h3⟩
 intro x hx x1 S9;have bM:=dR.a.gl;have CF1:=dR.a.c2;have hm9:=ZH;refine⟨fun vs w1=>∃(k:Nat),vs=I (k:Int)::Qa W m/\k<=W.ID.length/\Mv 8 base [x,x1] w m w1 (Ya W k) m,Zq W.ID.length 0,fun w1 rA _=>⟨0,rfl,Ic _,(Mv.two h hx S9).M' rA⟩,?_⟩;rintro c1 l RO RW Sb RR S5 Sa RY RZ S4 Rx SS ⟨k,he,hk,hM⟩;obtain⟨hS,hO⟩:=O6 (F:=K) (K:=K+Qi) (dR.sf.mono (I2 _) (by simp only[Qi]; omega)) (I2 _) k hk;have SN:Ya W (k+1)=QF (Ya W k) (k:Int):=rfl;have mF:k=W.ID.length->Ya W W.ID.length=Ya W k:=fun e=>by rw[e]
 have e0:=zna hM hO.fr;obtain⟨n1,n2,n3⟩:=KI hO.fr;simp only[Qa,I4,I5,Iv,true_and,and_true] at he;obtain⟨rfl,rfl,⟨rfl,rfl,rfl⟩,⟨rfl,rfl,rfl⟩,rfl,rfl,rfl⟩:=he;generalize Ya W k=W1 at hM hS hO SN mF e0 n1 n2 n3;refine⟨fun IS Rp R4 dQ=>?_,fun Ry RH Sg jO=>?_⟩
 ·have IS:=Ot IS;have dZ:=hM.step R4;have Rg:=Gm dZ.own hS Qo (by simp only[Qi]; omega) (c:=(k:Int)) Qo Qo;rw[e0] at Rg;refine I3 Rg ?_;rintro e S6 ⟨he,hy⟩;refine⟨_,_,_,_,_,_,_,_,_,_,he,dZ.kept hy dQ,⟨Qo,Qo⟩,fun Rt SD _=>⟨⟨k+1,rfl,Qo,?_⟩,?_⟩⟩
  ·rw[SN];exact(dZ.call hy dQ).step SD
  ·simp only[Zq,Xc,ZR,Ie]; omega
 ·have Ry:=Ou Ry;have hkk:k=W.ID.length:=Qo;have mF:=mF hkk;have hM5:=hM.step Sg;have hb5:base<=RH.heap.size:=by have:=hM5.ext.size; omega
  have Rg:=ze6 hM5.own hS hb5;rw[e0] at Rg;refine I3 Rg ?_;rintro e2 bB ⟨m4,aE,Sn⟩;obtain⟨hS4,hO4⟩:=Te hS 8 Qd;have hM6:=hM5.call Sn jO;have SE:Qg W=XK (L3 W1) W.ID.length:=by unfold Qg; rw[mF]
  have hf4:Fr W (L3 W1):=hO.fr.trans hO4.fr;have CD8:SW (K+Qi) (L3 W1):=hS4.w;have CH9:=KI hf4;generalize L3 W1=W4 at hM6 SE hf4 CD8 CH9;refine⟨_,_,_,_,_,_,_,_,_,_,aE,hM5.kept Sn jO,fun vs w1=>∃(k:Nat) (m1:MW),vs=I (k:Int)::Qa W m/\k<=W.ID.length/\Mv 8 base [x,x1] w m w1 (XK W4 k) m1,Zq W.ID.length 0,fun w1 rA _=>⟨0,m4,rfl,Ic _,hM6.step rA⟩,?_⟩;rintro c3 l RO RW Sb RR S5 Sa RY RZ S4 bS hs7 ⟨k,m7,he,hk,tY⟩;obtain⟨hS7,hf7⟩:=Ku CD8 (by simp only[Qi]; omega) k Qo;have AL6:XK W4 (k+1)=UX (XK W4 k) (k:Int):=rfl;have AL8:k=W.ID.length->Qg W=XK W4 k:=fun e=>by rw[SE,e]
  have hfW:=hf4.trans hf7;have e7:=zna tY hfW;obtain⟨q1,q2,q3⟩:=KI hfW;simp only[Qa,I4,I5,Iv,true_and,and_true] at he;obtain⟨rfl,rfl,⟨rfl,rfl,rfl⟩,⟨rfl,rfl,rfl⟩,rfl,rfl,rfl⟩:=he;generalize XK W4 k=W7 at tY hS7 hf7 AL6 AL8 hfW e7 q1 q2 q3;refine⟨fun IS WT lB hs9=>?_,fun Ry=>?_⟩
  ·have IS:=Ot IS;have hM9:=tY.step lB;have hk4:(k:Int)<=4:=Qo;have hKb:K+Qi+(k:Int)*Qi+Qi<=1000000000000000000:=by simp only[Qi]; omega
   have qX:(k:Int)<(W7.ID.length:Int):=Qo;have hSF:=hS7.sf.mono (F':=K+Qi+(k:Int)*Qi) (K':=K+Qi+(k:Int)*Qi+Qi) (I2 _) (by simp only[Qi]; omega);have Rg:=Gm hM9.own hSF (I2 _) hKb (c:=(k:Int)) Qo qX;rw[e7] at Rg;refine I3 Rg ?_;rintro e4 kZ ⟨he4,fL⟩;obtain⟨hS8,hO8⟩:=H4 hSF (I2 _) (c:=(k:Int)) Qo qX;have hM8:=hM9.call fL hs9;refine⟨_,_,_,_,_,_,_,_,_,_,he4,hM9.kept fL hs9,fun Sd yX mH=>?_⟩;have A63:=hM8.step yX;have bG:UX W7 (k:Int)=if PY (Z6 (QF W7 (k:Int)) (k:Int)) (k:Int)=true then Rn (Z6 (QF W7 (k:Int)) (k:Int)) (k:Int) else Z6 (QF W7 (k:Int)) (k:Int):=rfl;have c2':(k:Int)<((QF W7 (k:Int)).ID.length:Int):=by rw[hO8.c]; exact qX
   have BZ5:=AI A63.own hS8.w (by simp only[Qi]; omega) (c:=(k:Int)) Qo c2';rw[Ui hO8.fr,e7] at BZ5;obtain⟨B07,B06⟩:=Pu hS8.w (by simp only[Qi]; omega) (c:=(k:Int)) Qo c2' 8 Qd;refine I3 BZ5 ?_;rintro e5 yN ⟨he5,hy5⟩;have AU2:=A63.call hy5 mH;have A62:=A63.kept hy5 mH;have BN8:Fr W (Z6 (QF W7 (k:Int)) (k:Int)):=(hfW.trans hO8.fr).trans B06.fr;have rG:SW (K+Qi+(k:Int)*Qi+Qi) (Z6 (QF W7 (k:Int)) (k:Int)):=B07;generalize Z6 (QF W7 (k:Int)) (k:Int)=yK at AU2 BN8 rG bG;have e11:=zna AU2 BN8;have Bn2:m7.cO=m.cO/\m7.tO=m.tO:=by rw[tY.hd]; exact⟨rfl,rfl⟩
   obtain⟨r1,r2,r3⟩:=KI BN8;have hr:=AU2.rd;have c3':(k:Int)<(yK.ID.length:Int):=Qo;have pJ:=rG.cu (k:Int) Qo c3';have iX:=rG.a.t;have CH1:=hr.c.ix ZP (i:=(k:Int)) Qo c3';have hrC:=hr.c.f (i:=(k:Int)) Qo c3' (j:=1) rfl
   have hT:(decide ((gi yK.ID (k:Int)).cur>=0))=true->0<=(gi yK.ID (k:Int)).cur/\(gi yK.ID (k:Int)).cur<(yK.tasks.length:Int):=fun g=>by
    have:=Ot g;exact⟨this,Qo⟩
   have lK:∀g:(decide ((gi yK.ID (k:Int)).cur>=0))=true,PX [x,x1] Yy #[.agg (Qa W m).toArray,I (gi yK.ID (k:Int)).cur] yN (.bool (ZA yK (gi yK.ID (k:Int)).cur)):=fun g=>by
    have:=Vi hr rG.a (hT g).1 (hT g).2 (fun hs=>rG.li (hT g).1 (hT g).2 hs)
    rwa[e11] at this
   rw[r1,Bn2.1] at CH1;rw[Bn2.1] at hrC;refine⟨_,_,_,_,_,_,_,_,_,_,he5,A62,CH1,_,hrC,fun g=>?_,(Q7 yK (gi yK.ID (k:Int)).cur).IZ,fun g=>?_,ZA yK (gi yK.ID (k:Int)).cur,fun _ g=>lK g,fun g Se AM6 yW=>?_,fun g=>?_⟩
   ·have:=hr.t.ix QG (hT g).1 (hT g).2
    rwa[r2,Bn2.2] at this
   ·have:=hr.t.f (hT g).1 (hT g).2 (j:=2) rfl
    rwa[Bn2.2] at this
   ·have A64:=AU2.step AM6;have BZ6:=Zw A64.own (c:=(k:Int)) Qo c3';rw[e11] at BZ6;refine I3 BZ6 ?_;rintro e6 fR ⟨he6,hy6⟩;have e12:=Ui (m:=m7) (zaz yK (k:Int));rw[e11] at e12;rw[e12] at he6;refine⟨_,_,_,_,_,_,_,_,_,_,he6,A64.kept hy6 yW,⟨Qo,Qo⟩,fun Si uB _=>⟨⟨k+1,m7,rfl,Qo,?_⟩,?_⟩⟩
    ·rw[AL6,bG,C' (by unfold PY; exact g)];exact(A64.call hy6 yW).step uB
    ·simp only[Zq,Xc,ZR,Ie]; omega
   ·refine⟨⟨Qo,Qo⟩,fun Si uB _=>⟨⟨k+1,m7,rfl,Qo,?_⟩,?_⟩⟩
    ·rw[AL6,bG,B' (by unfold PY; rw[g]; decide)];exact AU2.step uB
    ·simp only[Zq,Xc,ZR,Ie]; omega
  ·have Ry:=Ou Ry;have AL8:=AL8 Qo;rw[AL8];refine fun w9 lB=>⟨m7,?_,(tY.step lB).close⟩
   rw[e7]; rfl
end
theorem Yh{n:Int}{w:Wo}{bs:List Nat}:PX bs Zs #[I n] w (.bool (decide (n<=Qj))):=zfv n fun wr hx=>rfl
section
variable {W:Q8}{m:MW}{w:Wo}{bs:List Nat}
theorem Kg(h:XQ bs w W m)(hl:UN W):PX bs JP #[.agg (Qa W m).toArray] w (.bool (JH (XS W/\KY W))):=
 BT _ _ _ _ _ _ _ _ _ _ fun wr hx=>by
  have h:=(h.ext hx).less (cs:=[]) Qs;intro x hx;refine⟨_,Ua h hl.c hl.t hl.g hl.f,_,fun _=>Yh,fun g=>Lt ?_,fun g=>?_⟩
  ·rintro⟨wp,r⟩;rw[show Qx W=true from Ql.2 wp,show decide (W.now<=Qj)=true from Ih r.n] at g;cases g
  ·simp only[H',I6] at g;have wp:XS W:=Ql.1 g.1;have CJ0:=Ot g.2;have bM:=wp.a.gl;have iX:=wp.a.t;have rJ:=wp.a.c2;refine Xw W.ID.length 0 rfl (fun k=>k<=W.ID.length/\∀c:Int,0<=c->c<(k:Int)->(gi W.ID c).busy<=Qj/\(gi W.ID c).idle<=Qj) ⟨Ic _,fun c a b=>by omega⟩ fun k ⟨hk,hI⟩=>⟨fun IS=>?_,fun Ry=>?_⟩
   ·have IS:=Ot IS;refine⟨h.c.ix ZP Qo IS,_,h.c.f Qo IS (j:=3) rfl,_,Yh,fun _=>h.c.ix ZP Qo IS,_,fun _=>h.c.f Qo IS (j:=4) rfl,_,fun _=>Yh,fun g2=>Lt ?_,fun g2=>⟨⟨Qo,Qo⟩,QB Qo ⟨Qo,fun c a b=>?_⟩⟩⟩
    ·rintro⟨_,r⟩;have:=r.c (k:Int) Qo IS;rw[Ih this.1,Ih this.2] at g2;cases g2
    ·by_cases e:c=(k:Int)
     ·subst e;simp only[H',I6] at g2;exact⟨Ot g2.1,Ot g2.2⟩
     ·exact hI c a Qo
   have Ry:=Ou Ry;have hC:∀c:Int,0<=c->c<(W.ID.length:Int)->(gi W.ID c).busy<=Qj/\(gi W.ID c).idle<=Qj:=fun c a b=>hI c a Qo
   clear hI;refine Xw W.tasks.length 0 rfl (fun k=>k<=W.tasks.length/\∀t:Int,0<=t->t<(k:Int)->(gi W.tasks t).v<=Qj/\(gi W.tasks t).sum<=Qj/\(gi W.tasks t).used<=Qj) ⟨Ic _,fun c a b=>by omega⟩ fun k ⟨hk,hI⟩=>⟨fun IS=>?_,fun Ry=>?_⟩
   ·have IS:=Ot IS;have V':=h.t.ix QG (i:=(k:Int)) Qo IS;refine⟨V',_,h.t.f Qo IS (j:=5) rfl,_,Yh,fun _=>V',_,fun _=>h.t.f Qo IS (j:=6) rfl,_,fun _=>Yh,fun _=>V',_,fun _=>h.t.f Qo IS (j:=7) rfl,_,fun _=>Yh,fun g2=>Lt ?_,fun g2=>⟨⟨Qo,Qo⟩,QB Qo ⟨Qo,fun c a b=>?_⟩⟩⟩
    ·rintro⟨_,r⟩;have:=r.t (k:Int) Qo IS;rw[Ih this.1,Ih this.2.1,Ih this.2.2] at g2;cases g2
    ·by_cases e:c=(k:Int)
     ·subst e;simp only[H',I6] at g2;exact⟨Ot g2.1.1,Ot g2.1.2,Ot g2.2⟩
     ·exact hI c a Qo
   have Ry:=Ou Ry;have hT:∀t:Int,0<=t->t<(W.tasks.length:Int)->(gi W.tasks t).v<=Qj/\(gi W.tasks t).sum<=Qj/\(gi W.tasks t).used<=Qj:=fun c a b=>hI c a Qo
   clear hI;refine Xw W.IC.length 0 rfl (fun k=>k<=W.IC.length/\∀j:Int,0<=j->j<(k:Int)->(gi W.IC j).sum<=Qj/\∀c:Int,0<=c->c<((gi W.IC j).IE.length:Int)->(Qc W j c).floor<=Qj/\(Qc W j c).v<=Qj/\(Qc W j c).sum<=Qj) ⟨Ic _,fun c a b=>by omega⟩ fun k ⟨hk,hI⟩=>⟨fun IS=>?_,fun Ry=>?_⟩
   ·have IS:=Ot IS;have V':=h.g.ix (i:=(k:Int)) Qo IS
    have hsl:(gi W.IC (k:Int)).IE.length<=4:=by
     have:=wp.a.grp (k:Int) Qo Qo
     cases hu:(gi W.IC (k:Int)).used with
     | true=>have:=(this.2 hu).len; omega
     | false=>have:=(this.1 hu).l; omega
    refine⟨V',_,(h.g.cells (k:Int) Qo IS).get 7 _ rfl,_,Yh,fun g2=>Lt ?_,fun g2=>?_⟩
    ·rintro⟨_,r⟩;have:=r.g (k:Int) Qo IS;rw[Ih this] at g2;cases g2
    have g2:(gi W.IC (k:Int)).sum<=Qj:=by simpa using g2
    have hrs:=h.g.IE (k:Int) Qo IS;refine Xw (gi W.IC (k:Int)).IE.length 0 rfl (fun q=>q<=(gi W.IC (k:Int)).IE.length/\∀c:Int,0<=c->c<(q:Int)->(Qc W (k:Int) c).floor<=Qj/\(Qc W (k:Int) c).v<=Qj/\(Qc W (k:Int) c).sum<=Qj) ⟨Ic _,fun c a b=>by omega⟩ fun q ⟨hq,hJ⟩=>⟨V',_,_,_,h.g.RC Qo IS,fun Rr=>?_,fun aP=>?_⟩
    ·have Rr:=Ot Rr;refine⟨V',_,_,_,h.g.RC Qo IS,hrs.ix YW Qo Rr,_,_,_,_,_,hrs (q:Int) Qo Rr,fun b1 dI=>⟨_,Yh,_,fun _=>Yh,_,fun _=>Yh,fun g3=>Lt ?_,fun g3=>⟨⟨Qo,Qo⟩,QB Qo ⟨Qo,fun c a b=>?_⟩⟩⟩⟩
     ·rintro⟨_,r⟩;have:=r.s (k:Int) (q:Int) Qo IS Qo Rr;unfold Qc at this;rw[Ih this.1,Ih this.2.1,Ih this.2.2] at g3;cases g3
     ·by_cases e:c=(q:Int)
      ·subst e;simp only[H',I6] at g3;exact⟨Ot g3.1.1,Ot g3.1.2,Ot g3.2⟩
      ·exact hJ c a Qo
    ·have aP:=Ou aP;refine⟨⟨Qo,Qo⟩,QB Qo ⟨Qo,fun j a b=>?_⟩⟩
     by_cases e:j=(k:Int)
     ·subst e;exact⟨g2,fun c a b=>hJ c a Qo⟩
     ·exact hI j a Qo
   ·have Ry:=Ou Ry;exact zmf ⟨wp,⟨CJ0,hC,hT,fun j a b=>(hI j a Qo).1,fun j c a b c0 c1=>(hI j a Qo).2 c c0 c1⟩⟩
theorem JB{t:Int}(h:XQ bs w W m)(hl:W.tasks.length<=maxLen):PX bs YI #[.agg (Qa W m).toArray,I t] w (.bool (Yb W t)):=
 zfx _ _ _ _ _ _ _ _ _ _ t fun wr hx=>by
  have h:=(h.ext hx).less (cs:=[]) Qs;intro x hx;have:=XA;refine⟨⟨Qo,Qo⟩,_,Qp,fun g=>?_,_,fun g=>?_,rfl⟩
  ·have:=Qu.1 g;exact h.t.ix QG Qo Qo
  ·have:=Qu.1 g;exact h.t.f Qo Qo (j:=0) rfl
end
structure FG (base:Nat) (bs:List Nat) (w:Wo) (o:OA) (cap:Nat) (ps:List (ZO×MG)):Prop where
 own:KC base w o cap ps
 nb:∀x∈QI o,x∉bs
 nm:∀i:Int,0<=i->i<(ps.length:Int)->∀x∈Qr (gi ps i).2,x∉bs
section
variable {base:Nat}{bs cs:List Nat}{w w':Wo}{o:OA}{cap:Nat}{ps:List (ZO×MG)}{b:Nat}
theorem FG.lt(h:FG base bs w o cap ps):(∀x∈QI o,base<=x/\x<w.heap.size)/\∀i:Int,0<=i->i<(ps.length:Int)->∀x∈Qr (gi ps i).2,base<=x/\x<w.heap.size:=⟨h.own.row.lt,fun i a b=>(h.own.each i a b).lt⟩
theorem FG.ext(h:FG base bs w o cap ps)(hx:Q0 cs w w')(h1:∀x∈QI o,x∉cs)(h2:∀i:Int,0<=i->i<(ps.length:Int)->∀x∈Qr (gi ps i).2,x∉cs):FG base bs w' o cap ps:=
 ⟨⟨h.own.row.ext hx h1,fun i a b=>(h.own.each i a b).ext hx (h2 i a b),h.own.dj⟩,h.nb,h.nm⟩
theorem FG.step(h:FG base bs w o cap ps)(hx:Q0 bs w w'):FG base bs w' o cap ps:=h.ext hx h.nb h.nm
theorem FG.M'(h:FG base bs w o cap ps)(hx:Q0 [] w w'):FG base bs w' o cap ps:=h.ext hx Qs Qs
theorem FG.add(h:FG base bs w o cap ps)(hb:w.heap.size<=b):FG base (bs++[b]) w o cap ps:=
 have key:∀x,x<w.heap.size->x∉bs->x∉bs++[b]:=fun x hl hx hm=>by
  rcases Im.1 hm with hm | hm
  ·exact hx hm
  ·have:x=b:=by simpa using hm
   omega
 ⟨h.own,fun x hx=>key x (h.lt.1 x hx).2 (h.nb x hx),fun i a c x hx=>key x (h.lt.2 i a c x hx).2 (h.nm i a c x hx)⟩
theorem FG.put(h:FG base bs w o cap ps)(hx:Q0 bs w w')(hb:w.heap.size<=b):FG base (bs++[b]) w' o cap ps:=⟨(h.step hx).own,(h.add hb).nb,(h.add hb).nm⟩
theorem FG.sub(h:FG base bs w o cap ps)(hs:∀x∈cs,x∈bs):FG base cs w o cap ps:=⟨h.own,fun x hx hm=>h.nb x hx (hs x hm),fun i a c x hx hm=>h.nm i a c x hx (hs x hm)⟩
theorem FG.nil(base:Nat)(bs:List Nat)(w:Wo):FG base bs w none 0 []:=⟨⟨.inl ⟨rfl,rfl,rfl⟩,fun i a b=>by simp at b; omega,fun i j a b=>by simp at b; omega⟩,by simp[QI],fun i a b=>by simp at b; omega⟩
theorem zzq{α:Type}[Inhabited α]{l:List α}{x:α}{i:Int}(h0:0<=i)(h1:i<(l.length:Int)):gi (l++[x]) i=gi l i:=by
 obtain⟨k,rfl⟩:=Int.eq_ofNat_of_zero_le h0;rw[VG (by simp; omega),VG Qo,List.getElem_append_left]
theorem zw0{α:Type}[Inhabited α]{l:List α}{x:α}:gi (l++[x]) (l.length:Int)=x:=by
 rw[VG Qs]; simp
theorem FG.AK7{p:ZO×MG}{t':TypeId}{fz:Nat×Nat}(h:FG base bs w o cap ps)(hs:∀x∈bs,x<w.heap.size)(rH:base<=w.heap.size)(hp:Pj base w p)(hpb:∀x∈Qr p.2,x∉bs)(hd:∀i:Int,0<=i->i<(ps.length:Int)->∀x∈Qr (gi ps i).2,x∉Qr p.2)(hb:w.heap[b]? = some (.cells (TL p).toArray t' fz))(h1:Zd (TL p)=true)(hl:ps.length<=1048576)(tr:TypeId)(cs:Array Bool) :
  ∃o' pF w',(builtin .append #[Qz,Qz] tr cs #[.slice o ps.length cap,.slice (some ⟨b,0,none⟩) 1 1]).run Tryz.prog w=.ok (.value (.slice o' (ps++[p]).length pF)) w'/\Q9 bs w w'/\FG base bs w' o' pF (ps++[p])/\Q0 (QI o) w w':=by
 obtain⟨o2,c2,w2,Wp,hk,hO,hx⟩:=Ob.AK7 Yk Pa (⟨h.own.row,h.nb⟩:Ob TL 14 QS base bs w o cap ps) hs rH hb h1 hl Qd tr cs;have hlen:(ps++[p]).length=ps.length+1:=Qs
 have BE6:∀i:Int,0<=i->i<((ps++[p]).length:Int)->(i<(ps.length:Int)/\gi (ps++[p]) i=gi ps i)\/(i=(ps.length:Int)/\gi (ps++[p]) i=p):=fun i a b=>by
  by_cases e:i<(ps.length:Int)
  ·exact .inl ⟨e,zzq a e⟩
  ·have:i=(ps.length:Int):=Qo;subst this;exact .inr ⟨rfl,zw0⟩
 refine⟨o2,c2,w2,Wp,hk,⟨⟨hO.own,fun i a b=>?_,fun i j a b c d e=>?_⟩,hO.nb,fun i a b=>?_⟩,hx⟩
 ·rcases BE6 i a b with ⟨hi,hg⟩ | ⟨hi,hg⟩
  ·rw[hg]; exact(h.own.each i a hi).ext hx (Jh h.own.row (h.own.each i a hi))
  ·rw[hg]; exact hp.ext hx (Jh h.own.row hp)
 ·rcases BE6 i a b with ⟨hi,hg⟩ | ⟨hi,hg⟩ <;> rcases BE6 j c d with ⟨hj,hg'⟩ | ⟨hj,hg'⟩
  ·rw[hg,hg']; exact h.own.dj i j a hi c hj e
  ·rw[hg,hg']; exact hd i a hi
  ·rw[hg,hg']; exact fun x hx hm=>hd j c hj x hm hx
  ·omega
 ·rcases BE6 i a b with ⟨hi,hg⟩ | ⟨hi,hg⟩
  ·rw[hg]; exact h.nm i a hi
  ·rw[hg]; exact hpb
end
theorem z1k(g:ZO)(m:MG):Zd (Yq g m)=true:=rfl
theorem LR{W:Q8}(ha:WA W){k:Int}(k0:0<=k)(k1:k<8):(gi W.IC k).IQ.Rw.length=(gi W.IC k).IQ.locals.length/\(gi W.IC k).IQ.locals.length<=4/\(gi W.IC k).IE.length<=4:=by
 have hg:=ha.grp k k0 k1;have hc:=ha.c2
 cases hu:(gi W.IC k).used with
 | false=>
  have:=hg.1 hu;have hb:=Gv this.b;have:=this.l;omega
 | true=>
  have:=hg.2 hu;have hl:=this.len
  by_cases hq:(gi W.IC k).IQ.IW=0
  ·have hb:=Gv (this.none hq).1;omega
  ·have hb:=(this.IQ hq).1;have h1:=hb.dl;have h2:=hb.l2;omega
section
variable {W:Q8}{m:MW}{w:Wo}{bs:List Nat}
def Tw(W:Q8)(ms:Nat->MG)(k:Nat):List (ZO×MG):=(List.range k).map fun (j:Nat)=>(gi W.IC (j:Int),ms j)
theorem YM(W:Q8)(ms:Nat->MG)(k:Nat):(Tw W ms k).length=k:=by simp[Tw]
theorem Hb{W:Q8}{ms:Nat->MG}{k:Nat}{i:Int}(h0:0<=i)(h1:i<(k:Int)):gi (Tw W ms k) i=(gi W.IC i,ms i.toNat):=by
 obtain⟨j,rfl⟩:=Int.eq_ofNat_of_zero_le h0;rw[VG (by rw[YM]; omega)];simp[Tw]
theorem zr7(W:Q8)(ms:Nat->MG)(k:Nat)(p:MG):Tw W (fun j=>if j=k then p else ms j) (k+1)=Tw W ms k++[(gi W.IC (k:Int),p)]:=by
 unfold Tw;rw[List.range_succ,List.map_append]
 congr 1
 ·refine List.map_congr_left fun j hj=>?_
  have:=List.mem_range.1 hj;show (_,if j=k then p else ms j)=_;rw[B' Qo]
 ·simp
theorem Pn(h:XQ [] w W m)(ha:WA W) :
  Cz JA #[.agg (Qa W m).toArray] w fun e w'=>∃m',e=.returned (.agg (Qa W m').toArray)/\Zf 8 w.heap.size w' W m'/\Q0 [] w w':=by
 refine(zim _ _ _ _ _ _ _ _ _ _ (R:=fun v w'=>∃m',v=.agg (Qa W m').toArray/\Zf 8 w.heap.size w' W m'/\Q0 [] w w') ?_).mono fun e w' ⟨v,he,m',hv,h3⟩=>⟨m',by rw[he,hv],h3⟩
 have rJ:=ha.c2;have iX:=ha.t;have bM:=ha.gl;intro x hx x1 S9 x2 R0;have s0:Sc w [x,x1,x2] w:=(((Sc.start w).add hx).add S9).add R0
 refine⟨fun vs w1=>∃(i:Nat) (cO:OA) (cC:Nat),vs=[I (i:Int),I W.now,.slice cO (W.ID.take i).length cC,.slice none 0 0,.slice none 0 0]/\i<=W.ID.length/\Sc w [x,x1,x2] w1/\Ob Hy 5 Zt w.heap.size [x,x1,x2] w1 cO cC (W.ID.take i),
  Zq W.ID.length 0,fun wr hx _=>⟨0,none,0,Qs,Ic _,s0.M' hx,⟨.inl ⟨rfl,rfl,rfl⟩,by simp[QI]⟩⟩,?_⟩
 rintro c1 l RO RW Sb RR S5 Sa RY RZ S4 Rx SS ⟨i,cO,cC,he,hi,s1,hC⟩;simp only[I4,I5,Iv,true_and,and_true] at he;obtain⟨rfl,rfl,⟨rfl,rfl,rfl⟩,⟨rfl,rfl,rfl⟩,rfl,rfl,rfl⟩:=he;refine⟨fun IS=>?_,fun Ry=>?_⟩
 ·have IS:=Ot IS;have hr:=h.c.scb s1;refine⟨hr.ix ZP Qo IS,_,_,_,_,_,hr i Qo IS,fun b4 hb4=>⟨rfl,fun Rp R4 dQ Wr=>?_⟩⟩;have s2:=s1.put R4 hb4;have hC2:=hC.put R4 hb4;obtain⟨o2,c2,w2,Wp,hk2,hC3,Sn⟩:=hC2.AK7 H1 K5 (x:=gi W.ID (i:Int)) dQ s2.ext.size Wr (z0a _) (by rw[List.length_take]; omega) Qd Zm #[false,false];rw[GK Qo] at Wp hC3;have s3:=s2.call Sn fun y hm=>(hC2.own.lt y hm).1
  refine⟨_,_,_,w2,Wp,hk2,⟨Qo,Qo⟩,fun w5 Sg _=>⟨⟨i+1,o2,c2,rfl,Qo,(s3.step Sg).sub Qs,(hC3.step Sg).sub Qs⟩,?_⟩⟩;simp only[Zq,Xc,ZR,Ie]; omega
 have Ry:=Ou Ry;rw[show W.ID.take i=W.ID from List.take_of_length_le Qo] at hC ⊢
 refine⟨fun vs w1=>∃(i:Nat) (tO:OA) (tC:Nat),vs=[I (i:Int),I W.now,.slice RO W.ID.length Sb,.slice tO (W.tasks.take i).length tC,.slice none 0 0]/\i<=W.tasks.length/\Sc w [x,x1,x2] w1/\Ob Hy 5 Zt w.heap.size [x,x1,x2] w1 RO Sb W.ID/\Ob Xv 9 QD w.heap.size [x,x1,x2] w1 tO tC (W.tasks.take i),
  Zq W.tasks.length 0,fun wr hx _=>⟨0,none,0,Qs,Ic _,s1.step hx,hC.step hx,⟨.inl ⟨rfl,rfl,rfl⟩,by simp[QI]⟩⟩,?_⟩
 clear hC s1 hi Ry SS;rintro t1 l4 lF gS lD kY nM kX jI mQ lG dJ hs6 ⟨i,tO,tC,he,hi,s1,hC,hT⟩;simp only[I4,I5,Iv,true_and,and_true] at he;obtain⟨rfl,rfl,⟨rfl,rfl,rfl⟩,⟨rfl,rfl,rfl⟩,rfl,rfl,rfl⟩:=he;refine⟨fun IS=>?_,fun Ry=>?_⟩
 ·have IS:=Ot IS;have hr:=h.t.scb s1;refine⟨hr.ix QG Qo IS,_,_,_,_,_,_,_,_,_,hr i Qo IS,fun b4 hb4=>⟨rfl,fun Rp R4 dQ Wr=>?_⟩⟩;have s2:=s1.put R4 hb4;have hC2:=hC.put R4 hb4;have hT2:=hT.put R4 hb4;obtain⟨o2,c2,w2,Wp,hk2,hT3,Sn⟩:=hT2.AK7 PF Mf (x:=gi W.tasks (i:Int)) dQ s2.ext.size Wr (z1l _) (by rw[List.length_take]; omega) Qd QZ #[false,false];rw[GK Qo] at Wp hT3;have s3:=s2.call Sn fun y hm=>(hT2.own.lt y hm).1
  have hC3:=hC2.call Sn (hC2.own.SR hT2.own Qd);refine⟨_,_,_,w2,Wp,hk2,⟨Qo,Qo⟩,fun w5 Sg _=>⟨⟨i+1,o2,c2,rfl,Qo,(s3.step Sg).sub Qs,(hC3.step Sg).sub Qs,(hT3.step Sg).sub Qs⟩,?_⟩⟩;simp only[Zq,Xc,ZR,Ie]; omega
 have Ry:=Ou Ry;rw[show W.tasks.take i=W.tasks from List.take_of_length_le Qo] at hT ⊢
 refine⟨fun vs w1=>∃(i:Nat) (gO:OA) (gC:Nat) (ms:Nat->MG),vs=[I (i:Int),I W.now,.slice lF W.ID.length lD,.slice kY W.tasks.length kX,.slice gO (Tw W ms i).length gC]/\i<=W.IC.length/\Sc w [x,x1,x2] w1/\Ob Hy 5 Zt w.heap.size [x,x1,x2] w1 lF lD W.ID/\Ob Xv 9 QD w.heap.size [x,x1,x2] w1 kY kX W.tasks/\FG w.heap.size [x,x1,x2] w1 gO gC (Tw W ms i),
  Zq W.IC.length 0,fun wr hx _=>⟨0,none,0,fun _=>default,by simp[Tw],Ic _,s1.step hx,hC.step hx,hT.step hx,FG.nil _ _ _⟩,?_⟩
 clear hC hT s1 hi Ry hs6;rintro k1 l22 Aw2 BO9 Aw1 Aw4 BP0 Aw3 A87 Bc0 A86 kP DC0 ⟨i,gO,gC,ms,he,hi,s1,hC,hT,hG⟩;simp only[I4,I5,Iv,true_and,and_true] at he;obtain⟨rfl,rfl,⟨rfl,rfl,rfl⟩,⟨rfl,rfl,rfl⟩,rfl,rfl,rfl⟩:=he;refine⟨fun IS=>?_,fun Ry=>?_⟩
 ·have IS:=Ot IS;have hr:=h.g.ext s1.ext;have hrb:KX [x,x1,x2] kP m.gO W.IC m.ms:=(h.g.wide (cs:=[x,x1,x2]) fun y hm=>.inr (s1.new y hm)).ext s1.ext.of_nil;have V':=hrb.ix (i:=(i:Int)) Qo IS;obtain⟨bl1,bl2,bl3⟩:=LR ha (k:=(i:Int)) Qo Qo;refine⟨V',_,_,_,_,_,_,_,_,_,_,_,_,_,_,_,_,_,_,_,_,hrb.cells (i:Int) Qo IS,fun lZ Bl9=>⟨V',_,_,_,_,_,_,_,_,_,hrb.IQ Qo IS,fun dP Bn8 B39=>?_⟩⟩;have s2:=s1.put Bn8 Bl9;have hC2:=hC.put Bn8 Bl9;have hT2:=hT.put Bn8 Bl9;have hG2:=hG.put Bn8 Bl9;have sS:=h.g.ext s2.ext;refine I3 (EX (sS.locals (i:Int) Qo IS) (sS.Rw (i:Int) Qo IS) bl1 Qo) ?_;rintro e mU ⟨p,he,hB,hy⟩;have s3:=s2.M' hy;have hC3:=hC2.M' hy;have hT3:=hT2.M' hy;have hG3:=hG2.M' hy;have hBn:∀y∈Yn p,dP.heap.size<=y:=fun y hm=>(hB.lt y hm).1
  have hBb:∀y∈Yn p,y∉[x,x1,x2]++[lZ]:=fun y hm fE=>by
   have:=hBn y hm;have:=B39 y fE;omega
  refine⟨_,_,_,_,_,_,_,_,_,he,Qe hy B39,fun vs w1=>∃(c:Nat) (sO:OA) (sC:Nat),vs=[I (c:Int),.bool (gi W.IC (i:Int)).used,I (gi W.IC (i:Int)).parent,.string (gi W.IC (i:Int)).name,I (gi W.IC (i:Int)).weight,I (gi W.IC (i:Int)).ID,I (gi W.IC (i:Int)).period,I (gi W.IC (i:Int)).next,I (gi W.IC (i:Int)).sum,I (gi W.IC (i:Int)).IQ.IW,I (gi W.IC (i:Int)).IQ.Rv,I (gi W.IC (i:Int)).IQ.Sl,.slice p.lO (gi W.IC (i:Int)).IQ.locals.length p.lC,.slice p.dO (gi W.IC (i:Int)).IQ.Rw.length p.dC,.slice sO ((gi W.IC (i:Int)).IE.take c).length sC]/\c<=(gi W.IC (i:Int)).IE.length/\Sc w ([x,x1,x2]++[lZ]) w1/\dP.heap.size<=w1.heap.size/\Ob Hy 5 Zt w.heap.size ([x,x1,x2]++[lZ]) w1 Aw2 Aw1 W.ID/\Ob Xv 9 QD w.heap.size ([x,x1,x2]++[lZ]) w1 Aw4 Aw3 W.tasks/\FG w.heap.size ([x,x1,x2]++[lZ]) w1 A87 A86 (Tw W ms i)/\Zn dP.heap.size w1 (gi W.IC (i:Int)).IQ p/\Ob PG 5 YF dP.heap.size ([x,x1,x2]++[lZ]) w1 sO sC ((gi W.IC (i:Int)).IE.take c),
   Zq (gi W.IC (i:Int)).IE.length 0,fun wr hx _=>⟨0,none,0,Qs,Ic _,s3.step hx,IA hy.size hx.size,hC3.step hx,hT3.step hx,hG3.step hx,hB.ext hx hBb,⟨.inl ⟨rfl,rfl,rfl⟩,by simp[QI]⟩⟩,?_⟩
  have qJ:w.heap.size<=dP.heap.size:=s2.ext.size;have CD2:=hG2.lt;clear hB s3 hC3 hT3 hG3 hC2 hT2;rintro c4 l26 l27 l28 l29 l30 l31 l32 l33 l34 l35 l36 Aw7 Aw6 Aw5 Ax0 Aw9 Aw8 Ap5 A88 Ap4 lI DC1 ⟨c,sO,sC,he,hc,s4,hz4,hC4,hT4,hG4,hB4,hS4⟩;simp only[I4,I5,Iv,Value.bool.injEq,Value.string.injEq,true_and,and_true] at he;obtain⟨rfl,rfl,rfl,rfl,rfl,rfl,rfl,rfl,rfl,rfl,rfl,rfl,⟨rfl,rfl,rfl⟩,⟨rfl,rfl,rfl⟩,rfl,rfl,rfl⟩:=he;have B36:KX ([x,x1,x2]++[lZ]) lI m.gO W.IC m.ms:=(h.g.wide (cs:=[x,x1,x2]++[lZ]) fun y hm=>.inr (s4.new y hm)).ext s4.ext.of_nil;refine⟨V',_,_,_,B36.RC Qo IS,fun Rr=>?_,fun aP=>?_⟩
  ·have Rr:=Ot Rr;have hrs:=B36.IE (i:Int) Qo IS;refine⟨V',_,_,_,B36.RC Qo IS,hrs.ix YW Qo Rr,_,_,_,_,_,hrs c Qo Rr,fun tU BZ1=>⟨rfl,fun iN A82 Ck6 Wr=>?_⟩⟩;have s5:=s4.put A82 BZ1;have hS5:=hS4.put A82 BZ1;have CL1:dP.heap.size<=iN.heap.size:=IA hz4 A82.size;obtain⟨o2,c2,w2,Wp,hk2,hS6,Sn⟩:=hS5.AK7 Pt Pb (x:=gi (gi W.IC (i:Int)).IE (c:Int)) Ck6 CL1 Wr (z0c _) (by rw[List.length_take]; omega) Qd Z5 #[false,false];rw[GK Qo] at Wp hS6;have hG5:=hG4.put A82 BZ1;have hC5:=hC4.put A82 BZ1;have hT5:=hT4.put A82 BZ1;have hB5:=hB4.ext A82 hBb;have s6:=s5.call Sn fun y hm=>IA qJ (hS5.own.lt y hm).1
   have hC6:=hC5.call Sn (hC5.own.SR hS5.own Qd);have hT6:=hT5.call Sn (hT5.own.SR hS5.own Qd)
   have hG6:=hG5.ext Sn (hG5.own.row.SR hS5.own Qd) fun j a b y hm fE=>by
    have:=(CD2.2 j a b y hm).2;have:=(hS5.own.lt y fE).1;omega
   have Cc8:∀y∈Yn p,y∉[x,x1,x2]++[lZ]++[tU]:=fun y hm fE=>by
    rcases Im.1 fE with h2 | h2
    ·exact hBb y hm h2
    ·have:y=tU:=by simpa using h2
     have:=(hB4.lt y hm).2;omega
   have hB6:=hB5.ext Sn fun y hm=>by
    rcases Im.1 hm with hm | hm
    ·exact hB5.loc.SR hS5.own Qd y hm
    ·exact hB5.Rw.SR hS5.own Qd y hm
   refine⟨_,_,_,w2,Wp,hk2,⟨Qo,Qo⟩,fun w5 Sg _=>⟨⟨c+1,o2,c2,rfl,Qo,(s6.step Sg).sub Qs,?_,(hC6.step Sg).sub Qs,(hT6.step Sg).sub Qs,(hG6.step Sg).sub Qs,hB6.ext Sg Cc8,(hS6.step Sg).sub Qs⟩,?_⟩⟩
   ·have:=Sn.size;have:=Sg.size;omega
   ·simp only[Zq,Xc,ZR,Ie]; omega
  ·have aP:=Ou aP;rw[show (gi W.IC (i:Int)).IE.take c=(gi W.IC (i:Int)).IE from List.take_of_length_le Qo] at hS4 ⊢;intro b13 BZ2 lH BO7 Ck7 Wr;have s5:=s4.put BO7 BZ2;have hG5:=hG4.put BO7 BZ2;have hC5:=hC4.put BO7 BZ2;have hT5:=hT4.put BO7 BZ2;have hB5:=hB4.ext BO7 hBb;have hS5:=hS4.put BO7 BZ2
   have Bu7:∀y∈Qr ⟨p.lO,p.lC,p.dO,p.dC,Ap5,Ap4⟩,dP.heap.size<=y/\y<lI.heap.size:=fun y hm=>by
    simp only[Qr,Im] at hm;rcases hm with (hm | hm) | hm
    ·exact hB4.loc.lt y hm
    ·exact hB4.Rw.lt y hm
    ·exact hS4.own.lt y hm
   obtain⟨o2,c2,w2,Wp,hk2,hG6,Sn⟩:=hG5.AK7 (p:=(gi W.IC (i:Int),⟨p.lO,p.lC,p.dO,p.dC,Ap5,Ap4⟩)) Ck7 s5.ext.size ⟨(hB5.mono qJ).loc,(hB5.mono qJ).Rw,hS5.own.mono qJ⟩ (fun y hm fE=>by
     have h1:=Bu7 y hm;rcases Im.1 fE with h2 | h2
     ·have:=B39 y h2; omega
     ·have:y=b13:=by simpa using h2
      omega) (fun j a b y hm fE=>by
     have:=(CD2.2 j a b y hm).2;have:=(Bu7 y fE).1;omega) Wr (z1k _ _) (by rw[YM]; omega) Qz #[false,false]
   rw[<-zr7] at Wp hG6;have s6:=s5.call Sn fun y hm=>(hG5.own.row.lt y hm).1
   have hC6:=hC5.call Sn (hC5.own.SR hG5.own.row Qd);have hT6:=hT5.call Sn (hT5.own.SR hG5.own.row Qd);refine⟨_,_,_,w2,Wp,hk2,⟨Qo,Qo⟩,fun w5 Sg _=>⟨⟨i+1,o2,c2,_,rfl,Qo,(s6.step Sg).sub Qs,(hC6.step Sg).sub Qs,(hT6.step Sg).sub Qs,(hG6.step Sg).sub Qs⟩,?_⟩⟩;simp only[Zq,Xc,ZR,Ie]; omega
 ·have Ry:=Ou Ry;have hi8:i=W.IC.length:=Qo;subst hi8;refine fun w9 lB=>⟨⟨Aw2,Aw1,Aw4,Aw3,A87,A86,ms⟩,?_,⟨(hC.step lB).own,(hT.step lB).own,(hG.step lB).own,bM⟩,(s1.step lB).ext⟩
  rw[YM];rfl
theorem Zc(h:XQ [] w W m)(hl:UN W) :
  Cz QV #[.agg (Qa W m).toArray] w fun e w'=>(Qx W=false/\e=.returned (.tuple #[.agg (Qa KA zwb).toArray,I 1])/\Q0 [] w w')\/(Qx W=true/\∃m',e=.returned (.tuple #[.agg (Qa W m').toArray,I (if QQ W=true then 0 else 10)])/\Zf 8 w.heap.size w' W m'/\Q0 [] w w'):=by
 refine(Ao _ _ _ _ _ _ _ _ _ _ (R:=fun v w'=>(Qx W=false/\v=.tuple #[.agg (Qa KA zwb).toArray,I 1]/\Q0 [] w w')\/(Qx W=true/\∃m',v=.tuple #[.agg (Qa W m').toArray,I (if QQ W=true then 0 else 10)]/\Zf 8 w.heap.size w' W m'/\Q0 [] w w')) ?_).mono fun e w' ⟨v,he,h3⟩=>by
  rw[he];rcases h3 with ⟨a,hv,b⟩ | ⟨a,m',hv,b⟩
  ·exact .inl ⟨a,by rw[hv],b⟩
  ·exact .inr ⟨a,m',by rw[hv],b⟩
 intro x hx x1 S9;refine⟨_,Ua h hl.c hl.t hl.g hl.f,fun g wr hx=>.inl ⟨by simpa using g,rfl,hx⟩,fun g I' R0 cX=>?_⟩;have hW:Qx W=true:=by simpa using g
 have wp:=Ql.1 hW;refine I3 (Pn (h.ext R0) wp.a) ?_;rintro e wv ⟨m',he,hM,hy⟩
 have hnb:∀y∈QR 8 m',y∉[x,x1]:=fun y hy hm=>by
  have:=(hM.lt y hy).1;have:=cX y hm;omega
 have hro:=Kg (hM.rd hnb) hl;have Au9:∀w2,Q0 [x,x1] wv w2->Zf 8 w.heap.size w2 W m'/\Q0 [] w w2:=fun w2 h2=>⟨(hM.mono R0.size).ext h2 hnb,(R0.trans hy).fresh h2 fun y hm=>.inl (Yi hx S9 y hm)⟩
 refine⟨_,_,_,_,_,_,_,_,_,_,he,Qe hy cX,_,hro,fun g2 w2 h2=>.inr ⟨hW,m',?_,Au9 w2 h2⟩,fun g2 w2 h2=>.inr ⟨hW,m',?_,Au9 w2 h2⟩⟩
 ·have:¬QQ W=true:=fun hr=>by
   rw[show JH (XS W/\KY W)=true from Ql.2 ⟨wp,Ql.1 hr⟩] at g2;cases g2
  rw[B' this]; rfl
 ·have hd:JH (XS W/\KY W)=true:=by simpa using g2
  have:QQ W=true:=Ql.2 (Ql.1 hd).2;rw[C' this]; rfl
end
structure Wk (n:Nat) (bs:List Nat) (w0 w:Wo) (W:Q8) (m:MW):Prop where
 s:Sc w0 bs w
 o:OW n w0.heap.size bs w W m
section
variable {n:Nat}{bs cs:List Nat}{w0 w w':Wo}{W W':Q8}{m m':MW}{b:Nat}
theorem Wk.step(h:Wk n bs w0 w W m)(hx:Q0 bs w w'):Wk n bs w0 w' W m:=⟨h.s.step hx,h.o.step hx⟩
theorem Wk.M'(h:Wk n bs w0 w W m)(hx:Q0 [] w w'):Wk n bs w0 w' W m:=⟨h.s.M' hx,h.o.M' hx⟩
theorem Wk.add(h:Wk n bs w0 w W m)(hb:w.heap.size<=b):Wk n (bs++[b]) w0 w W m:=⟨h.s.add hb,h.o.add hb⟩
theorem Wk.sub(h:Wk n bs w0 w W m)(hs:∀x∈cs,x∈bs):Wk n cs w0 w W m:=⟨h.s.sub hs,h.o.sub hs⟩
theorem Wk.rd(h:Wk n bs w0 w W m):XQ bs w W m:=h.o.rd
theorem Wk.own(h:Wk n bs w0 w W m):Zf n w0.heap.size w W m:=h.o.own
theorem Wk.nb(h:Wk n bs w0 w W m):∀x∈QR n m,x∉bs:=h.o.nb
theorem Wk.base(h:Wk n bs w0 w W m):w0.heap.size<=w.heap.size:=h.s.ext.size
theorem Wk.Sj(h:Wk n bs w0 w W m)(k:Mv n w0.heap.size [] w m w' W' m')(hs:∀x∈bs,x<w.heap.size):Wk n bs w0 w' W' m':=
 ⟨h.s.call k.ext fun x hx=>(h.o.own.lt x hx).1,⟨k.own,fun x hx hm=>by
  rcases k.sub x hx with h1 | h1
  ·exact h.o.nb x h1 hm
  ·have:=hs x hm;omega⟩⟩
theorem Wk.kept(h:Wk n bs w0 w W m)(k:Mv n w0.heap.size [] w m w' W' m')(hs:∀x∈bs,x<w.heap.size):Q9 bs w w':=fun x hm=>k.ext.block x (hs x hm) fun fE=>h.o.nb x fE hm
theorem Wk.Rl(h:Wk n bs w0 w W m)(k:Zf n w0.heap.size w' W' m)(hx:Q0 (QR n m) w w'):Wk n bs w0 w' W' m:=⟨h.s.call hx fun x hx=>(h.o.own.lt x hx).1,⟨k,h.o.nb⟩⟩
theorem Wk.fin(h:Wk n bs w0 w W m):Zf n w0.heap.size w W m/\Q0 [] w0 w:=⟨h.o.own,h.s.ext⟩
end
def QL(r:Q8×Int)(w:Wo)(v:Va)(w':Wo):Prop:=∃n m',v=.tuple #[.agg (Qa r.1 m').toArray,I r.2]/\Zf n w.heap.size w' r.1 m'/\Q0 [] w w'
theorem Zf.zero(base:Nat)(w:Wo):Zf 0 base w KA zwb:=⟨.inl ⟨rfl,rfl,rfl⟩,.inl ⟨rfl,rfl,rfl⟩,⟨.inl ⟨rfl,rfl,rfl⟩,fun i a b=>by simp[zpx,KA] at b; omega,fun i j a b=>by simp[zpx,KA] at b; omega⟩,rfl⟩
section
variable {W W':Q8}{m:MW}{w:Wo}{bar:Int}
theorem QL.bad{w':Wo}(hW:Qx W=false)(hx:Q0 [] w w'):QL (Yp W bar W') w (.tuple #[.agg (Qa KA zwb).toArray,I 1]) w':=by
 rw[zot hW];exact⟨0,zwb,rfl,Zf.zero _ _,hx⟩
theorem QL.no{n:Nat}{bs:List Nat}{w':Wo}{m':MW}(hW:Qx W=true)(hb:bar≠0)(hk:Wk n bs w w' W m'){c:Int}(hc:bar=c):QL (Yp W bar W') w (.tuple #[.agg (Qa W m').toArray,I c]) w':=by
 rw[Ci hW hb,hc];exact⟨n,m',rfl,hk.fin⟩
theorem QL.ok{n:Nat}{bs:List Nat}{w':Wo}{m':MW}(hW:Qx W=true)(hb:bar=0)(hk:Wk n bs w w' W' m'):QL (Yp W bar W') w (.tuple #[.agg (Qa W' m').toArray,I 0]) w':=by
 rw[zhz hW hb];exact⟨n,m',rfl,hk.fin⟩
theorem Wk.begin{x x1:Nat}{wr wv:Wo}{m':MW}(hx:w.heap.size<=x)(S9:w.heap.size<=x1)(R0:Q0 [] w wr)(hs:∀y∈[x,x1],y<wr.heap.size)(hM:Zf 8 wr.heap.size wv W m')(hy:Q0 [] wr wv):Wk 8 [x,x1] w wv W m':=
 ⟨⟨R0.trans hy,Yi hx S9⟩,(OW.of hM hs).mono R0.size⟩
theorem Bz{t:Int}(h:XQ [] w W m)(hl:UN W) :
  Cz T7 #[.agg (Qa W m).toArray,I t] w fun e w'=>∃v,e=.returned v/\QL (Yp W (VS W t) (zh6 W t)) w v w':=by
 refine Bg _ _ _ _ _ _ _ _ _ _ t (R:=fun v w'=>QL (Yp W (VS W t) (zh6 W t)) w v w') ?_;intro x hx x1 S9 wr R0 SS;refine I3 (Zc (h.ext R0) hl) ?_;rintro e wv (⟨hW,he,hy⟩ | ⟨hW,m',he,hM,hy⟩)
 ·exact⟨_,_,_,_,_,_,_,_,_,_,_,he,Qe hy SS,fun _ I' R4=>QL.bad hW ((R0.trans hy).fresh R4 fun y hm=>.inl (Yi hx S9 y hm)),fun g=>by simp at g⟩
 have hK:=Wk.begin hx S9 R0 SS hM hy;have hr:=hK.rd;refine⟨_,_,_,_,_,_,_,_,_,_,_,he,Qe hy SS,fun g=>by split at g <;> simp at g,fun _=>⟨_,JB hr hl.t,fun g J' R4=>?_,fun g=>?_⟩⟩
 ·have g:Yb W t=false:=by simpa using g
  have hb:VS W t=2:=by unfold VS; rw[C' g]
  exact QL.no hW (by rw[hb]; decide) (hK.step R4) hb
 have g:Yb W t=true:=by simpa using g
 obtain⟨t0,t1,tn⟩:=YQ g;have V':=hr.t.ix QG t0 t1;refine⟨V',_,hr.t.f t0 t1 (j:=0) rfl,fun g2 Rp R4=>?_,fun g2=>⟨fun g3 Rt R4=>?_,fun g3=>?_⟩⟩
 ·have g2:(Q7 W t).state≠1:=by simpa[Q7] using g2
  have hb:VS W t=6:=by unfold VS; rw[B' (by rw[g]; decide),C' g2]
  exact QL.no hW (by rw[hb]; decide) (hK.step R4) hb
 ·have g2:¬(Q7 W t).state≠1:=by simpa[Q7] using g2
  have aQ:¬QQ W=true:=fun hr=>by rw[C' hr] at g3; simp at g3
  have hb:VS W t=10:=by unfold VS; rw[B' (by rw[g]; decide),B' g2,C' (by simpa using aQ)]
  rw[B' aQ];exact QL.no hW (by rw[hb]; decide) (hK.step R4) hb
 ·have g2:¬(Q7 W t).state≠1:=by simpa[Q7] using g2
  have aQ:QQ W=true:=Iq fun hr=>by rw[B' hr] at g3; simp at g3
  have hb:VS W t=0:=by unfold VS; rw[B' (by rw[g]; decide),B' g2,B' (by rw[aQ]; decide)]
  obtain⟨_,_,sw,sw1⟩:=zj6 hW hb;have SE:Zf 8 w.heap.size _ (IT W t { Q7 W t with state:=2 }) m':=hK.own.AA0 t0 t1 (j:=0) (vs:=[I 2]) (x:={ Q7 W t with state:=2 }) rfl Qs;refine⟨V',zqn hK.own hK.nb t0 t1 Qd,fun RH Sg jO=>?_⟩;have cQ:=(hK.Rl SE GJ).step Sg;have Rg:=Qv cQ.own sw1 Qd Qd cQ.base;have e5:Qa (IT W t { Q7 W t with state:=2 }) m'=Qa W m':=by simp[Qa,IT]
  rw[e5] at Rg;refine I3 Rg ?_;rintro e1 R1 ⟨m1,fJ,bE⟩;exact⟨_,_,_,_,_,_,_,_,_,_,fJ,cQ.kept bE jO,fun Sf aO=>QL.ok hW hb ((cQ.Sj bE jO).step aO)⟩
end
theorem Kt{α:Type}[Inhabited α]{l:List α}{i:Int}(h0:0<=i)(h1:i<(l.length:Int)):l.set i.toNat (gi l i)=l:=by
 obtain⟨k,rfl⟩:=Int.eq_ofNat_of_zero_le h0;rw[VG Qo,Ig,List.set_getElem_self]
theorem Ma{W:Q8}{k:Int}{b:UM}(h0:0<=k)(h1:k<(W.IC.length:Int)):gi (RI W k b).IC k={ gi W.IC k with IQ:=b }:=by
 unfold RI;rw[YY h0 h1 h0,C' rfl]
theorem zg6{W:Q8}{k:Int}{b b':UM}(h0:0<=k)(h1:k<(W.IC.length:Int)):RI (RI W k b) k b'=RI W k b':=by
 show Rf (RI W k b) k { gi (RI W k b).IC k with IQ:=b' }=_;rw[Ma h0 h1];unfold RI Rf;rw[List.set_set]
theorem zg7{W:Q8}{k:Int}{x y:ZO}:Rf (Rf W k x) k y=Rf W k y:=by unfold Rf; rw[List.set_set]
theorem zcy{W:Q8}{k:Int}(h0:0<=k)(h1:k<(W.IC.length:Int)):RI W k (gi W.IC k).IQ=W:=by
 show Rf W k (gi W.IC k)=W;unfold Rf;rw[Kt h0 h1]
section
variable {base:Nat}{W:Q8}{m:MW}{w:Wo}{k:Int}{b:UM}
abbrev zlo(m:MW)(k:Int):OA:=m.gO.map (·.add (Int.toNat k*14+8))
theorem B5(h:Zf 8 base w (RI W k b) m):W.IC.length=8:=by
 have:=h.len
 simpa[RI,Rf] using this
theorem Zf.At7(h:Zf 8 base w (RI W k b) m)(k0:0<=k)(k8:k<8):Q1 [] w m.gO (Int.toNat k*14+8) (Zv b (m.ms k.toNat))/\zqo [] w (m.ms k.toNat).lO b.locals/\zy9 [] w (m.ms k.toNat).dO b.Rw:=by
 have hr:=(h.rd (bs:=[]) Qs).g;have hl:=B5 h;have hl2:=h.len;have hg:=Ma (W:=W) (b:=b) k0 Qo;have h1:=hr.IQ k0 Qo;have h2:=hr.locals k k0 Qo;have h3:=hr.Rw k k0 Qo;rw[hg] at h1 h2 h3;exact⟨h1,h2,h3⟩
theorem Zf.bdC(h:Zf 8 base w (RI W k b) m)(k0:0<=k)(k8:k<8){j:Nat}{v:Va}(hj:(Zv b (m.ms k.toNat))[j]? = some v):Q1 [] w (zlo m k) (0+j) [v]:=zac (h.At7 k0 k8).1 hj
theorem Zf.rD(h:Zf 8 base w (RI W k b) m)(k0:0<=k)(k8:k<8):(zlo m k).isSome=true:=GI (h.At7 k0 k8).1
theorem Zf.BX5(h:Zf 8 base w (RI W k b) m)(k0:0<=k)(k8:k<8){j n:Nat}(hj:j+n<=5):X0 [] w (zlo m k) (0+j) n:=by
 have:=zqm h (bs:=[]) Qs k0 Qo (j:=8+j) (k:=n) Qo;refine FE.2 ?_;rw[Nat.zero_add,Nat.add_assoc];exact this
theorem Zf.BD9(h:Zf 8 base w (RI W k b) m)(k0:0<=k)(k8:k<8){c:Int}(c0:0<=c)(c1:c<(b.locals.length:Int)):X0 [] w (m.ms k.toNat).lO (Int.toNat c*1) 1:=by
 have hl:=B5 h;have:=z2w h (bs:=[]) Qs k0 Qo (c:=c) c0 (by rw[Ma k0 Qo]; exact c1) (j:=0) (k:=1) Qd;exact this
theorem Zf.Bs6(h:Zf 8 base w (RI W k b) m)(k0:0<=k)(k8:k<8){c:Int}(c0:0<=c)(c1:c<(b.Rw.length:Int)):X0 [] w (m.ms k.toNat).dO (Int.toNat c*1) 1:=by
 have hl:=B5 h;have:=z2v h (bs:=[]) Qs k0 Qo (c:=c) c0 (by rw[Ma k0 Qo]; exact c1) (j:=0) (k:=1) Qd;exact this
theorem Zf.At8(h:Zf 8 base w (RI W k b) m)(k0:0<=k)(k8:k<8){b':UM}(e1:b'.locals=b.locals)(e2:b'.Rw=b.Rw){j:Nat}{vs:List Va}(he:Zv b' (m.ms k.toNat)=(Zv b (m.ms k.toNat)).take j++vs++(Zv b (m.ms k.toNat)).drop (j+vs.length))(hj:j+vs.length<=5) :
  Zf 8 base (Rl w (zlo m k) (0+j) vs) (RI W k b') m:=by
 have hl:=B5 h;have hg:=Ma (W:=W) (b:=b) k0 Qo
 have this:Zf 8 base _ (Rf (RI W k b) k { gi W.IC k with IQ:=b' }) m:=h.Az4 k0 Qo (g:={ gi W.IC k with IQ:=b' }) (by rw[hg]; exact e1) (by rw[hg]; exact e2) (by rw[hg]) (j:=8+j) (vs:=vs) (by
  rw[hg];have e:∀x:UM,Yq { gi W.IC k with IQ:=x } (m.ms k.toNat)=(Yq (gi W.IC k) (m.ms k.toNat)).take 8++Zv x (m.ms k.toNat)++[.slice (m.ms k.toNat).sO (gi W.IC k).IE.length (m.ms k.toNat).sC]:=fun x=>rfl
  rw[e b',e b,he];have l8:((Yq (gi W.IC k) (m.ms k.toNat)).take 8).length=8:=rfl;have l5:(Zv b (m.ms k.toNat)).length=5:=rfl;generalize (Yq (gi W.IC k) (m.ms k.toNat)).take 8=A at l8;generalize Zv b (m.ms k.toNat)=B at l5
  have t1:(A++B++[Value.slice (m.ms k.toNat).sO (gi W.IC k).IE.length (m.ms k.toNat).sC]).take (8+j)=A++B.take j:=by
   rw[List.append_assoc,List.take_append,List.take_of_length_le Qo,l8,show 8+j-8=j by omega,List.take_append,show j-B.length=0 by omega,List.take_zero,List.append_nil]
  have t2:(A++B++[Value.slice (m.ms k.toNat).sO (gi W.IC k).IE.length (m.ms k.toNat).sC]).drop (8+j+vs.length)=B.drop (j+vs.length)++[Value.slice (m.ms k.toNat).sO (gi W.IC k).IE.length (m.ms k.toNat).sC]:=by
   rw[List.append_assoc,List.drop_append,List.drop_eq_nil_iff.2 Qo,List.nil_append,l8,show 8+j+vs.length-8=j+vs.length by omega,List.drop_append,show j+vs.length-B.length=0 by omega,List.drop_zero]
  rw[t1,t2];simp only[List.append_assoc]) Qo
 rw[show Rf (RI W k b) k { gi W.IC k with IQ:=b' }=RI W k b' from zg7] at this;rw[KT,Nat.zero_add,Nat.add_assoc];exact this
theorem Zf.AK9{j:Nat}{vs:List Va}:Q0 (QR 8 m) w (Rl w (zlo m k) (0+j) vs):=by rw[KT]; exact Cc
theorem Zf.An8(h:Zf 8 base w (RI W k b) m)(k0:0<=k)(k8:k<8){c:Int}(c0:0<=c)(c1:c<(b.locals.length:Int))(x:Int) :
  Zf 8 base (Rl w (m.ms k.toNat).lO (Int.toNat c*1) [I x]) (RI W k { b with locals:=b.locals.set c.toNat x }) m:=by
 have hl:=B5 h;have hg:=Ma (W:=W) (b:=b) k0 Qo;have hb:(gi (RI W k b).IC k).IQ=b:=by rw[hg]
 have this:Zf 8 base _ (RI (RI W k b) k { (gi (RI W k b).IC k).IQ with locals:=(gi (RI W k b).IC k).IQ.locals.set c.toNat x }) m:=h.cN k0 Qo c0 (by rw[hg]; exact c1) x;rw[zg6 k0 Qo,hb] at this;exact this
theorem Zf.BX4(h:Zf 8 base w (RI W k b) m)(k0:0<=k)(k8:k<8){c:Int}(c0:0<=c)(c1:c<(b.Rw.length:Int))(x:Bool) :
  Zf 8 base (Rl w (m.ms k.toNat).dO (Int.toNat c*1) [.bool x]) (RI W k { b with Rw:=b.Rw.set c.toNat x }) m:=by
 have hl:=B5 h;have hg:=Ma (W:=W) (b:=b) k0 Qo;have hb:(gi (RI W k b).IC k).IQ=b:=by rw[hg]
 have this:Zf 8 base _ (RI (RI W k b) k { (gi (RI W k b).IC k).IQ with Rw:=(gi (RI W k b).IC k).IQ.Rw.set c.toNat x }) m:=h.Bp1 k0 Qo c0 (by rw[hg]; exact c1) x;rw[zg6 k0 Qo,hb] at this;exact this
def zol(base:Nat)(W:Q8)(m:MW)(k:Int)(b':UM)(w w':Wo):Prop:=Zf 8 base w' (RI W k b') m/\Q0 (QR 8 m) w w'
theorem zbi(h:Zf 8 base w (RI W k b) m)(k0:0<=k)(k8:k<8)(hl:b.Rw.length<=1048576) :
  Cz Uk #[.pointer (zlo m k)] w fun e w'=>e=.returned (.tuple #[])/\zol base W m k { b with Rw:=List.replicate b.Rw.length false } w w':=by
 refine(Ab (zlo m k) (R:=fun v w'=>v=.tuple #[]/\zol base W m k { b with Rw:=List.replicate b.Rw.length false } w w') ?_).mono fun e w' ⟨v,he,hv,h3⟩=>⟨by rw[he,hv],h3⟩
 refine⟨h.rD k0 k8,_,_,_,h.bdC k0 k8 (j:=4) rfl,?_⟩;refine Xx b.Rw.length 0 rfl (fun j w1=>j<=b.Rw.length/\Zf 8 base w1 (RI W k { b with Rw:=List.replicate j false++b.Rw.drop j }) m/\Q0 (QR 8 m) w w1) (fun w1 S9 _=>⟨Ic _,by simpa using h.Wi S9,S9.of_nil⟩) fun j w1 hs ⟨hj,hO,hX⟩=>⟨fun IS=>?_,fun Ry=>?_⟩
 ·have IS:=Ot IS;have hlen:(List.replicate j false++b.Rw.drop j).length=b.Rw.length:=by simp; omega
  have c1:(j:Int)<((List.replicate j false++b.Rw.drop j).length:Int):=by rw[hlen]; exact IS
  have e1:=hO.BX4 k0 k8 (c:=(j:Int)) Qo c1 false;have Wr:=hO.bdC k0 k8 (j:=4) rfl;have V':=(hO.At7 k0 k8).2.2.ix Dq (i:=(j:Int)) Qo c1;refine⟨hO.rD k0 k8,_,_,_,Wr,V',hO.Bs6 k0 k8 Qo c1,⟨Qo,Qo⟩,fun w2 R0 _=>Qm Qo ⟨Qo,?_,?_⟩⟩
  ·have e2:=e1.Wi R0;simp only[Ig] at e2;rw[zmd _ _ Qo] at e2;exact e2
  ·exact(hX.trans (z1q Qo)).trans R0.of_nil
 ·have Ry:=Ou Ry;have hk2:j=b.Rw.length:=Qo;subst hk2;rw[List.drop_length,List.append_nil] at hO;exact fun w2 R0=>⟨rfl,hO.Wi R0,hX.trans R0.of_nil⟩
theorem zbf(h:Zf 8 base w (RI W k b) m)(k0:0<=k)(k8:k<8)(hb:Oq b){c:Int}(c0:0<=c)(c1:c<(b.locals.length:Int)) :
  Cz U5 #[.pointer (zlo m k),I c] w fun e w'=>e=.returned (I 0)/\zol base W m k (Ys b c) w w':=by
 refine(Hu (zlo m k) c (R:=fun v w'=>v=I 0/\zol base W m k (Ys b c) w w') ?_).mono fun e w' ⟨v,he,hv,h3⟩=>⟨by rw[he,hv],h3⟩
 have he':=hb.each c c0 c1;have p1:=hb.p1;have p2:=hb.p2;have q2:=hb.q2;have hs:=h.rD k0 k8;have hL:=(h.At7 k0 k8).2.1;have V':=hL.ix Jm c0 c1;have e1:=h.At8 k0 k8 (b':={ b with Rv:=b.Rv+gi b.locals c }) rfl rfl (j:=1) (vs:=[I (b.Rv+gi b.locals c)]) rfl Qs;have e2:=e1.An8 k0 k8 c0 c1 0;have hX:=(Zf.AK9 (m:=m) (k:=k) (w:=w) (j:=1) (vs:=[I (b.Rv+gi b.locals c)])).trans (zyf (m:=m) (k:=Int.toNat c*1) (vs:=[I 0]) (i:=k.toNat) Qo);refine⟨hs,_,h.bdC k0 k8 (j:=1) rfl,hs,_,_,_,h.bdC k0 k8 (j:=3) rfl,V',_,hL c c0 c1,⟨Qo,Qo⟩,hs,h.BX5 k0 k8 (j:=1) Qd,hs,_,_,_,e1.bdC k0 k8 (j:=3) rfl,V',e1.BD9 k0 k8 c0 c1,hs,_,e2.bdC k0 k8 (j:=1) rfl,fun g wr hx _=>?_,fun g wr hx=>⟨rfl,?_,hX.trans hx.of_nil⟩⟩
 ·have g:=Ot g;refine I3 (zbi (e2.Wi hx) k0 k8 (by show b.Rw.length<=_; have:=hb.dl; have:=hb.l2; omega)) ?_;rintro e wv ⟨he,hM,hy⟩;refine⟨he,Yf,fun I' S9=>⟨rfl,?_,((hX.trans hx.of_nil).trans hy).trans S9.of_nil⟩⟩;have:Ys b c=⟨b.IW,b.Rv+gi b.locals c,b.Sl,b.locals.set c.toNat 0,List.replicate b.Rw.length false⟩:=by unfold Ys; rw[C' g]
  rw[this];exact hM.Wi S9
 ·have g:=Ou g;have:Ys b c=⟨b.IW,b.Rv+gi b.locals c,b.Sl,b.locals.set c.toNat 0,b.Rw⟩:=by unfold Ys; rw[B' g]
  rw[this];exact e2.Wi hx
theorem zm3(l:List Int)(k:Nat)(h:k<l.length):(List.replicate k (0:Int)++l.drop k).set k 0=List.replicate (k+1) 0++l.drop (k+1):=by
 rw[List.set_append,B' Qs,List.length_replicate,Nat.sub_self,List.drop_eq_getElem_cons h,List.set_cons_zero,List.replicate_succ',List.append_assoc,List.singleton_append]
theorem zbe(h:Zf 8 base w (RI W k b) m)(k0:0<=k)(k8:k<8)(hb:Oq b) :
  Cz U4 #[.pointer (zlo m k)] w fun e w'=>e=.returned (I 0)/\zol base W m k (Jg b) w w':=by
 refine(Ht (zlo m k) (R:=fun v w'=>v=I 0/\zol base W m k (Jg b) w w') ?_).mono fun e w' ⟨v,he,hv,h3⟩=>⟨by rw[he,hv],h3⟩
 have hdl:=hb.dl;have hl2:=hb.l2;have hs:=h.rD k0 k8;have e1:=h.At8 k0 k8 (b':={ b with Rv:=b.IW }) rfl rfl (j:=1) (vs:=[I b.IW]) rfl Qs;have e2:=e1.At8 k0 k8 (b':={ b with Rv:=b.IW,Sl:=0 }) rfl rfl (j:=2) (vs:=[I 0]) rfl Qs;have hX2:=(Zf.AK9 (m:=m) (k:=k) (w:=w) (j:=1) (vs:=[I b.IW])).trans (Zf.AK9 (m:=m) (k:=k) (j:=2) (vs:=[I 0]));refine⟨hs,_,h.bdC k0 k8 (j:=0) rfl,hs,h.BX5 k0 k8 (j:=1) Qd,hs,e1.BX5 k0 k8 (j:=2) Qd,hs,_,_,_,e2.bdC k0 k8 (j:=3) rfl,?_⟩;refine Xx b.locals.length 0 rfl (fun j w1=>j<=b.locals.length/\Zf 8 base w1 (RI W k { b with Rv:=b.IW,Sl:=0,locals:=List.replicate j 0++b.locals.drop j }) m/\Q0 (QR 8 m) w w1) (fun w1 S9 _=>⟨Ic _,by simpa using e2.Wi S9,hX2.trans S9.of_nil⟩) fun j w1 hs ⟨hj,hO,hX⟩=>⟨fun IS=>?_,fun Ry=>?_⟩
 ·have IS:=Ot IS;have hlen:(List.replicate j (0:Int)++b.locals.drop j).length=b.locals.length:=by simp; omega
  have c1:(j:Int)<((List.replicate j (0:Int)++b.locals.drop j).length:Int):=by rw[hlen]; exact IS
  have e1:=hO.An8 k0 k8 (c:=(j:Int)) Qo c1 0;have Wr:=hO.bdC k0 k8 (j:=3) rfl;have V':=(hO.At7 k0 k8).2.1.ix Jm (i:=(j:Int)) Qo c1;refine⟨hO.rD k0 k8,_,_,_,Wr,V',hO.BD9 k0 k8 Qo c1,⟨Qo,Qo⟩,fun w2 R0 _=>Qm Qo ⟨Qo,?_,?_⟩⟩
  ·have e2:=e1.Wi R0;simp only[Ig] at e2;rw[zm3 _ _ Qo] at e2;exact e2
  ·exact(hX.trans (zyf Qo)).trans R0.of_nil
 ·have Ry:¬(j:Int)<(b.locals.length:Int):=Ou Ry;have hk2:j=b.locals.length:=Qo;subst hk2;rw[List.drop_length,List.append_nil] at hO;intro J' R0 _;refine I3 (zbi (hO.Wi R0) k0 k8 (by show b.Rw.length<=_; omega)) ?_;rintro e wv ⟨he,hM,hy⟩;refine⟨he,Yf,fun I' S9=>⟨rfl,?_,((hX.trans R0.of_nil).trans hy).trans S9.of_nil⟩⟩;unfold Jg;rw[show List.replicate b.Rw.length (0:Int)=List.replicate b.locals.length 0 by rw[hdl]];exact hM.Wi S9
theorem z1e(p:Int):(if p<20 then p else 20)=Zx 20 p:=by
 unfold Zx
 split <;> split <;> omega
theorem zsb{l:List Bool}{c:Int}(c0:0<=c)(c1:c<(l.length:Int))(h:gi l c=false):l.set c.toNat false=l:=by
 have:=Kt c0 c1
 rwa[h] at this
theorem zvi{l:List Int}{c:Int}(c0:0<=c)(c1:c<(l.length:Int))(h:gi l c=0):l.set c.toNat 0=l:=by
 have:=Kt c0 c1
 rwa[h] at this
theorem zi0(h:Zf 8 base w (RI W k b) m)(k0:0<=k)(k8:k<8)(hb:Oq b){c:Int}(c0:0<=c)(c1:c<(b.locals.length:Int)) :
  Cz Vn #[.pointer (zlo m k),I c] w fun e w'=>e=.returned (I (ZX b c).2)/\zol base W m k (ZX b c).1 w w':=by
 refine(Ew (zlo m k) c (R:=fun v w'=>v=I (ZX b c).2/\zol base W m k (ZX b c).1 w w') ?_).mono fun e w' ⟨v,he,hv,h3⟩=>⟨by rw[he,hv],h3⟩
 have he':=hb.each c c0 c1;have hdl:=hb.dl;have p1:=hb.p1;have p2:=hb.p2;have q2:=hb.q2;have hm:=Cs p1;have hs:=h.rD k0 k8;have hL:=(h.At7 k0 k8).2.1;have hD:=(h.At7 k0 k8).2.2;have V':=hL.ix Jm c0 c1;refine⟨hs,_,_,_,h.bdC k0 k8 (j:=3) rfl,V',_,hL c c0 c1,fun g wr hx=>?_,fun g=>⟨hs,_,h.bdC k0 k8 (j:=1) rfl,?_⟩⟩
 ·have ht:ZX b c=(b,0):=by unfold ZX; rw[C' (Ot g)]
  rw[ht];exact⟨rfl,h.Wi hx,hx.of_nil⟩
 have g:=Ou g;have hz:gi b.locals c=0:=Qo;have ht:ZX b c=(⟨b.IW,b.Rv-Zx 20 b.Rv,b.Sl,b.locals.set c.toNat (Zx 20 b.Rv),b.Rw.set c.toNat (Zx 20 b.Rv==0)⟩,if Zx 20 b.Rv=0 then 2 else 0):=by unfold ZX; rw[B' g]
 rw[ht,z1e];refine⟨fun g2=>?_,fun g2=>?_⟩
 ·have g2':Zx 20 b.Rv=0:=by simpa using g2
  have e1:=h.BX4 k0 k8 c0 Qo true;refine⟨hs,_,_,_,h.bdC k0 k8 (j:=4) rfl,hD.ix Dq c0 Qo,h.Bs6 k0 k8 c0 Qo,fun wr hx=>⟨by rw[C' g2'],?_,(z1q Qo).trans hx.of_nil⟩⟩
  dsimp only
  rw[g2',Int.sub_zero,zvi c0 c1 hz];exact e1.Wi hx
 ·have g2':Zx 20 b.Rv≠0:=by simpa using g2
  have hdr:gi b.Rw c=false:=by
   cases hd:gi b.Rw c with
   | false=>rfl
   | true=>have:=(he'.2.2 hd).2; omega
  have e1:=h.At8 k0 k8 (b':={ b with Rv:=b.Rv-Zx 20 b.Rv }) rfl rfl (j:=1) (vs:=[I (b.Rv-Zx 20 b.Rv)]) rfl Qs;have e2:=e1.An8 k0 k8 c0 c1 (Zx 20 b.Rv);have hX:=(Zf.AK9 (m:=m) (k:=k) (w:=w) (j:=1) (vs:=[I (b.Rv-Zx 20 b.Rv)])).trans (zyf (m:=m) (k:=Int.toNat c*1) (vs:=[I (Zx 20 b.Rv)]) (i:=k.toNat) Qo);refine⟨hs,_,h.bdC k0 k8 (j:=1) rfl,⟨Qo,Qo⟩,hs,h.BX5 k0 k8 (j:=1) Qd,hs,_,_,_,e1.bdC k0 k8 (j:=3) rfl,V',e1.BD9 k0 k8 c0 c1,fun wr hx=>⟨by rw[B' g2'],?_,hX.trans hx.of_nil⟩⟩
  dsimp only
  rw[g2,zsb c0 Qo hdr];exact e2.Wi hx
theorem ze1(h:Zf 8 base w (RI W k b) m)(k0:0<=k)(k8:k<8)(hb:Oq b){c n:Int}(c0:0<=c)(c1:c<(b.locals.length:Int)) :
  Cz UE #[.pointer (zlo m k),I c,I n] w fun e w'=>e=.returned (I (Xy b c n).2)/\zol base W m k (Xy b c n).1 w w':=by
 refine(Dj (zlo m k) c n (R:=fun v w'=>v=I (Xy b c n).2/\zol base W m k (Xy b c n).1 w w') ?_).mono fun e w' ⟨v,he,hv,h3⟩=>⟨by rw[he,hv],h3⟩
 have he':=hb.each c c0 c1;have q2:=hb.q2;have s1:=hb.s1;have s2:=hb.s2;have hs:=h.rD k0 k8;have hL:=(h.At7 k0 k8).2.1;have V':=hL.ix Jm c0 c1;refine⟨fun _=>hs,_,_,_,fun _=>h.bdC k0 k8 (j:=3) rfl,fun _=>V',_,fun _=>hL c c0 c1,fun g wr hx=>?_,fun g=>?_⟩
 ·have ht:Xy b c n=(b,3):=by unfold Xy; rw[C' (by simpa using g)]
  rw[ht];exact⟨rfl,h.Wi hx,hx.of_nil⟩
 ·have g':¬(n<1\/n>gi b.locals c):=by simpa using g
  have ht:Xy b c n=({ b with Sl:=b.Sl+n,locals:=b.locals.set c.toNat (gi b.locals c-n) },0):=by unfold Xy; rw[B' g']
  rw[ht];have e1:=h.An8 k0 k8 c0 c1 (gi b.locals c-n);have e2:=e1.At8 k0 k8 (b':={ b with Sl:=b.Sl+n,locals:=b.locals.set c.toNat (gi b.locals c-n) }) rfl rfl (j:=2) (vs:=[I (b.Sl+n)]) rfl Qs;have hX:=(zyf (m:=m) (w:=w) (k:=Int.toNat c*1) (vs:=[I (gi b.locals c-n)]) (i:=k.toNat) (n:=8) Qo).trans (Zf.AK9 (m:=m) (k:=k) (j:=2) (vs:=[I (b.Sl+n)]));exact⟨hs,_,_,_,h.bdC k0 k8 (j:=3) rfl,V',_,hL c c0 c1,⟨Qo,Qo⟩,V',h.BD9 k0 k8 c0 c1,hs,_,e1.bdC k0 k8 (j:=2) rfl,⟨by show _<=b.Sl+n; omega,by show b.Sl+n<=_; omega⟩,hs,e1.BX5 k0 k8 (j:=2) Qd,fun wr hx=>⟨rfl,e2.Wi hx,hX.trans hx.of_nil⟩⟩
theorem zrk(h:Zf 8 base w (RI W k b) m)(k0:0<=k)(k8:k<8)(hb:Oq b){op:z10} :
  Cz OZ #[.pointer (zlo m k),.agg (z09 op).toArray] w fun e w'=>e=.returned (I (ZL b op).2)/\zol base W m k (ZL b op).1 w w':=by
 refine(zag (zlo m k) op.kind op.nA op.n (R:=fun v w'=>v=I (ZL b op).2/\zol base W m k (ZL b op).1 w w') ?_).mono fun e w' ⟨v,he,hv,h3⟩=>⟨by rw[he,hv],h3⟩
 have hl2:=hb.l2;have hs:=h.rD k0 k8;intro b1 dI
 have one:∀{w1:Wo},Q0 [] w w1->∀y∈QR 8 m,y∉[b1]:=fun _ y hy hm=>by
  have:y=b1:=by simpa using hm
  have:=(h.lt y hy).2;omega
 have fin:∀{w1 w2 w3:Wo} {b':UM} {c:Int},Q0 [] w w1->(∀y∈[b1],y<w1.heap.size)->zol base W m k b' w1 w2->Q0 [b1] w2 w3->ZL b op=(b',c)->Q9 [b1] w1 w2/\zol base W m k (ZL b op).1 w w3:=fun h1 h2 h3 h4 h5=>by
  refine⟨fun y hm=>h3.2.block y (h2 y hm) fun fE=>one h1 y fE hm,?_⟩;rw[h5]
  exact ⟨h3.1.ext h4 (one h1), (h1.of_nil.trans h3.2).fresh h4 fun y hm => .inl (by have:y=b1:=by simpa using hm
                                                                                    omega)⟩
 refine⟨fun g wr hx cX=>?_,fun g=>⟨hs,_,_,_,h.bdC k0 k8 (j:=3) rfl,⟨Qo,Qo⟩,_,QK,fun g2 wr hx=>?_,fun g2=>?_⟩⟩
 ·have dD:ZL b op=(Jg b,0):=by unfold ZL; rw[C' (by simpa using g)]
  refine I3 (zbe (h.Wi hx) k0 k8 hb) ?_;rintro e wv ⟨he,hR⟩;exact⟨_,he,(fin hx cX hR (Q0.refl _ _) dD).1,fun I' S9=>⟨by rw[dD],(fin hx cX hR S9 dD).2⟩⟩
 all_goals have g:¬op.kind=4:=by simpa using g
 ·have dD:ZL b op=(b,1):=by unfold ZL; rw[B' g,C' (by simpa using g2)]
  rw[dD];exact⟨rfl,h.Wi hx,hx.of_nil⟩
 have g2:YK op.nA 0 ((b.locals.length:Int)-1)=true:=by simpa using g2
 obtain⟨c0,c1⟩:=Qu.1 g2;have c1:op.nA<(b.locals.length:Int):=Qo
 have dD:ZL b op=if op.kind=1 then ZX b op.nA else if op.kind=2 then Xy b op.nA op.n else if op.kind=3 then (Ys b op.nA,0) else (b,1):=by
  unfold ZL; rw[B' g,B' (by rw[g2]; decide)]
 refine⟨fun g3 wr hx cX=>?_,fun g3=>⟨fun g4 wr hx cX=>?_,fun g4=>⟨fun g5 wr hx cX=>?_,fun g5 wr hx=>?_⟩⟩⟩
 ·rw[C' (by simpa using g3)] at dD;refine I3 (zi0 (h.Wi hx) k0 k8 hb c0 c1) ?_;rintro e wv ⟨he,hR⟩;exact⟨_,he,(fin hx cX hR (Q0.refl _ _) dD).1,fun I' S9=>⟨by rw[dD],(fin hx cX hR S9 dD).2⟩⟩
 ·rw[B' (by simpa using g3),C' (by simpa using g4)] at dD;refine I3 (ze1 (n:=op.n) (h.Wi hx) k0 k8 hb c0 c1) ?_;rintro e wv ⟨he,hR⟩;exact⟨_,he,(fin hx cX hR (Q0.refl _ _) dD).1,fun I' S9=>⟨by rw[dD],(fin hx cX hR S9 dD).2⟩⟩
 ·rw[B' (by simpa using g3),B' (by simpa using g4),C' (by simpa using g5)] at dD;refine I3 (zbf (h.Wi hx) k0 k8 hb c0 c1) ?_;rintro e wv ⟨he,hR⟩;exact⟨_,he,(fin hx cX hR (Q0.refl _ _) dD).1,fun I' S9=>⟨by rw[dD],(fin hx cX hR S9 dD).2⟩⟩
 ·rw[B' (by simpa using g3),B' (by simpa using g4),B' (by simpa using g5)] at dD;rw[dD];exact⟨rfl,h.Wi hx,hx.of_nil⟩
end
structure PW (base pb:Nat) (w:Wo) (W:Q8) (m:MW):Prop where
 own:Zf 8 base w W m
 pt:w.heap[pb]? = some (.cells (Qa W m).toArray Q5 (0,0))
 pn:pb∉QR 8 m
abbrev pA(pb:Nat):OA:=some ⟨pb,0,none⟩
structure Mp (base pb:Nat) (bs:List Nat) (w0:Wo) (m0:MW) (w:Wo) (W:Q8) (m:MW):Prop where
 v:Mv 8 base bs w0 m0 w W m
 pt:w.heap[pb]? = some (.cells (Qa W m).toArray Q5 (0,0))
 pn:pb∉QR 8 m
 pb:pb∉bs
section
variable {base pb:Nat}{bs cs:List Nat}{w0 w w':Wo}{W W':Q8}{m0 m m':MW}{b:Nat}
theorem Mp.start(h:PW base pb w W m):Mp base pb [] w m w W m:=⟨Mv.start h.own,h.pt,h.pn,Qs⟩
theorem Mp.pw(h:Mp base pb bs w0 m0 w W m):PW base pb w W m:=⟨h.v.own,h.pt,h.pn⟩
theorem Mp.add(h:Mp base pb bs w0 m0 w W m)(hb:w.heap.size<=b):Mp base pb (bs++[b]) w0 m0 w W m:=⟨h.v.add hb,h.pt,h.pn,fun hm=>by
 rcases Im.1 hm with hm | hm
 ·exact h.pb hm
 ·have:pb=b:=by simpa using hm
  have:=JF h.pt;omega⟩
theorem Mp.step(h:Mp base pb bs w0 m0 w W m)(hx:Q0 bs w w'):Mp base pb bs w0 m0 w' W m:=⟨h.v.step hx,QM h.pt hx h.pb,h.pn,h.pb⟩
theorem Mp.M'(h:Mp base pb bs w0 m0 w W m)(hx:Q0 [] w w'):Mp base pb bs w0 m0 w' W m:=⟨h.v.M' hx,QM h.pt hx Qs,h.pn,h.pb⟩
theorem Mp.call(h:Mp base pb bs w0 m0 w W m)(k:Mp base pb [] w m w' W' m')(hs:∀x∈bs,x<w.heap.size):Mp base pb bs w0 m0 w' W' m':=⟨h.v.call k.v hs,k.pt,k.pn,h.pb⟩
theorem Mp.kept(h:Mp base pb bs w0 m0 w W m)(k:Mp base pb [] w m w' W' m')(hs:∀x∈bs,x<w.heap.size):Q9 bs w w':=h.v.kept k.v hs
theorem Mp.Sj(h:Mp base pb bs w0 m0 w W m)(k:Zf 8 base w' W' m)(hx:Q0 (QR 8 m) w w')(he:Qa W' m=Qa W m):Mp base pb bs w0 m0 w' W' m:=⟨h.v.Sj k hx,by rw[he]; exact QM h.pt hx h.pn,h.pn,h.pb⟩
theorem Mp.sub(h:Mp base pb bs w0 m0 w W m)(hs:∀x∈cs,x∈bs):Mp base pb cs w0 m0 w W m:=⟨h.v.BB5 hs,h.pt,h.pn,fun hm=>h.pb (hs _ hm)⟩
theorem Mp.close(h:Mp base pb bs w0 m0 w W m):Mp base pb [] w0 m0 w W m:=h.sub Qs
theorem Mp.wpt(h:Mp base pb bs w0 m0 w W m):Mk bs w (pA pb) W m:=⟨PC h.pt h.pb (k0:=0) fun j v hj=>by simpa using hj,h.v.rd⟩
theorem Mp.own(h:Mp base pb bs w0 m0 w W m):Zf 8 base w W m:=h.v.own
theorem Mp.nb(h:Mp base pb bs w0 m0 w W m):∀x∈QR 8 m,x∉bs:=h.v.nb
theorem PW.Wi(h:PW base pb w W m)(hx:Q0 [] w w'):PW base pb w' W m:=((Mp.start h).M' hx).pw
end
theorem zvh{W:Q8}{k c:Int}{s:LI}(h0:0<=k)(h1:k<(W.IC.length:Int)):gi (RA W k c s).IC k={ gi W.IC k with IE:=(gi W.IC k).IE.set c.toNat s }:=by
 unfold RA;rw[YY h0 h1 h0,C' rfl]
theorem zsa{W:Q8}{k c:Int}{s s':LI}(h0:0<=k)(h1:k<(W.IC.length:Int)):RA (RA W k c s) k c s'=RA W k c s':=by
 show Rf (RA W k c s) k { gi (RA W k c s).IC k with IE:=(gi (RA W k c s).IC k).IE.set c.toNat s' }=_;rw[zvh h0 h1]
 dsimp only
 rw[List.set_set];exact zg7
theorem zn7{W:Q8}{k c:Int}(h0:0<=k)(h1:k<(W.IC.length:Int))(c0:0<=c)(c1:c<((gi W.IC k).IE.length:Int)):RA W k c (Qc W k c)=W:=by
 show Rf W k { gi W.IC k with IE:=(gi W.IC k).IE.set c.toNat (gi (gi W.IC k).IE c) }=W;rw[Kt c0 c1];unfold Rf;rw[Kt h0 h1]
section
variable {base pb:Nat}{bs:List Nat}{w:Wo}{W:Q8}{m:MW}{k c:Int}
theorem Zf.BI1(h:Zf 8 base w W m)(k0:0<=k)(k8:k<8)(c0:0<=c)(c1:c<((gi W.IC k).IE.length:Int)){j:Nat}{vs:List Va}{s:LI}(he:PG s=(PG (Qc W k c)).take j++vs++(PG (Qc W k c)).drop (j+vs.length))(hj:j+vs.length<=5) :
  Zf 8 base (Rl w (zwd m k c) (0+j) vs) (RA W k c s) m:=by
 have:=h.Bp2 k0 Qo c0 c1 he hj;rw[<-zy5] at this;unfold zwd;rw[KT,Nat.zero_add];exact this
theorem Zf.Bp0(h:Zf 8 base w W m)(hd:∀x∈QR 8 m,x∉bs)(k0:0<=k)(k8:k<8)(c0:0<=c)(c1:c<((gi W.IC k).IE.length:Int)){j n:Nat}(hj:j+n<=5):X0 bs w (zwd m k c) (0+j) n:=by
 unfold zwd;refine FE.2 ?_;rw[Nat.zero_add];exact z1v h hd k0 Qo c0 c1 hj
theorem zqb{vs:List Va}{j:Nat}(k0:0<=k)(k8:k<8):Q0 (QR 8 m) w (Rl w (zwd m k c) (0+j) vs):=by
 unfold zwd;rw[KT];exact zjs Qo
theorem O4(h:PW base pb w W m)(c0:0<=c)(c1:c<(W.ID.length:Int)) :
  Cz Yr #[.agg #[.pointer (pA pb),I c]] w fun e w'=>e=.returned (.tuple #[])/\Mp base pb [] w m w' (Rn W c) m:=by
 refine(G1 (pA pb) c (R:=fun v w'=>v=.tuple #[]/\Mp base pb [] w m w' (Rn W c) m) ?_).mono fun e w' ⟨v,he,hv,h3⟩=>⟨by rw[he,hv],h3⟩
 intro b hb;obtain⟨e1,e2⟩:=zps h.own c0 c1;have hM:=Mp.start h;have hp:=hM.wpt;have hr:=h.own.rd (bs:=[]) Qs;have hs:=GI (n:=Int.toNat c*5) (hr.c c c0 c1);refine⟨_,M3 hp c0 c1,_,M3 hp c0 c1,hs,FE.2 (zst h.own Qs c0 c1 Qd),hs,?_⟩;rw[KT];refine⟨FE.2 (zst e1 Qs c0 (by simpa using c1) Qd),?_⟩;rw[KT];exact fun wr hx=>⟨rfl,(hM.Sj e2 (C9.trans C9) (by simp[Qa,Rn,RM])).M' hx⟩
theorem zez{p:OA}{g:Int}(h:Mk bs w p W m)(ht:Y5 W.IC)(hu:Q6 W.IC g=true):PX bs UF #[.pointer p,I g] w (I (dep 3 W.IC g)):=
 DH p g fun wr hx=>by
  have h:=(h.ext hx).less (cs:=[]) Qs
  have hdr:∀x,Q6 W.IC x=true->0<=dep 3 W.IC x/\dep 3 W.IC x<=3:=fun x hux=>by
   by_cases hz:x=0
   ·subst hz; rw[ZZ]; omega
   ·obtain⟨_,_,_,d,e,_,hd⟩:=Y6 ht hux hz;omega
  refine⟨fun vs=>∃(x s:Int),vs=[I x,I s]/\Q6 W.IC x=true/\0<=s/\s+dep 3 W.IC x=dep 3 W.IC g,fun vs=>(dep 3 W.IC (ZR 0 vs)).toNat,⟨g,0,rfl,hu,Qd,Qo⟩,?_⟩;rintro x s ⟨x',s',he,hux,hs0,hI⟩;simp only[I4,I5,true_and,and_true] at he;obtain⟨rfl,rfl⟩:=he;have hgd:=hdr g hu;have hxd:=hdr x hux;refine⟨fun hz=>?_,fun hz=>?_⟩
  ·have hz:x≠0:=by simpa using hz
   obtain⟨hp,a,b,d,e,e2,hd⟩:=Y6 ht hux hz;refine⟨⟨Qo,Qo⟩,h.some,_,_,_,h.IC,h.rd.g.ix a b,_,h.rd.g.parent a b,⟨_,_,rfl,hp,Qo,Qo⟩,?_⟩;show (dep 3 W.IC (gi W.IC x).parent).toNat<(dep 3 W.IC x).toNat;omega
  ·have hz:x=0:=by simpa using hz
   subst hz;rw[ZZ] at hI;rw[show s=dep 3 W.IC g by omega]
theorem Pf{F K:Int}(h:PW base pb w W m)(dR:SF F K W)(hk:F+Qi<=K)(hK:K<=1000000000000000000)(c0:0<=c)(c1:c<(W.ID.length:Int)) :
  Cz Yo #[.agg #[.pointer (pA pb),I c]] w fun e w'=>e=.returned (.tuple #[])/\Mp base pb [] w m w' (QF W c) m:=by
 refine(MQ (pA pb) c (R:=fun v w'=>v=.tuple #[]/\Mp base pb [] w m w' (QF W c) m) ?_).mono fun e w' ⟨v,he,hv,h3⟩=>⟨by rw[he,hv],h3⟩
 intro x hx;have bM:=dR.w.a.gl
 refine⟨fun vs w1=>∃(j:Nat),vs=[I (3-(j:Int))]/\j<=3/\Mp base pb [x] w m w1 (YL W c j) m,
  fun vs _=>(ZR 0 vs).toNat,fun wr rA _=>⟨0,rfl,Qd,((Mp.start h).add hx).M' rA⟩,?_⟩
 rintro d wv hs ⟨j,he,j3,hM⟩;obtain⟨hS,hO⟩:=H5 dR hk c0 c1 j j3;have hN:YL W c (j+1)=Zj (YL W c j) c (3-(j:Int)) 8:=rfl;have hE:j=3->YL W c j=QF W c:=fun e=>by rw[e]; rfl
 generalize YL W c j=W1 at hM hS hO hN hE;simp only[I4,I5,true_and,and_true] at he;refine⟨fun hd=>?_,fun hd=>?_⟩
 ·have hd:=Ot hd;have qX:c<(W1.ID.length:Int):=by rw[hO.c]; exact c1
  have Cg7:W1.IC.length=W.IC.length:=hO.g.len;have hp:=hM.wpt;refine⟨hp.some,_,_,_,hp.IC,?_⟩;rw[Cg7];refine Xx W.IC.length 0 rfl (fun k w2=>k<=8/\Mp base pb [x] w m w2 (Zj W1 c d k) m) (fun w2 R0 _=>⟨Qd,hM.step R0⟩) fun k w2 SS ⟨hk8,Wq⟩=>?_
  obtain⟨mY,mD⟩:=F1 hS hk (c:=c) (d:=d) Qo c0 qX k hk8;have hf2:=hO.trans mD;have qS:(Zj W1 c d k).IC.length=W.IC.length:=hf2.g.len;have AL4:(Zj W1 c d k).ID.length=W.ID.length:=by rw[hf2.c]
  have SN:Zj W1 c d (k+1)=if (gi (Zj W1 c d k).IC (k:Int)).used=true/\dep 3 (Zj W1 c d k).IC (k:Int)=d then RA (Zj W1 c d k) (k:Int) c (ZS (Zj W1 c d k) (k:Int) c) else Zj W1 c d k:=rfl;have hN8:k=8->YL W c (j+1)=Zj W1 c d k:=fun e=>by rw[hN,<-he,e]
  generalize Zj W1 c d k=W2 at Wq mY mD hf2 qS AL4 SN hN8;have fG:=Wq.wpt;have hr:=fG.rd;refine⟨fun IS=>?_,fun Ry=>?_⟩
  ·have IS:=Ot IS;have Rr:(k:Int)<(W2.IC.length:Int):=Qo;have V':=hr.g.ix (i:=(k:Int)) Qo Rr;have hru:=hr.g.used (i:=(k:Int)) Qo Rr;refine⟨fG.some,_,_,_,fG.IC,V',(gi W2.IC (k:Int)).used,hru,dep 3 W2.IC (k:Int),fun g=>?_,fun g=>?_,fun g=>?_⟩
   ·exact zez fG mY.w.a.tree (Q4.2 ⟨Qo,Rr,by simpa using g⟩)
   ·refine⟨⟨Qo,Qo⟩,fun w3 R4 _=>Qm Qo ⟨Qo,?_⟩⟩;rw[SN,B']
    ·exact Wq.step R4
    ·rintro⟨h1,h2⟩;rw[h1,h2] at g;simp at g
   ·simp only[H',I6,bne_eq_false_iff_eq] at g;have hu:Q6 W2.IC (k:Int)=true:=Q4.2 ⟨Qo,Rr,g.1⟩;rw[C' ⟨g.1,g.2⟩] at SN;have hsl:=mY.w.a.sl hu
    have hz:(k:Int)≠0:=fun e=>by
     rw[e,ZZ] at g;omega
    have hpa:=mY.w.a.up hu hz;obtain⟨p0,p1,_⟩:=Q4.1 hpa;have hpl:=mY.w.a.sl hpa;have s1:=mY.w.s _ c hu c0 Qo;have s2:=mY.w.s _ c hpa c0 Qo;have lc:=ZQ ((Qc W2 (k:Int) c).v-(Qc W2 (gi W2.IC (k:Int)).parent c).floor) (Qc W2 (k:Int) c).w;have lm:=Y3 (Qc W2 (k:Int) c).w;have hsh:=fG.sh (g:=(k:Int)) (c:=c) Qo Rr c0 Qo;have CK8:=fG.sh (g:=(gi W2.IC (k:Int)).parent) (c:=c) p0 p1 c0 Qo;have Ao1:=MX (g:=(k:Int)) fG mY.w.a c0 Qo;have Bm4:=zba (g:=(k:Int)) fG mY.w.a hu c0 Qo;have cS:c<((gi W2.IC (k:Int)).IE.length:Int):=Qo;refine⟨_,Zp fG Qo Rr c0 cS,QT W2 (k:Int) c,Ao1,JY W2 (k:Int) c,fun _=>Bm4,fun _=>hsh.1,_,fun _=>hsh.2 (j:=1) rfl,fun g2=>?_,fun g2=>?_⟩
    ·have yL:ZS W2 (k:Int) c=⟨(Qc W2 (k:Int) c).floor,QT W2 (k:Int) c && !JY W2 (k:Int) c,(Qc W2 (gi W2.IC (k:Int)).parent c).floor+Y9 ((Qc W2 (k:Int) c).v-(Qc W2 (gi W2.IC (k:Int)).parent c).floor) (Qc W2 (k:Int) c).w,(Qc W2 (k:Int) c).w,(Qc W2 (k:Int) c).sum⟩:=by
      unfold ZS;rw[C']
      simpa[Qc] using g2
     have e1:=Wq.own.BI1 (k:=(k:Int)) (c:=c) Qo Qo c0 cS (j:=2) (vs:=[I ((Qc W2 (gi W2.IC (k:Int)).parent c).floor+Y9 ((Qc W2 (k:Int) c).v-(Qc W2 (gi W2.IC (k:Int)).parent c).floor) (Qc W2 (k:Int) c).w)]) (s:={ Qc W2 (k:Int) c with v:=(Qc W2 (gi W2.IC (k:Int)).parent c).floor+Y9 ((Qc W2 (k:Int) c).v-(Qc W2 (gi W2.IC (k:Int)).parent c).floor) (Qc W2 (k:Int) c).w }) rfl Qs;have cS1:c<((gi (RA W2 (k:Int) c { Qc W2 (k:Int) c with v:=(Qc W2 (gi W2.IC (k:Int)).parent c).floor+Y9 ((Qc W2 (k:Int) c).v-(Qc W2 (gi W2.IC (k:Int)).parent c).floor) (Qc W2 (k:Int) c).w }).IC (k:Int)).IE.length:Int):=by rw[zha Qo Rr Qo]; exact cS
     have cX:Qc (RA W2 (k:Int) c { Qc W2 (k:Int) c with v:=(Qc W2 (gi W2.IC (k:Int)).parent c).floor+Y9 ((Qc W2 (k:Int) c).v-(Qc W2 (gi W2.IC (k:Int)).parent c).floor) (Qc W2 (k:Int) c).w }) (k:Int) c={ Qc W2 (k:Int) c with v:=(Qc W2 (gi W2.IC (k:Int)).parent c).floor+Y9 ((Qc W2 (k:Int) c).v-(Qc W2 (gi W2.IC (k:Int)).parent c).floor) (Qc W2 (k:Int) c).w }:=by
      rw[Uv Qo Rr c0 cS Qo c0,C' ⟨rfl,rfl⟩]
     have e2:=e1.BI1 (k:=(k:Int)) (c:=c) Qo Qo c0 cS1 (j:=1) (vs:=[.bool (QT W2 (k:Int) c && !JY W2 (k:Int) c)]) (s:=ZS W2 (k:Int) c) (by rw[cX,yL]; rfl) Qs;rw[zsa Qo Rr] at e2;have hX:=(zqb (m:=m) (w:=w2) (k:=(k:Int)) (c:=c) (j:=2) (vs:=[I ((Qc W2 (gi W2.IC (k:Int)).parent c).floor+Y9 ((Qc W2 (k:Int) c).v-(Qc W2 (gi W2.IC (k:Int)).parent c).floor) (Qc W2 (k:Int) c).w)]) Qo Qo).trans (zqb (m:=m) (k:=(k:Int)) (c:=c) (j:=1) (vs:=[.bool (QT W2 (k:Int) c && !JY W2 (k:Int) c)]) Qo Qo);have heq:Qa (RA W2 (k:Int) c (ZS W2 (k:Int) c)) m=Qa W2 m:=Ui (VH Qo Rr).fr;refine⟨fG.some,_,_,_,fG.IC,V',_,hr.g.parent Qo Rr,_,Zp fG p0 p1 c0 Qo,CK8.1,_,CK8.2 (j:=0) rfl,hsh.1,_,hsh.2 (j:=2) rfl,⟨Qo,Qo⟩,hsh.1,_,hsh.2 (j:=3) rfl,_,HM,⟨Qo,Qo⟩,hsh.1,Wq.own.Bp0 Wq.nb Qo Qo c0 cS (j:=2) Qd,hsh.1,e1.Bp0 Wq.nb Qo Qo c0 cS1 (j:=1) Qd,⟨Qo,Qo⟩,fun w3 R4 _=>Qm Qo ⟨Qo,?_⟩⟩;rw[SN];exact(Wq.Sj e2 hX heq).step R4
    ·have yL:ZS W2 (k:Int) c=⟨(Qc W2 (k:Int) c).floor,QT W2 (k:Int) c && !JY W2 (k:Int) c,(Qc W2 (k:Int) c).v,(Qc W2 (k:Int) c).w,(Qc W2 (k:Int) c).sum⟩:=by
      unfold ZS;rw[B'];intro h1;rw[h1.1,show (Qc W2 (k:Int) c).on=false from h1.2] at g2;cases g2
     have e2:=Wq.own.BI1 (k:=(k:Int)) (c:=c) Qo Qo c0 cS (j:=1) (vs:=[.bool (QT W2 (k:Int) c && !JY W2 (k:Int) c)]) (s:=ZS W2 (k:Int) c) (by rw[yL]; rfl) Qs;have heq:Qa (RA W2 (k:Int) c (ZS W2 (k:Int) c)) m=Qa W2 m:=Ui (VH Qo Rr).fr;refine⟨hsh.1,Wq.own.Bp0 Wq.nb Qo Qo c0 cS (j:=1) Qd,⟨Qo,Qo⟩,fun w3 R4 _=>Qm Qo ⟨Qo,?_⟩⟩;rw[SN];exact(Wq.Sj e2 (zqb Qo Qo) heq).step R4
  ·have Ry:=Ou Ry;have hN8:=hN8 Qo;refine⟨⟨Qo,Qo⟩,fun w3 R4 _=>⟨⟨j+1,?_,Qo,?_⟩,?_⟩⟩
   ·rw[show d-1=3-((j+1:Nat):Int) by omega]
   ·rw[hN8];exact Wq.step R4
   ·show (d-1).toNat<d.toNat;omega
 ·have hd:=Ou hd;rw[<-hE Qo];exact fun w2 R0=>⟨rfl,(hM.step R0).close⟩
end
def Th(W:Q8)(g c:Int):Nat->Int
 | 0=>100000000000000001
 | k+1=>if Zk W g c k=true then (if Ze W c k<Th W g c k then Ze W c k else Th W g c k) else Th W g c k
theorem Nk{W:Q8}{g c:Int}:∀k:Nat,(∀j,j<k->Zk W g c j=true->Ze W c j<=100000000000000000)->Th W g c k=if Zr W g c k=true then Z0 W g c k else 100000000000000001
 | 0,_=>by
  have:Zr W g c 0=false:=rfl;rw[this]; rfl
 | k+1,h=>by
  have ih:=Nk k fun j hj=>h j Qo
  simp only[Th]
  cases hp:Zk W g c k with
  | false=>
   have:=Et (W:=W) (g:=g) (c:=c) (k:=k) (by rw[hp]; rfl);rw[B' Qd,ih,this.1,this.2]
  | true=>
   have hv:=h k Qo hp;rw[C' rfl,ih]
   cases hb:Zr W g c k with
   | false=>
    have:=Eu (W:=W) (g:=g) (c:=c) (k:=k) (by rw[hp,hb]; rfl);rw[this.1,this.2,B' (show ¬(false=true) by decide),C' (show Ze W c k<100000000000000001 by omega),C' (show true=true from rfl)]
   | true=>
    rw[C' rfl]
    by_cases IS:Ze W c k<Z0 W g c k
    ·have:=Eu (W:=W) (g:=g) (c:=c) (k:=k) (by rw[hp,Ih IS]; simp);rw[this.1,this.2,C' rfl,C' IS]
    ·have:=Et (W:=W) (g:=g) (c:=c) (k:=k) (by rw[hp,hb,decide_eq_false IS]; rfl);rw[this.1,this.2,hb,C' rfl,B' IS]
theorem zxs{K:Int}{W:Q8}(h:SW K W){g c:Int}(c0:0<=c)(c1:c<(W.ID.length:Int)){j:Nat}(hj:j<20)(hp:Zk W g c j=true):Ze W c j<=K:=by
 have hl:=h.a.gl;unfold Ze
 by_cases h12:j<12
 ·rw[C' h12];exact(h.tv (j:Int) Qo Qo).2
 ·rw[B' h12];unfold Zk at hp;rw[B' h12] at hp;unfold XW at hp;simp only[A'] at hp;have hu:Q6 W.IC ((j-12:Nat):Int)=true:=Q4.2 ⟨Qo,Qo,hp.1.2.1⟩;exact(h.s _ c hu c0 c1).2.2.2.1
section
variable {base pb:Nat}{w:Wo}{W:Q8}{m:MW}{k c:Int}
theorem zk2{K:Int}(h:PW base pb w W m)(dR:SW K W)(hK0:0<=K)(hK:K<=100000000000000000)(c0:0<=c)(c1:c<(W.ID.length:Int)) :
  Cz VX #[.agg #[.pointer (pA pb),I c]] w fun e w'=>e=.returned (.tuple #[])/\Mp base pb [] w m w' (Z6 W c) m:=by
 refine(Bb (pA pb) c (R:=fun v w'=>v=.tuple #[]/\Mp base pb [] w m w' (Z6 W c) m) ?_).mono fun e w' ⟨v,he,hv,h3⟩=>⟨by rw[he,hv],h3⟩
 intro x hx;have bM:=dR.a.gl;have hp0:=(Mp.start h).wpt;refine⟨hp0.some,_,_,_,hp0.IC,?_⟩;refine Xx W.IC.length 0 rfl (fun k w2=>k<=8/\Mp base pb [x] w m w2 (QN W c k) m) (fun w2 R0 _=>⟨Qd,((Mp.start h).add hx).M' R0⟩) fun k w2 SS ⟨hk8,Wq⟩=>?_
 obtain⟨mY,mD⟩:=Pu dR hK0 c0 c1 k hk8;have qS:(QN W c k).IC.length=W.IC.length:=mD.g.len;have AL4:(QN W c k).ID.length=W.ID.length:=by rw[mD.c]
 have SN:QN W c (k+1)=if (gi (QN W c k).IC (k:Int)).used=true/\Zr (QN W c k) (k:Int) c 20=true/\Z0 (QN W c k) (k:Int) c 20>(Qc (QN W c k) (k:Int) c).floor then RA (QN W c k) (k:Int) c (Du (QN W c k) (k:Int) c) else QN W c k:=rfl;have hN8:k=8->Z6 W c=QN W c k:=fun e=>by rw[e]; rfl
 generalize QN W c k=W2 at Wq mY mD qS AL4 SN hN8;have hp:=Wq.wpt;have hr:=hp.rd;have iX:=mY.a.t;refine⟨fun IS=>?_,fun Ry=>?_⟩
 ·have IS:=Ot IS;have Rr:(k:Int)<(W2.IC.length:Int):=Qo;refine⟨hp.some,_,_,_,hp.IC,hr.g.ix (i:=(k:Int)) Qo Rr,(gi W2.IC (k:Int)).used,hr.g.used Qo Rr,fun g=>?_,fun g=>?_⟩
  ·refine⟨⟨Qo,Qo⟩,fun w3 R4 _=>Qm Qo ⟨Qo,?_⟩⟩;rw[SN,B' (fun h1=>by rw[h1.1] at g; cases g)];exact Wq.step R4
  have g:(gi W2.IC (k:Int)).used=true:=by simpa using g
  have hu:Q6 W2.IC (k:Int)=true:=Q4.2 ⟨Qo,Rr,g⟩;have hsl:=mY.a.sl hu;have cS:c<((gi W2.IC (k:Int)).IE.length:Int):=Qo;have hlm:=Nk (W:=W2) (g:=(k:Int)) (c:=c) 20 fun j hj hp=>Int.le_trans (zxs mY c0 Qo hj hp) hK
  refine⟨hp.some,_,_,_,hp.tasks,fun vs w1=>∃(t:Nat),vs=[I (Th W2 (k:Int) c t),I (t:Int)]/\t<=12/\Mp base pb [x] w m w1 W2 m,Zq W2.tasks.length 1,fun w3 R4 _=>⟨0,rfl,Qd,Wq.step R4⟩,?_⟩;rintro least x1 R1 dQ ⟨t,he,ht,dZ⟩;simp only[I4,I5,true_and,and_true] at he;obtain⟨rfl,rfl⟩:=he;have hp3:=dZ.wpt;refine⟨fun Ba5=>?_,fun AH6=>?_⟩
  ·have Ba5:=Ot Ba5;have hq:=HP (g:=(k:Int)) (c:=c) hp3 (t:=(t:Int)) Qo Ba5;rw[Ig] at hq;refine⟨hp3.rd.t.ix QG Qo Ba5,_,_,_,_,_,_,_,_,_,hp3.rd.t (t:Int) Qo Ba5,fun b1 dI=>⟨OD W2 (k:Int) c t,hq,fun ga=>⟨⟨Qo,Qo⟩,fun w4 SD _=>⟨⟨t+1,?_,Qo,dZ.step SD⟩,?_⟩⟩,fun ga=>⟨⟨Qo,Qo⟩,fun w4 SD _=>⟨⟨t+1,?_,Qo,dZ.step SD⟩,?_⟩⟩⟩⟩
   ·simp only[Th];rw[UJ Qo,C' ga,DC Qo];rfl
   ·simp only[Zq,Xc,ZR,Ie,List.getElem?_cons_succ]; omega
   ·simp only[Th];rw[UJ Qo,B' (by rw[ga]; decide)];rfl
   ·simp only[Zq,Xc,ZR,Ie,List.getElem?_cons_succ]; omega
  have AH6:=Ou AH6;have B44:t=12:=Qo;subst B44;refine⟨hp3.some,_,_,_,hp3.IC,fun vs w1=>∃(i:Nat),vs=[I (Th W2 (k:Int) c (12+i)),I (i:Int)]/\i<=8/\Mp base pb [x] w m w1 W2 m,Zq W2.IC.length 1,fun w4 SD _=>⟨0,rfl,Qd,dZ.step SD⟩,?_⟩;rintro eZ x9 Rx cJ ⟨i,he,hi,fH⟩;simp only[I4,I5,true_and,and_true] at he;obtain⟨rfl,rfl⟩:=he;have hp4:=fH.wpt;refine⟨fun BO3=>?_,fun CG3=>?_⟩
  ·have BO3:=Ot BO3;have hh:=EO (g:=(k:Int)) hp4 mY.a (k:=(i:Int)) Qo BO3 c0 Qo;rw[Ig] at hh
   have bG:Th W2 (k:Int) c (12+(i+1))=if XW W2 (k:Int) c i=true then (if (Qc W2 (i:Int) c).v<Th W2 (k:Int) c (12+i) then (Qc W2 (i:Int) c).v else Th W2 (k:Int) c (12+i)) else Th W2 (k:Int) c (12+i):=by
    rw[show 12+(i+1)=12+i+1 from rfl];simp only[Th];rw[JK,DB]
   refine⟨XW W2 (k:Int) c i,hh,fun ga=>?_,fun ga=>⟨⟨Qo,Qo⟩,fun w5 Sg _=>⟨⟨i+1,?_,Qo,fH.step Sg⟩,?_⟩⟩⟩
   ·have hui:Q6 W2.IC (i:Int)=true:=by
     unfold XW at ga;simp only[A'] at ga;exact Q4.2 ⟨Qo,BO3,ga.1.2.1⟩
    have DC4:=mY.a.sl hui;have hsh:=hp4.sh (g:=(i:Int)) (c:=c) Qo BO3 c0 Qo;refine⟨_,Zp hp4 Qo BO3 c0 Qo,hsh.1,_,hsh.2 (j:=2) rfl,⟨Qo,Qo⟩,fun w5 Sg _=>⟨⟨i+1,?_,Qo,fH.step Sg⟩,?_⟩⟩
    ·rw[bG,C' ga]; rfl
    ·simp only[Zq,Xc,ZR,Ie,List.getElem?_cons_succ]; omega
   ·rw[bG,B' (by rw[ga]; decide)]; rfl
   ·simp only[Zq,Xc,ZR,Ie,List.getElem?_cons_succ]; omega
  have CG3:=Ou CG3;have hi8:i=8:=Qo;subst hi8;rw[show 12+8=20 from rfl,hlm];have hsh:=hp4.sh (g:=(k:Int)) (c:=c) Qo Rr c0 cS;have br:=z7 mY (k:=(k:Int)) c0 Qo hK0;refine⟨fun gl=>?_,fun gl=>?_⟩
  ·have hb:Zr W2 (k:Int) c 20=true:=Iq fun hb=>by rw[B' hb] at gl; revert gl; decide
   rw[C' hb];have e1:=fH.own.BI1 (k:=(k:Int)) (c:=c) Qo Qo c0 cS (j:=0) (vs:=[I (if Z0 W2 (k:Int) c 20>(Qc W2 (k:Int) c).floor then Z0 W2 (k:Int) c 20 else (Qc W2 (k:Int) c).floor)]) (s:={ Qc W2 (k:Int) c with floor:=if Z0 W2 (k:Int) c 20>(Qc W2 (k:Int) c).floor then Z0 W2 (k:Int) c 20 else (Qc W2 (k:Int) c).floor }) rfl Qs
   have heq:RA W2 (k:Int) c { Qc W2 (k:Int) c with floor:=if Z0 W2 (k:Int) c 20>(Qc W2 (k:Int) c).floor then Z0 W2 (k:Int) c 20 else (Qc W2 (k:Int) c).floor }=QN W c (k+1):=by
    rw[SN]
    by_cases hgt:Z0 W2 (k:Int) c 20>(Qc W2 (k:Int) c).floor
    ·rw[C' hgt,C' (show (gi W2.IC (k:Int)).used=true/\Zr W2 (k:Int) c 20=true/\_>_ from ⟨g,hb,hgt⟩)]; rfl
    ·rw[B' hgt,B' (fun h=>hgt h.2.2)];exact zn7 Qo Rr c0 cS
   have tP:Qa (RA W2 (k:Int) c { Qc W2 (k:Int) c with floor:=if Z0 W2 (k:Int) c 20>(Qc W2 (k:Int) c).floor then Z0 W2 (k:Int) c 20 else (Qc W2 (k:Int) c).floor }) m=Qa W2 m:=Ui (VH Qo Rr).fr;refine⟨_,Zp hp4 Qo Rr c0 cS,_,Zp hp4 Qo Rr c0 cS,hsh.1,_,hsh.2 (j:=0) rfl,hsh.1,fH.own.Bp0 fH.nb Qo Qo c0 cS (j:=0) Qd,⟨Qo,Qo⟩,fun w5 Sg _=>Qm (w1:=w2) Qo ⟨Qo,?_⟩⟩;rw[<-heq];exact(fH.Sj e1 (zqb Qo Qo) tP).step Sg
  ·have hb:¬Zr W2 (k:Int) c 20=true:=fun hb=>by
    rw[C' hb] at gl;have:=Ou gl;omega
   refine⟨⟨Qo,Qo⟩,fun w5 Sg _=>Qm (w1:=w2) Qo ⟨Qo,?_⟩⟩;rw[SN,B' (fun h=>hb h.2.1)];exact fH.step Sg
 ·have Ry:=Ou Ry;rw[hN8 Qo];exact fun w3 R4=>⟨rfl,(Wq.step R4).close⟩
theorem Mp.nil{w0 w:Wo}{m0:MW}(h:Mp base pb [] w0 m0 w W m){w':Wo}(hx:Q0 [] w w'):Mp base pb [] w0 m0 w' W m:=h.step hx
theorem HQ{K:Int}(h:PW base pb w W m)(dR:SW K W)(hK0:0<=K)(hK:K+UL<=100000000000000000) :
  Cz XE #[.pointer (pA pb)] w fun e w'=>e=.returned (.tuple #[])/\Mp base pb [] w m w' (Qg W) m:=by
 refine(Hv (pA pb) (R:=fun v w'=>v=.tuple #[]/\Mp base pb [] w m w' (Qg W) m) ?_).mono fun e w' ⟨v,he,hv,h3⟩=>⟨by rw[he,hv],h3⟩
 have bM:=dR.a.gl;have CF1:=dR.a.c2;simp only[UL,Qi] at hK;have hp0:=(Mp.start h).wpt;refine⟨hp0.some,_,_,_,hp0.ID,?_⟩;refine Xx W.ID.length 0 rfl (fun k w1=>k<=W.ID.length/\Mp base pb [] w m w1 (Ya W k) m) (fun w1 S9 _=>⟨Ic _,(Mp.start h).M' S9⟩) fun k w1 cX ⟨hk,hM⟩=>?_
 obtain⟨hS,hO⟩:=O6 (F:=K) (K:=K+Qi) (dR.sf.mono (I2 _) (by simp only[Qi]; omega)) (I2 _) k hk;have SN:Ya W (k+1)=QF (Ya W k) (k:Int):=rfl;have mF:k=W.ID.length->Ya W W.ID.length=Ya W k:=fun e=>by rw[e]
 obtain⟨n1,n2,n3⟩:=KI hO.fr;generalize Ya W k=W1 at hM hS hO SN mF n1 n2 n3;refine⟨fun IS=>⟨_,_,XI,fun I' S9 SS=>?_⟩,fun Ry=>?_⟩
 ·have IS:=Ot IS;have hM1:=hM.nil S9;refine I3 (Pf hM1.pw hS Qo (by simp only[Qi]; omega) (c:=(k:Int)) Qo Qo) ?_;rintro e Rx ⟨he,hy⟩;refine⟨he,Yf,⟨Qo,Qo⟩,fun w3 R4 _=>Qm Qo ⟨Qo,?_⟩⟩;rw[SN];exact(hM1.call hy Qs).nil R4
 have Ry:=Ou Ry;have mF:=mF Qo;have SE:Qg W=XK (L3 W1) W.ID.length:=by unfold Qg; rw[mF]
 have hp1:=hM.wpt;refine⟨hp1.some,_,_,_,hp1.IC,?_⟩;refine Xx W1.IC.length 0 rfl (fun g w2=>g<=8/\Mp base pb [] w m w2 (Y7 W1 g) m) (fun w2 R0 _=>⟨Qd,hM.nil R0⟩) fun g w2 SS ⟨hg8,Wq⟩=>?_
 obtain⟨mY,mD⟩:=Te hS g hg8;have AF6:Y7 W1 (g+1)=if (gi (Y7 W1 g).IC (g:Int)).used=true/\(gi (Y7 W1 g).IC (g:Int)).IQ.IW≠0 then ZM (Y7 W1 g) (g:Int) (Y7 W1 g).ID.length else Y7 W1 g:=rfl;have AL7:g=8->L3 W1=Y7 W1 g:=fun e=>by rw[e]; rfl
 have hf2:=hO.fr.trans mD.fr;generalize Y7 W1 g=W2 at Wq mY mD AF6 AL7 hf2;obtain⟨q1,q2,q3⟩:=KI hf2;have fG:=Wq.wpt;refine⟨fun IS=>?_,fun aP=>?_⟩
 ·have IS:=Ot IS;have Rr:(g:Int)<(W2.IC.length:Int):=Qo;have hrl:=fG.rd.g.CN4 (i:=(g:Int)) Qo Rr;refine⟨fG.some,_,_,_,fG.IC,fG.rd.g.ix Qo Rr,_,_,_,hrl,?_⟩
  by_cases hq:(gi W2.IC (g:Int)).used=true/\(gi W2.IC (g:Int)).IQ.IW≠0
  ·rw[C' hq] at AF6;have hu:Q6 W2.IC (g:Int)=true:=Q4.2 ⟨Qo,Rr,hq.1⟩;have hbl:=((mY.w.a.u hu).2.2.IQ hq.2).2.1;refine Xx (gi W2.IC (g:Int)).IQ.locals.length 0 rfl (fun c w3=>c<=W2.ID.length/\Mp base pb [] w m w3 (ZM W2 (g:Int) c) m) (fun w3 R4 _=>⟨Ic _,Wq.nil R4⟩) fun c w3 dQ ⟨hc,dZ⟩=>?_
   obtain⟨hS3,hO3,hq3⟩:=Gc mY hu hq.2 c hc;have yU:ZM W2 (g:Int) (c+1)=if gi (gi (ZM W2 (g:Int) c).IC (g:Int)).IQ.locals (c:Int)>0/\QT (ZM W2 (g:Int) c) (g:Int) (c:Int)=false then RI (ZM W2 (g:Int) c) (g:Int) (Ys (gi (ZM W2 (g:Int) c).IC (g:Int)).IQ (c:Int)) else ZM W2 (g:Int) c:=rfl;have Bt9:c=W2.ID.length->Y7 W1 (g+1)=ZM W2 (g:Int) c:=fun e=>by rw[AF6,e]
   have hu3:Q6 (ZM W2 (g:Int) c).IC (g:Int)=true:=by rw[hO3.g.cK]; exact hu
   have hf3:=hf2.trans hO3.fr;generalize ZM W2 (g:Int) c=W3 at dZ hS3 hO3 hq3 yU Bt9 hu3 hf3;obtain⟨r1,r2,r3⟩:=KI hf3;obtain⟨u0,u1,jA⟩:=hS3.w.a.u hu3;obtain⟨hb3,Cf1,_⟩:=jA.IQ hq3;have AU4:(g:Int)<(W3.IC.length:Int):=Qo;have hp3:=dZ.wpt;have hLo:=hp3.rd.g.locals (g:Int) Qo AU4;refine⟨fun jG=>?_,fun AM0=>?_⟩
   ·have jG:=Ot jG;have CH2:=hLo.ix Jm (i:=(c:Int)) Qo Qo;rw[Cf1,r1,<-q1,<-hbl] at CH2;have Ao1:=MX (g:=(g:Int)) (c:=(c:Int)) hp3 hS3.w.a Qo Qo;refine⟨CH2,_,hLo (c:Int) Qo Qo,_,_,fun _=>XI,_,fun _=>Ao1,fun g3 RH Sg _=>?_,fun g3=>?_⟩
    ·simp only[A',Ij,IB] at g3;rw[C' g3] at yU;have hM5:=dZ.nil Sg;have Cj3:Zf 8 base RH (RI W3 (g:Int) (gi W3.IC (g:Int)).IQ) m:=by rw[zcy Qo AU4]; exact hM5.own
     refine I3 (zrk (op:=⟨3,(c:Int),0⟩) Cj3 Qo Qo hb3) ?_;rintro e1 dA ⟨fJ,hB,hX⟩
     have dD:ZL (gi W3.IC (g:Int)).IQ ⟨3,(c:Int),0⟩=(Ys (gi W3.IC (g:Int)).IQ (c:Int),0):=by
      unfold ZL;rw[B' (show ¬(3:Int)=4 by decide),B' (by rw[Qu.2 (by show 0<=(c:Int)/\(c:Int)<=_; omega)]; decide),B' (show ¬(3:Int)=1 by decide),B' (show ¬(3:Int)=2 by decide),C' rfl]
     rw[dD] at fJ hB
     dsimp only at fJ hB
     refine⟨_,fJ,Yf,⟨Qo,Qo⟩,fun w6 aO _=>Qm Qo ⟨Qo,?_⟩⟩;rw[yU];exact(hM5.Sj hB hX (Ui (BK Qo AU4).fr)).nil aO
    ·refine⟨⟨Qo,Qo⟩,fun w6 aO _=>Qm Qo ⟨Qo,?_⟩⟩;rw[yU,B']
     ·exact dZ.nil aO
     ·rintro⟨h1,h2⟩;rw[h2,Ih h1] at g3;cases g3
   ·have AM0:=Ou AM0;refine⟨⟨Qo,Qo⟩,fun w6 aO _=>Qm Qo ⟨Qo,?_⟩⟩;rw[Bt9 Qo];exact dZ.nil aO
  ·rw[B' hq] at AF6
   have hz:(gi W2.IC (g:Int)).IQ.locals.length=0:=by
    have hgp:=mY.w.a.grp (g:Int) Qo Qo
    cases hu:(gi W2.IC (g:Int)).used with
    | false=>exact(Gv (hgp.1 hu).b).2.2.2.1
    | true=>
     have h0:(gi W2.IC (g:Int)).IQ.IW=0:=Iq fun hn=>hq ⟨hu,hn⟩
     exact(Gv ((hgp.2 hu).none h0).1).2.2.2.1
   rw[hz];refine Xx 0 0 rfl (fun c w3=>c<=0/\Mp base pb [] w m w3 W2 m) (fun w3 R4 _=>⟨Ic _,Wq.nil R4⟩) fun c w3 dQ ⟨hc,dZ⟩=>⟨fun jG=>?_,fun _=>⟨⟨Qo,Qo⟩,fun w6 aO _=>Qm Qo ⟨Qo,?_⟩⟩⟩
   ·have:=Ot jG;omega
   ·rw[AF6];exact dZ.nil aO
 have aP:=Ou aP;have AL7:=AL7 Qo;rw[AL7] at SE;have hS4:SW (K+Qi) W2:=mY.w;refine⟨fG.some,_,_,_,fG.ID,?_⟩;refine Xx W2.ID.length 0 rfl (fun k w3=>k<=W2.ID.length/\Mp base pb [] w m w3 (XK W2 k) m) (fun w3 R4 _=>⟨Ic _,Wq.nil R4⟩) fun k w3 dQ ⟨hk,tY⟩=>?_
 obtain⟨hS7,hf7⟩:=Ku hS4 (by simp only[Qi]; omega) k hk;have AL6:XK W2 (k+1)=UX (XK W2 k) (k:Int):=rfl;have AL8:k=W2.ID.length->Qg W=XK W2 k:=fun e=>by rw[SE,<-q1,e]
 have hfW:=hf2.trans hf7;obtain⟨q1,q2,q3⟩:=KI hfW;generalize XK W2 k=W7 at tY hS7 hf7 AL6 AL8 hfW q1 q2 q3;refine⟨fun IS=>⟨_,_,XI,fun b hb Sd yX mH=>?_⟩,fun Ry=>?_⟩
 ·have IS:=Ot IS;have hM9:=(tY.add hb).M' yX;have hk4:(k:Int)<=4:=Qo;have qX:(k:Int)<(W7.ID.length:Int):=Qo;have hSF:=hS7.sf.mono (F':=K+Qi+(k:Int)*Qi) (K':=K+Qi+(k:Int)*Qi+Qi) (I2 _) (by simp only[Qi]; omega);refine I3 (Pf hM9.pw hSF (I2 _) (by simp only[Qi]; omega) (c:=(k:Int)) Qo qX) ?_;rintro e2 bS ⟨aE,Sn⟩;obtain⟨hS8,hO8⟩:=H4 hSF (I2 _) (c:=(k:Int)) Qo qX;have hM8:=hM9.call Sn mH;refine⟨aE,hM9.kept Sn mH,fun Se AM6 yW=>?_⟩;have A63:=hM8.step AM6;have bG:UX W7 (k:Int)=if PY (Z6 (QF W7 (k:Int)) (k:Int)) (k:Int)=true then Rn (Z6 (QF W7 (k:Int)) (k:Int)) (k:Int) else Z6 (QF W7 (k:Int)) (k:Int):=rfl;have c2':(k:Int)<((QF W7 (k:Int)).ID.length:Int):=by rw[hO8.c]; exact qX
  refine I3 (zk2 A63.pw hS8.w (by simp only[Qi]; omega) (by simp only[Qi]; omega) (c:=(k:Int)) Qo c2') ?_;rintro e3 kZ ⟨iU,fK⟩;obtain⟨B07,B06⟩:=Pu hS8.w (by simp only[Qi]; omega) (c:=(k:Int)) Qo c2' 8 Qd;have AU2:=A63.call fK yW;have A62:=A63.kept fK yW;have BN8:Fr W (Z6 (QF W7 (k:Int)) (k:Int)):=(hfW.trans hO8.fr).trans B06.fr;have rG:SW (K+Qi+(k:Int)*Qi+Qi) (Z6 (QF W7 (k:Int)) (k:Int)):=B07;generalize Z6 (QF W7 (k:Int)) (k:Int)=yK at AU2 BN8 rG bG;obtain⟨r1,r2,r3⟩:=KI BN8;have hp:=AU2.wpt;have c3':(k:Int)<(yK.ID.length:Int):=Qo;have pJ:=rG.cu (k:Int) Qo c3';have iX:=rG.a.t
  have hT:((gi yK.ID (k:Int)).cur != -1)=true->0<=(gi yK.ID (k:Int)).cur/\(gi yK.ID (k:Int)).cur<(yK.tasks.length:Int):=fun g=>by
   have:(gi yK.ID (k:Int)).cur≠-1:=by simpa using g
   exact⟨Qo,Qo⟩
  have Bm1:=M3 (c:=(k:Int)) hp Qo c3';have Bv5:=GI (n:=Int.toNat (k:Int)*5) (hp.rd.c (k:Int) Qo c3');have Wr:=zac (hp.rd.c (k:Int) Qo c3') (j:=1) rfl
  have Bu2:PY yK (k:Int)=(((gi yK.ID (k:Int)).cur != -1) && !(((Q7 yK (gi yK.ID (k:Int)).cur).IZ==(k:Int))&&ZA yK (gi yK.ID (k:Int)).cur)):=by
   unfold PY
   have e:decide ((gi yK.ID (k:Int)).cur>=0)=((gi yK.ID (k:Int)).cur != -1):=by
    by_cases hc:(gi yK.ID (k:Int)).cur = -1
    ·rw[hc]; rfl
    ·rw[It.2 hc,Ih Qo]
   rw[e,Bool.not_and];rfl
  refine⟨iU,A62,_,Bm1,Bv5,_,Wr,_,fun _=>Bm1,fun _=>Bv5,_,fun _=>Wr,_,fun g=>HN hp rG.a (hT g).1 (hT g).2 Qo c3' (fun hs=>(rG.li (hT g).1 (hT g).2 hs).1),fun g Si uB AM5=>?_,fun g=>?_⟩
  ·have A64:=AU2.step uB;refine I3 (O4 A64.pw (c:=(k:Int)) Qo c3') ?_;rintro e4 yN ⟨he4,fL⟩;refine⟨he4,A64.kept fL AM5,⟨Qo,Qo⟩,fun w6 aO _=>Qm Qo ⟨Qo,?_⟩⟩;rw[AL6,bG,C' (by rw[Bu2]; exact g)];exact((A64.call fL AM5).step aO).close
  ·refine⟨⟨Qo,Qo⟩,fun w6 aO _=>Qm Qo ⟨Qo,?_⟩⟩;rw[AL6,bG,B' (by rw[Bu2,g]; decide)];exact(AU2.step aO).close
 ·have Ry:=Ou Ry;rw[AL8 Qo];exact fun w9 lB=>⟨rfl,tY.nil lB⟩
end
section
variable {b:UM}{m:MG}{w:Wo}
theorem znf(h1:zqo [] w m.lO b.locals)(h2:zy9 [] w m.dO b.Rw)(l1:b.locals.length<=1048576)(l2:b.Rw.length<=1048576) :
  Cz TM #[.agg (Zv b m).toArray] w fun e w'=>∃p,e=.returned (.agg (Zv b p).toArray)/\Zn w.heap.size w' b p/\Q0 [] w w':=by
 refine(Ae b.IW b.Rv b.Sl m.lO b.locals.length m.lC m.dO b.Rw.length m.dC (R:=fun v w'=>∃p,v=.agg (Zv b p).toArray/\Zn w.heap.size w' b p/\Q0 [] w w') ?_).mono fun e w' ⟨v,he,p,hv,h3⟩=>⟨p,by rw[he,hv],h3⟩
 have hm9:=ZH;intro x hx x5 Sg wr rA hs0;have s0:Sc w [x,x5] wr:=(((Sc.start w).add hx).add Sg).M' rA;refine⟨_,_,_,_,K3 YT Mg b.locals.length Qo Qo wr,Qe (Z4 _ _) hs0,fun I' S9 cX=>?_⟩;have hL0:Ob JI 1 Qb wr.heap.size [x,x5] _ (some ⟨wr.heap.size,0,none⟩) b.locals.length (List.replicate b.locals.length (0:Int)):=Ob.of (UV (enc:=JI) YT.len Qb b.locals.length (0:Int) wr) hs0;have s1:=(s0.M' (Z4 wr (.cells ((List.replicate b.locals.length (0:Int)).flatMap JI).toArray Qb))).step S9;have hL1:=hL0.step S9;obtain⟨n1,w2,Av2,hL2,bE⟩:=zp3 YT Mg z0b Qd (c2:=m.lC) hL1.own (h1.ext s1.ext) (m:=b.locals) Qs Qb #[false,false];rw[List.length_replicate] at Av2;have s2:=s1.call bE fun y hy=>IA s0.ext.size (hL1.own.lt y hy).1
 have Cd6:Ob JI 1 Qb wr.heap.size [x,x5] w2 (some ⟨wr.heap.size,0,none⟩) b.locals.length b.locals:=⟨hL2,hL1.nb⟩;refine⟨_,_,Av2,Gp bE cX hL1.nb,fun J' R0 SS=>⟨_,_,_,_,K3 XC Kw b.Rw.length Qo Qo J',Qe (Z4 _ _) SS,fun Rp R4 dQ=>?_⟩⟩;have s3:=((s2.step R0).M' (Z4 J' (.cells ((List.replicate b.Rw.length false).flatMap Mm).toArray Y4))).step R4;have hL3:=((Cd6.step R0).M' (Z4 J' (.cells ((List.replicate b.Rw.length false).flatMap Mm).toArray Y4))).step R4;have hD0:Ob Mm 1 Y4 J'.heap.size [x,x5] _ (some ⟨J'.heap.size,0,none⟩) b.Rw.length (List.replicate b.Rw.length false):=Ob.of (UV (enc:=Mm) XC.len Y4 b.Rw.length false J') SS;have hD1:=hD0.step R4;obtain⟨n2,w4,Av3,hD2,Sn⟩:=zp3 XC Kw z1j Qd (c2:=m.dC) hD1.own (h2.ext s3.ext) (m:=b.Rw) Qs Qb #[false,false];rw[List.length_replicate] at Av3;have hz2:w.heap.size<=J'.heap.size:=(s2.step R0).ext.size;have s4:=s3.call Sn fun y hy=>IA hz2 (hD1.own.lt y hy).1
 have hL4:=hL3.call Sn (hL3.own.SR hD1.own Qd);have hD3:Ob Mm 1 Y4 J'.heap.size [x,x5] w4 (some ⟨J'.heap.size,0,none⟩) b.Rw.length b.Rw:=⟨hD2,hD1.nb⟩;exact⟨_,_,Av3,Gp Sn dQ hD1.nb,fun Rt SD=>⟨⟨some ⟨wr.heap.size,0,none⟩,b.locals.length,some ⟨J'.heap.size,0,none⟩,b.Rw.length,none,0⟩,rfl,⟨(hL4.step SD).own.mono s0.ext.size,(hD3.step SD).own.mono hz2⟩,(s4.step SD).ext⟩⟩
end
theorem Fq{α:Type}[Inhabited α]{P:Program}{enc:α->List Va}{z:Nat}{ty t:TypeId}{bytes:Nat}{zero:α}(E:zom P enc z ty bytes zero)(ht:P.underlying t=some (.slice ty))(Ba8:∀x,Zd (enc x)=true)(hz0:0<z){w:Wo}{o:OA}{c:Nat}{l:List α}(h:Rd enc z [] w o l)(hl:l.length<=1048576)(hby:bytes<=1000)(tr:TypeId)(cs:Array Bool) :
  ∃o' c' w',(builtin .append #[t,t] tr cs #[.slice none 0 0,.slice o l.length c]).run P w=.ok (.value (.slice o' l.length c')) w'/\Uz enc z ty w.heap.size w' o' c' l/\Q0 [] w w':=by
 have hO:Uz enc z ty w.heap.size w none 0 ([]:List α):=.inl ⟨rfl,rfl,rfl⟩
 have hbb:(2*(([]:List α).length+l.length))*bytes<=281474976710656:=by
  rw[List.length_nil,Nat.zero_add];exact IA (Nat.mul_le_mul (show 2*l.length<=2097152 by omega) hby) Qd
 obtain⟨o',c',w',h1,h2,h3,_⟩:=zp2 E ht hO (zvn E.len Ba8 ht h (c:=c) hz0) hbb (by rw[List.length_nil]; omega) tr (I7 _);rw[List.length_nil,Nat.zero_add] at h1;exact⟨o',c',w',z9 h1,h2,h3⟩
theorem zln(W:Q8)(ms:Nat->MG)(n k:Nat)(hk:k<n)(p:MG):(Tw W ms n).set k (gi W.IC (k:Int),p)=Tw W (fun j=>if j=k then p else ms j) n:=by
 refine zm8 (by rw[E',YM,YM]) fun j hj=>?_
 rw[E',YM] at hj;have:=QE (Tw W ms n) (gi W.IC (k:Int),p) (i:=(k:Int)) Qo (by rw[YM]; omega) (j:=(j:Int)) Qo;rw[Ig] at this;rw[this,Hb Qo Qo,Hb Qo Qo]
 by_cases e:k=j
 ·subst e; simp
 ·rw[B' Qo,B' (by simp; omega)]
theorem znv(W:Q8){ms ms':Nat->MG}{n:Nat}(h:∀j,j<n->ms j=ms' j):Tw W ms n=Tw W ms' n:=by
 unfold Tw;exact List.map_congr_left fun j hj=>by rw[h j (List.mem_range.1 hj)]
section
variable {W:Q8}{m:MW}{w:Wo}
theorem Nj(h:XQ [] w W m)(ha:WA W) :
  Cz JN #[.agg (Qa W m).toArray] w fun e w'=>∃m',e=.returned (.agg (Qa W m').toArray)/\Zf 8 w.heap.size w' W m'/\Q0 [] w w':=by
 refine(Bc _ _ _ _ _ _ _ _ _ _ (R:=fun v w'=>∃m',v=.agg (Qa W m').toArray/\Zf 8 w.heap.size w' W m'/\Q0 [] w w') ?_).mono fun e w' ⟨v,he,m',hv,h3⟩=>⟨m',by rw[he,hv],h3⟩
 have rJ:=ha.c2;have iX:=ha.t;have bM:=ha.gl;intro x hx x1 S9 x2 R0 wr rA hs0;have s0:Sc w [x,x1,x2] wr:=((((Sc.start w).add hx).add S9).add R0).M' rA;obtain⟨cO,cC,w1,Av2,hC1,bE⟩:=Fq H1 K5 z0a Qd (c:=m.cC) (h.c.ext s0.ext) Qo Qd Zm #[false,false];refine⟨_,_,_,_,Av2,Qe bE hs0,fun I' CL7 cX=>?_⟩;have s1:=(s0.M' bE).step CL7;have hC2:=(Ob.of hC1 hs0).step CL7;obtain⟨tO,tC,w2,Av3,hT1,Sn⟩:=Fq PF Mf z1l Qd (c:=m.tC) (h.t.ext s1.ext) Qo Qd QZ #[false,false];refine⟨_,_,_,_,Av3,Qe Sn cX,fun J' B46 SS=>?_⟩;have s2:=(s1.M' Sn).step B46;have hC3:=(hC2.M' Sn).step B46;have hT3:=(Ob.of hT1 cX).step B46
 have hrp:Rd TL 14 [] J' m.gO (Tw W m.ms 8):=fun i h0 hi=>by
  rw[YM] at hi;rw[Hb h0 hi];exact(h.g.ext s2.ext).cells i h0 Qo
 obtain⟨gO,gC,w3,Bb2,hG1,fK⟩:=Fq Yk Pa (fun p=>z1k p.1 p.2) Qd (c:=m.gC) hrp (by rw[YM]; decide) Qd Qz #[false,false];rw[YM] at Bb2;have Bb3:(builtin .append #[Qz,Qz] Qz #[false,false] #[.slice none 0 0,.slice m.gO W.IC.length m.gC]).run Tryz.prog J'=.ok (.value (.slice gO W.IC.length gC)) w3:=by rw[bM]; exact Bb2
 have z1:w.heap.size<=I'.heap.size:=s1.ext.size;have z2:w.heap.size<=J'.heap.size:=s2.ext.size;have s3:=s2.M' fK;have hC4:=(hC3.M' fK).mono s0.ext.size;have hT4:=(hT3.M' fK).mono z1;have hG4:=Ob.of hG1 SS
 refine⟨_,_,_,_,Bb3,Qe fK SS,fun vs w4=>∃(k:Nat) (ms:Nat->MG),vs=[I (k:Int)]/\k<=8/\Sc w [x,x1,x2] w4/\J'.heap.size<=w4.heap.size/\Ob Hy 5 Zt w.heap.size [x,x1,x2] w4 cO cC W.ID/\Ob Xv 9 QD w.heap.size [x,x1,x2] w4 tO tC W.tasks/\Ob TL 14 QS J'.heap.size [x,x1,x2] w4 gO gC (Tw W ms 8)
   /\ (∀j,j<k->Pj J'.heap.size w4 (gi W.IC (j:Int),ms j)/\∀y∈Qr (ms j),y∉[x,x1,x2])/\(∀i j,i<k->j<k->i≠j->∀y∈Qr (ms i),y∉Qr (ms j))/\(∀j,k<=j->ms j=m.ms j),
  Zq W.IC.length 0,fun w4 SD _=>⟨0,m.ms,rfl,Qd,s3.step SD,IA fK.size SD.size,hC4.step SD,hT4.step SD,hG4.step SD,fun j hj=>by omega,fun i j hi=>by omega,fun j _=>rfl⟩,?_⟩
 clear s3 hC4 hT4 hG4 hG1 hrp Bb2 Bb3 hC3 hT3 hC2 hT1 Av2 Av3 hC1;rintro x9 S6 dQ ⟨k,ms,he,hk,s3,z3,hC,hT,hG,hE,hJ,hF⟩;simp only[I4,I5,true_and,and_true] at he;subst he;refine⟨fun IS=>?_,fun Ry=>?_⟩
 ·have IS:=Ot IS;have hrb:KX [x,x1,x2] S6 m.gO W.IC m.ms:=(h.g.wide (cs:=[x,x1,x2]) fun y hm=>.inr (s3.new y hm)).ext s3.ext.of_nil;have V':=hrb.ix (i:=(k:Int)) Qo IS;obtain⟨bl1,bl2,bl3⟩:=LR ha (k:=(k:Int)) Qo Qo;refine⟨V',_,_,_,_,_,_,_,_,_,_,_,_,_,_,_,_,_,_,_,_,hrb.cells (k:Int) Qo IS,fun b3 hb3 Rt SD cJ=>?_⟩;have s4:=s3.put SD hb3;have hC4:=hC.put SD hb3;have hT4:=hT.put SD hb3;have hG4:=hG.put SD hb3;have hr4:=h.g.ext s4.ext;have z4:J'.heap.size<=Rt.heap.size:=IA z3 SD.size;refine I3 (znf (hr4.locals (k:Int) Qo IS) (hr4.Rw (k:Int) Qo IS) Qo Qo) ?_;rintro e bB ⟨p,he,hB,fL⟩;have s5:=s4.M' fL;have hC5:=hC4.M' fL;have hT5:=hT4.M' fL;have hG5:=hG4.M' fL;have qY:gi (Tw W ms 8) (k:Int)=(gi W.IC (k:Int),ms k):=by rw[Hb Qo Qo,Ig]
  have hmk:ms k=m.ms k:=hF k (I7 _);have hBn:∀y∈Yn p,Rt.heap.size<=y:=fun y hm=>(hB.lt y hm).1
  have e1:=hG5.own.Rl Yk.len (i:=(k:Int)) Qo (by rw[YM]; omega) (j:=8) (vs:=Zv (gi W.IC (k:Int)).IQ p) (x:=(gi W.IC (k:Int),K2 (ms k) p)) (by rw[qY]; rfl) (by simp[Zv]);have CG4:=hG5.own.ix (i:=(k:Int)) Qo (by rw[YM]; omega);have CG7:=hG5.own.wr Yk.len hG5.nb (i:=(k:Int)) Qo (by rw[YM]; omega) (j:=8) (n:=5) Qd;rw[YM] at CG4;have Bu1:Ix gO W.IC.length (k:Int):=by rw[bM]; exact CG4
  simp only[Ig] at e1 CG7;rw[zln W ms 8 k Qo] at e1;refine⟨_,_,_,_,_,_,_,_,_,he,Qe fL cJ,rfl,Bu1,CG7,fun RH Sg jO=>?_⟩;have hX5:=hG5.own.qC (k*14+8) (Zv (gi W.IC (k:Int)).IQ p);have s6:=(s5.call hX5 fun y hy=>IA z2 (hG5.own.lt y hy).1).step Sg;have hC6:=(hC5.call hX5 (hC5.own.SR hG5.own Qd)).step Sg;have hT6:=(hT5.call hX5 (hT5.own.SR hG5.own Qd)).step Sg;have hG6:Ob TL 14 QS J'.heap.size ([x,x1,x2]++[b3]) RH gO gC (Tw W (fun j=>if j=k then K2 (ms k) p else ms j) 8):=(⟨e1,hG5.nb⟩:Ob TL 14 QS J'.heap.size ([x,x1,x2]++[b3]) _ gO gC _).step Sg
  have Bl0:∀y∈Yn p,y∉[x,x1,x2]++[b3]:=fun y hm fE=>by
   have:=hBn y hm;have:=cJ y fE;omega
  have hBg:∀y∈Yn p,y∉QI gO:=fun y hm fE=>by
   have:=hBn y hm;have:=(hG4.own.lt y fE).2;omega
  have hB6:=(hB.ext hX5 hBg).ext Sg Bl0;have z5:Rt.heap.size<=RH.heap.size:=IA (IA fL.size hX5.size) Sg.size;obtain⟨sO,sC,w6,CK2,hS6,hy6⟩:=Fq Pt Pb z0c Qd (c:=(m.ms k).sC) ((h.g.ext s6.ext).IE (k:Int) Qo IS) Qo Qd Z5 #[true,false];have s7:=s6.M' hy6;have hC7:=hC6.M' hy6;have hT7:=hT6.M' hy6;have hG7:=hG6.M' hy6;have hB7:=hB6.Wi hy6
  have Cg6:gi (Tw W (fun j=>if j=k then K2 (ms k) p else ms j) 8) (k:Int)=(gi W.IC (k:Int),K2 (ms k) p):=by
   rw[Hb Qo Qo,Ig,C' rfl]
  have e2:=hG7.own.Rl Yk.len (i:=(k:Int)) Qo (by rw[YM]; omega) (j:=13) (vs:=[.slice sO (gi W.IC (k:Int)).IE.length sC]) (x:=(gi W.IC (k:Int),⟨p.lO,p.lC,p.dO,p.dC,sO,sC⟩)) (by rw[Cg6]; rfl) Qs;have Bu3:=hG7.own.wr Yk.len hG7.nb (i:=(k:Int)) Qo (by rw[YM]; omega) (j:=13) (n:=1) Qd;simp only[Ig] at e2 Bu3;rw[zln _ _ 8 k Qo] at e2
  have Ci7:Tw W (fun j=>if j=k then (⟨p.lO,p.lC,p.dO,p.dC,sO,sC⟩:MG) else if j=k then K2 (ms k) p else ms j) 8=Tw W (fun j=>if j=k then (⟨p.lO,p.lC,p.dO,p.dC,sO,sC⟩:MG) else ms j) 8:=znv W fun j _=>by
   by_cases e:j=k
   ·rw[C' e,C' e]
   ·rw[B' e,B' e,B' e]
  rw[Ci7] at e2;have hX7:=hG7.own.qC (k*14+13) [.slice sO (gi W.IC (k:Int)).IE.length sC];refine⟨_,_,_,_,CK2,Qe hy6 jO,rfl,Bu1,Bu3,⟨Qo,Qo⟩,fun w9 lB _=>⟨⟨k+1,fun j=>if j=k then (⟨p.lO,p.lC,p.dO,p.dC,sO,sC⟩:MG) else ms j,rfl,Qo,?_,?_,?_,?_,?_,?_,?_,?_⟩,?_⟩⟩
  ·exact((s7.call hX7 fun y hy=>IA z2 (hG7.own.lt y hy).1).step lB).sub Qs
  ·exact IA (IA (IA (IA z4 z5) hy6.size) hX7.size) lB.size
  ·exact((hC7.call hX7 (hC7.own.SR hG7.own Qd)).step lB).sub Qs
  ·exact((hT7.call hX7 (hT7.own.SR hG7.own Qd)).step lB).sub Qs
  ·exact((⟨e2,hG7.nb⟩:Ob TL 14 QS J'.heap.size ([x,x1,x2]++[b3]) _ gO gC _).step lB).sub Qs
  ·intro j hj;have hSn:∀y∈QI sO,RH.heap.size<=y:=fun y hm=>(hS6.lt y hm).1
   by_cases e:j=k
   ·subst e;simp only[if_true]
    have CE2:∀y∈QI sO,y∉[x,x1,x2]++[b3]:=fun y hm fE=>by
     have:=hSn y hm;have:=jO y fE;omega
    have hO9:Pj J'.heap.size w9 (gi W.IC (j:Int),⟨p.lO,p.lC,p.dO,p.dC,sO,sC⟩):=by
     have hB9:=((hB7.ext hX7 hBg).ext lB Bl0).mono z4;exact⟨hB9.loc,hB9.Rw,(((hS6.ext hX7 (hS6.SR hG7.own Qd)).ext lB CE2)).mono (IA z4 z5)⟩
    refine⟨hO9,fun y hm fE=>?_⟩;have B29:y∈[x,x1,x2]++[b3]:=Ia _ fE;simp only[Qr,Im] at hm;rcases hm with (hm | hm) | hm
    ·exact Bl0 y (Ia _ hm) B29
    ·exact Bl0 y (Iw _ hm) B29
    ·exact CE2 y hm B29
   ·dsimp only
    rw[B' e];obtain⟨hm1,hm2⟩:=hE j Qo;refine⟨?_,hm2⟩
    have CI8:∀y∈Qr (ms j),y∉[x,x1,x2]++[b3]:=fun y hm fE=>by
     rcases Im.1 fE with h1 | h1
     ·exact hm2 y hm h1
     ·have:y=b3:=by simpa using h1
      have:=(hm1.lt y hm).2;omega
    have hgg:∀y∈Qr (ms j),y∉QI gO:=Jh (p:=(gi W.IC (j:Int),ms j)) hG.own hm1;exact((((((hm1.ext SD hm2).Wi fL).ext hX5 hgg).ext Sg CI8).Wi hy6).ext hX7 hgg).ext lB CI8
  ·intro i j hi hj hij y hm fE
   dsimp only at hm fE
   have Ao5:∀y∈Qr (⟨p.lO,p.lC,p.dO,p.dC,sO,sC⟩:MG),Rt.heap.size<=y:=fun y hm=>by
    simp only[Qr,Im] at hm;rcases hm with (hm | hm) | hm
    ·exact hBn y (Ia _ hm)
    ·exact hBn y (Iw _ hm)
    ·exact IA z5 (hS6.lt y hm).1
   have hold:∀j,j<k->∀y∈Qr (ms j),y<Rt.heap.size:=fun j hj y hm=>Nat.lt_of_lt_of_le ((hE j hj).1.lt y hm).2 SD.size
   by_cases e1:i=k
   ·rw[C' e1] at hm
    by_cases e2:j=k
    ·omega
    ·rw[B' e2] at fE;have:=Ao5 y hm;have:=hold j Qo y fE;omega
   ·rw[B' e1] at hm
    by_cases e2:j=k
    ·rw[C' e2] at fE;have:=Ao5 y fE;have:=hold i Qo y hm;omega
    ·rw[B' e2] at fE;exact hJ i j Qo Qo hij y hm fE
  ·intro j hj
   dsimp only
   rw[B' Qo];exact hF j Qo
  ·simp only[Zq,Xc,ZR,Ie]; omega
 ·have Ry:=Ou Ry;have hk8:k=8:=Qo;subst hk8;refine fun w9 lB=>⟨⟨cO,cC,tO,tC,gO,gC,ms⟩,rfl,⟨(hC.step lB).own,(hT.step lB).own,?_,bM⟩,(s3.step lB).ext⟩
  have e:zpx W ⟨cO,cC,tO,tC,gO,gC,ms⟩=Tw W ms 8:=by unfold zpx Tw; rw[bM]
  rw[e]
  have hgi:∀i:Int,0<=i->i<((Tw W ms 8).length:Int)->i.toNat<8/\gi (Tw W ms 8) i=(gi W.IC ((i.toNat:Nat):Int),ms i.toNat):=fun i a b=>by
   rw[YM] at b;refine⟨Qo,?_⟩;rw[Hb a b,show ((i.toNat:Nat):Int)=i by omega]
  refine⟨(hG.step lB).own.mono z2,fun i a b=>?_,fun i j a b a' b' hij=>?_⟩
  ·obtain⟨c1,c2⟩:=hgi i a b;rw[c2];exact((hE _ c1).1.ext lB (hE _ c1).2).mono z2
  ·obtain⟨c1,c2⟩:=hgi i a b;obtain⟨d1,d2⟩:=hgi j a' b';rw[c2,d2];exact hJ _ _ c1 d1 Qo
end
end Go.Proofs.YtnclplgaicdapaaGreatDoor
