/- Part 9 of what the law FnDropEmpty needs. -/
import Derived.Test.YtnclplgaicdapaaGreatDoorFnDropEmptyPh
set_option linter.unusedVariables false
set_option linter.unusedSimpArgs false
set_option maxRecDepth 100000
set_option maxHeartbeats 8000000
namespace Go.Proofs.YtnclplgaicdapaaGreatDoor
open Go.RowKit
theorem AF{F K:Int}{W:Q7}(h:SF F K W)(hk:F+Qn<=K){c d:Int}(d1:1<=d)(c0:0<=c)(c1:c<(W.IE.length:Int)):∀k:Nat,k<=8->SF F K (ZV W c d k)/\JB W (ZV W c d k)
 | 0,_=>⟨h,JB.refl _⟩
 | k+1,hk8=>by
  obtain⟨ih,io⟩:=AF h hk (d:=d) d1 c0 c1 k Qo;have hl:=ih.w.a.gl;simp only[ZV];split
  ·rename_i hc;have hu:Q6 (ZV W c d k).ID (k:Int)=true:=Q5.2 ⟨Qo,Qo,hc.1⟩;exact⟨zpt ih hk hu hc.2 d1 c0 (by rw[io.c]; exact c1),io.trans (M9 Qo Qo)⟩
  ·exact⟨ih,io⟩
theorem Ey{F K:Int}{W:Q7}(h:SF F K W)(hk:F+Qn<=K){c:Int}(c0:0<=c)(c1:c<(W.IE.length:Int)):∀j:Nat,j<=3->SF F K (XI W c j)/\JB W (XI W c j)
 | 0,_=>⟨h,JB.refl _⟩
 | j+1,hj=>by
  obtain⟨a1,b1⟩:=Ey h hk c0 c1 j Qo;obtain⟨a2,b2⟩:=AF a1 hk (c:=c) (d:=3-(j:Int)) Qo c0 (by rw[b1.c]; exact c1) 8 Qo;exact⟨a2,b1.trans b2⟩
theorem Ex{F K:Int}{W:Q7}(h:SF F K W)(hk:F+Qn<=K){c:Int}(c0:0<=c)(c1:c<(W.IE.length:Int)):SF F K (QR W c)/\JB W (QR W c):=Ey h hk c0 c1 3 (I8 _)
def YN(W:Q7):Nat->Q7
 | 0=>W
 | c+1=>QR (YN W c) (c:Int)
theorem Oy{F K:Int}{W:Q7}(h:SF F K W)(hk:F+Qn<=K):∀c:Nat,c<=W.IE.length->SF F K (YN W c)/\JB W (YN W c)
 | 0,_=>⟨h,JB.refl _⟩
 | c+1,hc=>by
  obtain⟨a,b⟩:=Oy h hk c Qo;obtain⟨a2,b2⟩:=Ex a hk (c:=(c:Int)) Qo (by rw[b.c]; omega);exact⟨a2,b.trans b2⟩
def Yn(b:Jj)(c:Int):Jj:={ b with Sp:=b.Sp+gi b.locals c,locals:=b.locals.set c.toNat 0,RI:=if b.Sp+gi b.locals c>0 then List.replicate b.RI.length false else b.RI }
theorem KW(l:List Int)(c:Int)(x:Int)(c0:0<=c)(c1:c<(l.length:Int)):∀k:Nat,Um (l.set c.toNat x) k=Um l k+if c<(k:Int) then x-gi l c else 0
 | 0=>by simp only[Um]; rw[C' Qo]; omega
 | k+1=>by
  simp only[Um];rw[KW l c x c0 c1 k,QC _ _ c0 c1 Qo]
  by_cases e:c=(k:Int)
  ·subst e;rw[C' Qo,E' rfl,E' Qo]; omega
  ·rw[C' e]
   by_cases h:c<(k:Int)
   ·rw[E' h,E' Qo]; omega
   ·rw[C' h,C' Qo]; omega
theorem zfk{l:List Int}(h:∀c:Int,0<=c->c<(l.length:Int)->0<=gi l c){c:Int}(c0:0<=c):∀k:Nat,k<=l.length->0<=Um l k/\(c<(k:Int)->gi l c<=Um l k)
 | 0,_=>by simp only[Um]; exact⟨Qo,fun h=>by omega⟩
 | k+1,hk=>by
  have ih:=zfk h c0 k Qo;have:=h (k:Int) Qo Qo;simp only[Um];refine⟨Qo,fun hc=>?_⟩
  by_cases e:c=(k:Int)
  ·subst e; omega
  ·have:=ih.2 Qo; omega
theorem O8{α:Type}[Inhabited α](n:Nat)(x:α){i:Int}(h0:0<=i)(h1:i<(n:Int)):gi (List.replicate n x) i=x:=by
 obtain⟨k,rfl⟩:=Int.eq_ofNat_of_zero_le h0;rw[Jr (by simp; omega)]; simp
theorem zgk{b:Jj}(h:VK b){c:Int}(c0:0<=c)(c1:c<(b.locals.length:Int))(hp:0<gi b.locals c):VK (Yn b c)/\(Yn b c).locals.length=b.locals.length/\(Yn b c).I'=b.I':=by
 have hs:=KW b.locals c 0 c0 c1 b.locals.length;rw[E' c1] at hs;have hn:=zfk (fun d d0 d1=>(h.each d d0 d1).1) c0 b.locals.length (I8 _);have hn2:=hn.2 c1;have p1:=h.p1;have s1:=h.s1;have su:=h.sum;have Br6:b.Sp+gi b.locals c>0:=Qo;refine⟨⟨h.q1,h.q2,?_,?_,?_,?_,?_,h.s1,h.s2,fun d d0 d1=>?_,?_⟩,by simp[Yn],rfl⟩
 ·simp only[Yn,H']; exact h.l1
 ·simp only[Yn,H']; exact h.l2
 ·simp only[Yn]; rw[E' Br6]; simp[h.dl]
 ·simp only[Yn]; omega
 ·simp only[Yn]; omega
 ·simp only[Yn,H'] at d1 ⊢;have hd:=h.dl;have he:=h.each d d0 d1;rw[E' Br6,O8 _ _ d0 Qo,QC _ _ c0 c1 d0];have:=h.q1;refine⟨?_,?_,fun h=>by cases h⟩
  ·split <;> omega
  ·split <;> omega
 ·simp only[Yn,H'];rw[hs]; omega
def YD(W:Q7)(k:Int):Nat->Q7
 | 0=>W
 | c+1=>if gi (gi (YD W k c).ID k).IT.locals (c:Int)>0/\QU (YD W k c) k (c:Int)=false then WQ (YD W k c) k (Yn (gi (YD W k c).ID k).IT (c:Int)) else YD W k c
def YX(W:Q7):Nat->Q7
 | 0=>W
 | k+1=>if (gi (YX W k).ID (k:Int)).used=true/\(gi (YX W k).ID (k:Int)).IT.I'≠0 then YD (YX W k) (k:Int) (YX W k).IE.length else YX W k
def LU(W:Q7):Q7:=YX W 8
structure Vb (W W':Q7):Prop where
 n:W'.now=W.now
 c:W'.IE=W.IE
 t:W'.tasks=W.tasks
 g:QX W.ID W'.ID
 s:∀i:Int,0<=i->(gi W'.ID i).IF=(gi W.ID i).IF
theorem Vb.refl(W:Q7):Vb W W:=⟨rfl,rfl,rfl,QX.refl _,fun _ _=>rfl⟩
theorem Vb.trans{A B C:Q7}(h:Vb A B)(k:Vb B C):Vb A C:=⟨k.n.trans h.n,k.c.trans h.c,k.t.trans h.t,h.g.trans k.g,fun i hi=>(k.s i hi).trans (h.s i hi)⟩
theorem zck{W:Q7}{g:Int}{b:Jj}(h0:0<=g)(h1:g<(W.ID.length:Int)):Vb W (WQ W g b):=⟨rfl,rfl,rfl,Jg h0 h1 rfl rfl rfl,fun i hi=>by
 unfold WQ;rw[Ym h0 h1 hi];split
 ·rename_i e; subst e; rfl
 ·rfl⟩
theorem SF.BE2{F K:Int}{W W':Q7}(h:SF F K W)(ho:Vb W W')(ha:WA W'):SF F K W':=by
 have e:∀k c:Int,Q6 W'.ID k=true->Qc W' k c=Qc W k c:=fun k c hu=>by unfold Qc; rw[ho.s k (Q5.1 hu).1]
 have et:∀t:Int,Q8 W' t=Q8 W t:=fun t=>by unfold Q8; rw[ho.t]
 refine⟨⟨ha,fun t a b n=>?_,fun t a b=>by rw[et]; exact h.w.tv t a b,fun k c u a b=>?_,fun c a b=>?_⟩,fun k c u a b=>?_⟩
 ·rw[et] at n ⊢; rw[ho.g.dT,ho.c]; exact h.w.t t a b n
 ·rw[e k c u]; rw[ho.g.dT] at u; rw[ho.c] at b; exact h.w.s k c u a b
 ·rw[ho.c] at b ⊢; exact h.w.cu c a b
 ·rw[e k c u]; rw[ho.g.dT] at u; rw[ho.c] at b; exact h.f k c u a b
theorem WA.WQ{W:Q7}(ha:WA W){g:Int}{b:Jj}(hu:Q6 W.ID g=true)(hq:(gi W.ID g).IT.I'≠0)(hb:VK b)(hl:b.locals.length=W.IE.length)(he:b.I'=(gi W.ID g).IT.I'):WA (WQ W g b):=by
 obtain⟨u0,u1,hg⟩:=ha.u hu;have hb0:=hg.IT hq;refine ha.set u0 u1 rfl rfl rfl (fun hn=>?_) fun _=>⟨hg.w1,hg.w2,hg.m,hg.m0,hg.s,hg.len,fun h=>⟨(hg.root h).1,(hg.root h).2.1,by show b.I'=0; rw[he]; exact(hg.root h).2.2⟩,fun h=>Is (he.symm.trans h) hq,fun _=>⟨hb,hl,hb0.2.2⟩⟩
 have:(gi W.ID g).used=false:=hn;rw[(Q5.1 hu).2.2] at this;cases this
theorem HK{F K:Int}{W:Q7}(h:SF F K W){k:Int}(hu:Q6 W.ID k=true)(hq:(gi W.ID k).IT.I'≠0):∀c:Nat,c<=W.IE.length->SF F K (YD W k c)/\Vb W (YD W k c)/\(gi (YD W k c).ID k).IT.I'≠0
 | 0,_=>⟨h,Vb.refl _,hq⟩
 | c+1,hc=>by
  obtain⟨a,b,q⟩:=HK h hu hq c Qo;simp only[YD];split
  ·rename_i AO4;have hu':Q6 (YD W k c).ID k=true:=by rw[b.g.dT]; exact hu
   obtain⟨u0,u1,hg⟩:=a.w.a.u hu';have hb:=hg.IT q;have hl:=a.w.a.gl;have qW:(YD W k c).IE.length=W.IE.length:=by rw[b.c]
   obtain⟨g1,g2,g3⟩:=zgk hb.1 (c:=(c:Int)) Qo Qo AO4.1;have ho:=zck (W:=YD W k c) (b:=Yn (gi (YD W k c).ID k).IT (c:Int)) u0 Qo;refine⟨a.BE2 ho (a.w.a.WQ hu' q g1 (by rw[g2,hb.2.1]) g3),b.trans ho,?_⟩;show (gi (Rp _ k _).ID k).IT.I'≠0;rw[Ym u0 Qo u0,E' rfl];exact fun e=>q (by rw[<-g3]; exact e)
  ·exact⟨a,b,q⟩
theorem TL{F K:Int}{W:Q7}(h:SF F K W):∀k:Nat,k<=8->SF F K (YX W k)/\Vb W (YX W k)
 | 0,_=>⟨h,Vb.refl _⟩
 | k+1,hk=>by
  obtain⟨a,b⟩:=TL h k Qo;simp only[YX];split
  ·rename_i hc;have hl:=a.w.a.gl;obtain⟨a2,b2,_⟩:=HK a (k:=(k:Int)) (Q5.2 ⟨Qo,Qo,hc.1⟩) hc.2 _ (I8 _);exact⟨a2,b.trans b2⟩
  ·exact⟨a,b⟩
def Ef(W:Q7)(k c:Int):K0:={ Qc W k c with floor:=Zf W k c 20 }
def Z5(W:Q7)(c:Int):Nat->Q7
 | 0=>W
 | k+1=>if (gi (Z5 W c k).ID (k:Int)).used=true/\ZN (Z5 W c k) (k:Int) c 20=true/\Zf (Z5 W c k) (k:Int) c 20>(Qc (Z5 W c k) (k:Int) c).floor then RM (Z5 W c k) (k:Int) c (Ef (Z5 W c k) (k:Int) c) else Z5 W c k
def Zt(W:Q7)(c:Int):Q7:=Z5 W c 8
theorem zij{K:Int}{W:Q7}(h:SW K W){k c:Int}(c0:0<=c)(c1:c<(W.IE.length:Int))(hK:0<=K):0<=Zf W k c 20/\Zf W k c 20<=K:=by
 unfold Zf;split
 ·omega
 ·rename_i hn;have hl:=h.a.gl;rcases Zl (Zm W k c) (Zn W c) 20 with h1 | h1
  ·omega
  ·obtain⟨j,hj⟩:∃j:Nat,QQ (Zm W k c) (Zn W c) 20=(j:Int):=⟨(QQ (Zm W k c) (Zn W c) 20).toNat,Qo⟩;rw[hj,Ih] at h1 ⊢;have hp:=h1.2.2.1;unfold Zn
   by_cases h12:j<12
   ·rw[E' h12];exact h.tv (j:Int) Qo Qo
   ·rw[C' h12];unfold Zm at hp;rw[C' h12] at hp;unfold J1 at hp;simp only[A'] at hp;have hu:Q6 W.ID ((j-12:Nat):Int)=true:=Q5.2 ⟨Qo,Qo,hp.1.2.1⟩;have:=h.s _ c hu c0 c1;omega
theorem Ld{K:Int}{W:Q7}(h:SW K W)(hK:0<=K){c:Int}(c0:0<=c)(c1:c<(W.IE.length:Int)):∀k:Nat,k<=8->SW K (Z5 W c k)/\JB W (Z5 W c k)
 | 0,_=>⟨h,JB.refl _⟩
 | k+1,hk=>by
  obtain⟨a,b⟩:=Ld h hK c0 c1 k Qo;have hl:=a.a.gl;have uQ:c<((Z5 W c k).IE.length:Int):=by rw[b.c]; exact c1
  simp only[Z5];split
  ·rename_i hc;have hu:Q6 (Z5 W c k).ID (k:Int)=true:=Q5.2 ⟨Qo,Qo,hc.1⟩;have s1:=a.s _ c hu c0 uQ;have br:=zij a (k:=(k:Int)) c0 uQ hK;exact⟨(a.sf.RM (s:=Ef (Z5 W c k) (k:Int) c) hu c0 uQ br.1 br.2 br.2 s1.2.2.1 s1.2.2.2.1 s1.2.2.2.2.1 s1.2.2.2.2.2).w,b.trans (M9 Qo Qo)⟩
  ·exact⟨a,b⟩
def Xx(x:Pf):Pf:={ x with cur := -1,WS:=0 }
def RC(W:Q7)(c:Int):Q7:=RW W c (Xx (gi W.IE c))
theorem zl0{cs mD:List Pf}:∀k:Nat,(∀j:Nat,j<k->(gi mD (j:Int)).up=(gi cs (j:Int)).up)->Up mD k=Up cs k
 | 0,_=>rfl
 | k+1,h=>by simp only[Up]; rw[zl0 k fun j hj=>h j Qo,h k Qo]
theorem zfm{cs mD:List Pf}(hl:mD.length=cs.length)(h:∀j:Nat,j<cs.length->(gi mD (j:Int)).up=(gi cs (j:Int)).up):J8 mD=J8 cs:=by
 unfold J8;rw[hl];exact zl0 _ h
theorem WA.cp{W:Q7}(ha:WA W){cs:List Pf}(hl:cs.length=W.IE.length)(hu:J8 cs≠0):WA { W with IE:=cs }:=
 ⟨ha.n1,ha.n2,by show 1<=cs.length; rw[hl]; exact ha.c1,by show cs.length<=4; rw[hl]; exact ha.c2,ha.t,ha.tree,hu,fun k a b=>by
  have:=ha.grp k a b;refine⟨this.1,fun hu=>?_⟩;have hg:=this.2 hu
  exact⟨hg.w1,hg.w2,hg.m,hg.m0,hg.s,by show (gi W.ID k).IF.length=cs.length; rw[hl]; exact hg.len,hg.root,hg.none,fun q=>by
   have:=hg.IT q;exact⟨this.1,by show (gi W.ID k).IT.locals.length=cs.length; rw[hl]; exact this.2.1,this.2.2⟩⟩⟩
theorem SW.RC{K:Int}{W:Q7}(h:SW K W){c:Int}(c0:0<=c)(c1:c<(W.IE.length:Int)):SW K (RC W c):=by
 have hl:(W.IE.set c.toNat (Xx (gi W.IE c))).length=W.IE.length:=H';have hg:∀d:Int,0<=d->gi (W.IE.set c.toNat (Xx (gi W.IE c))) d=if c=d then Xx (gi W.IE c) else gi W.IE d:=fun d d0=>QC _ _ c0 c1 d0
 refine⟨h.a.cp hl ?_,fun t a b n=>?_,h.tv,fun k d u a b=>?_,fun d a b=>?_⟩
 ·rw[zfm hl fun j hj=>?_]
  ·exact h.a.ups
  ·rw[hg _ Qo];split
   ·rename_i e; rw[e]; rfl
   ·rfl
 ·show _/\_/\_<(((W.IE.set c.toNat (Xx (gi W.IE c))).length:Nat):Int);rw[hl];exact h.t t a b n
 ·have b:d<(((W.IE.set c.toNat (Xx (gi W.IE c))).length:Nat):Int):=b;rw[hl] at b;exact h.s k d u a b
 ·have b:d<(((W.IE.set c.toNat (Xx (gi W.IE c))).length:Nat):Int):=b;rw[hl] at b;show _<=(gi (W.IE.set c.toNat (Xx (gi W.IE c))) d).cur/\_;rw[show (gi (YtnclplgaicdapaaGreatDoor.RC W c).IE d).cur=(gi (W.IE.set c.toNat (Xx (gi W.IE c))) d).cur from rfl,hg _ a];split
  ·exact⟨I3 _,show (-1:Int)<12 by decide⟩
  ·exact h.cu d a b
def MO(W:Q7)(c:Int):Bool:=decide ((gi W.IE c).cur>=0)&&(((Q8 W (gi W.IE c).cur).R9 != c) || !ZE W (gi W.IE c).cur)
def VG(W:Q7)(c:Int):Q7:=if MO (Zt (QR W c) c) c=true then RC (Zt (QR W c) c) c else Zt (QR W c) c
def JO(W:Q7):Nat->Q7
 | 0=>W
 | c+1=>VG (JO W c) (c:Int)
def Qh(W:Q7):Q7:=JO (LU (YN W W.IE.length)) W.IE.length
structure Fr (W W':Q7):Prop where
 n:W'.now=W.now
 c:W'.IE.length=W.IE.length
 t:W'.tasks=W.tasks
 g:QX W.ID W'.ID
theorem Fr.refl(W:Q7):Fr W W:=⟨rfl,rfl,rfl,QX.refl _⟩
theorem Fr.trans{A B C:Q7}(h:Fr A B)(k:Fr B C):Fr A C:=⟨k.n.trans h.n,k.c.trans h.c,k.t.trans h.t,h.g.trans k.g⟩
theorem JB.fr{W W':Q7}(h:JB W W'):Fr W W':=⟨h.n,by rw[h.c],h.t,h.g⟩
theorem Vb.fr{W W':Q7}(h:Vb W W'):Fr W W':=⟨h.n,by rw[h.c],h.t,h.g⟩
theorem Aj(W:Q7)(c:Int):Fr W (RC W c):=⟨rfl,H',rfl,QX.refl _⟩
theorem zq0{K:Int}{W:Q7}(h:SW K W)(hK:0<=K){c:Int}(c0:0<=c)(c1:c<(W.IE.length:Int)):SW (K+Qn) (VG W c)/\Fr W (VG W c):=by
 obtain⟨a1,b1⟩:=Ex (F:=K) (K:=K+Qn) (h.sf.mono (I3 _) (by simp only[Qn]; omega)) (I3 _) c0 c1;obtain⟨a2,b2⟩:=Ld a1.w (by simp only[Qn]; omega) c0 (c:=c) (by rw[b1.c]; exact c1) 8 Qo;have hf:=b1.fr.trans b2.fr;unfold VG;split
 ·exact⟨SW.RC a2 c0 (by show c<((Z5 (QR W c) c 8).IE.length:Int); rw[hf.c]; exact c1),hf.trans (Aj _ _)⟩
 ·exact⟨a2,hf⟩
theorem KV{K:Int}{W:Q7}(h:SW K W)(hK:0<=K):∀c:Nat,c<=W.IE.length->SW (K+(c:Int)*Qn) (JO W c)/\Fr W (JO W c)
 | 0,_=>⟨h.mono Qs,Fr.refl _⟩
 | c+1,hc=>by
  obtain⟨a,b⟩:=KV h hK c Qo;obtain⟨a2,b2⟩:=zq0 a (by simp only[Qn]; omega) (c:=(c:Int)) Qo (by rw[b.c]; omega);exact⟨a2.mono (by simp only[Qn]; omega),b.trans b2⟩
abbrev UV:Int:=5*Qn
theorem Tq{K:Int}{W:Q7}(h:SW K W)(hK:0<=K):SW (K+UV) (Qh W)/\Fr W (Qh W):=by
 obtain⟨a1,b1⟩:=Oy (F:=K) (K:=K+Qn) (h.sf.mono (I3 _) (by simp only[Qn]; omega)) (I3 _) W.IE.length (I8 _);obtain⟨a2,b2⟩:=TL a1 8 Qo;have hf:=b1.fr.trans b2.fr;obtain⟨a3,b3⟩:=KV a2.w (by simp only[Qn]; omega) W.IE.length (by show W.IE.length<=(YX (YN W W.IE.length) 8).IE.length; rw[hf.c]; exact I8 _);have:=h.a.c2;exact⟨a3.mono (by simp only[Qn,UV]; omega),hf.trans b3⟩
abbrev Qj:Int:=50000000000000000
structure PM (W:Q7):Prop where
 n:W.now<=Qj
 c:∀c:Int,0<=c->c<(W.IE.length:Int)->(gi W.IE c).busy<=Qj/\(gi W.IE c).idle<=Qj
 t:∀t:Int,0<=t->t<(W.tasks.length:Int)->(gi W.tasks t).v<=Qj/\(gi W.tasks t).sum<=Qj/\(gi W.tasks t).used<=Qj
 g:∀k:Int,0<=k->k<(W.ID.length:Int)->(gi W.ID k).sum<=Qj
 s:∀k c:Int,0<=k->k<(W.ID.length:Int)->0<=c->c<((gi W.ID k).IF.length:Int)->(Qc W k c).floor<=Qj/\(Qc W k c).v<=Qj/\(Qc W k c).sum<=Qj
noncomputable def QH(W:Q7):Bool:=XQ (PM W)
theorem P8{W:Q7}(wp:XA W)(r:PM W):SW Qj W:=by
 have ht:=wp.a.t;have hg:=wp.a.gl;refine⟨wp.a,fun t t0 t1 n=>?_,fun t t0 t1=>?_,fun k c u c0 c1=>?_,fun c c0 c1=>?_⟩
 ·rcases wp.t t t0 t1 with h | h
  ·exact Is h.1 n
  ·exact⟨h.2.g,Kn wp.a h.2.c⟩
 ·refine⟨?_,(r.t t t0 Qo).1⟩;rcases wp.t t t0 t1 with h | h
  ·rw[h.2]; exact I3 _
  ·exact(Y2.1 h.2.v).1
 ·obtain⟨u0,u1,_⟩:=Q5.1 u;have hl:=wp.a.sl u;have hs:=wp.s k c u0 Qo c0 Qo;have hr:=r.s k c u0 u1 c0 Qo;exact⟨(Y2.1 hs.f).1,hr.1,(Y2.1 hs.v).1,hr.2.1,hs.w1,hs.w2⟩
 ·have hc:=wp.c c c0 c1;have h1:=hc.c1;have h2:=hc.c2;omega
theorem WA.tk{W:Q7}(ha:WA W){ts:List Pi}(hl:ts.length=W.tasks.length):WA { W with tasks:=ts }:=
 ⟨ha.n1,ha.n2,ha.c1,ha.c2,by show ts.length=12; rw[hl]; exact ha.t,ha.tree,ha.ups,fun k a b=>by
  have:=ha.grp k a b;refine⟨this.1,fun hu=>?_⟩;have hg:=this.2 hu;exact⟨hg.w1,hg.w2,hg.m,hg.m0,hg.s,hg.len,hg.root,hg.none,hg.IT⟩⟩
theorem SW.IU{K:Int}{W:Q7}(h:SW K W){t:Int}(t0:0<=t)(t1:t<12){x:Pi}(hx:x.state≠0->Q6 W.ID x.group=true/\0<=x.R9/\x.R9<(W.IE.length:Int))(v0:0<=x.v)(v1:x.v<=K):SW K (IU W t x):=by
 have hl:=h.a.t;have e:∀i:Int,0<=i->Q8 (YtnclplgaicdapaaGreatDoor.IU W t x) i=if t=i then x else Q8 W i:=fun i i0=>QC _ _ t0 Qo i0
 refine⟨h.a.tk H',fun i a b n=>?_,fun i a b=>?_,h.s,h.cu⟩
 ·rw[e i a] at n ⊢;split
  ·rename_i he; rw[E' he] at n; exact hx n
  ·rename_i he; rw[C' he] at n; exact h.t i a b n
 ·rw[e i a];split
  ·exact⟨v0,v1⟩
  ·exact h.tv i a b
def Mi:Q7:=⟨0,[],[],[]⟩
def zrj:MW:=⟨none,0,none,0,none,0,fun _=>⟨none,0,none,0,none,0⟩⟩
noncomputable def Yp(W:Q7)(bar:Int)(W':Q7):Q7×Int:=if Qx W=false then (Mi,1) else if bar≠0 then (W,bar) else (W',0)
theorem zkf{W W':Q7}{bar:Int}(h:Qx W=false):Yp W bar W'=(Mi,1):=E' h
theorem zkg{W W':Q7}{bar:Int}(h:Qx W=true)(hb:bar≠0):Yp W bar W'=(W,bar):=by unfold Yp; rw[C' (by rw[h]; decide),E' hb]
theorem zib{W W':Q7}{bar:Int}(h:Qx W=true)(hb:bar=0):Yp W bar W'=(W',0):=by unfold Yp; rw[C' (by rw[h]; decide),C' (by simpa using hb)]
def ZY(W:Q7)(t:Int):Bool:=Yx t 0 ((W.tasks.length:Int)-1)&&((Q8 W t).state != 0)
theorem YH{W:Q7}{t:Int}(h:ZY W t=true):0<=t/\t<(W.tasks.length:Int)/\(Q8 W t).state≠0:=by
 unfold ZY at h;simp only[A',Iu,ne_eq] at h;have:=Qt.1 h.1;exact⟨Qo,Qo,h.2⟩
noncomputable def Ve(W:Q7)(t:Int):Int:=if ZY W t=false then 2 else if (Q8 W t).state≠1 then 6 else if QH W=false then 10 else 0
def zdw(W:Q7)(t:Int):Q7:=Qh (IU W t { Q8 W t with state:=2 })
theorem zf1{W:Q7}{t:Int}(hW:Qx W=true)(hb:Ve W t=0):ZY W t=true/\(Q8 W t).state=1/\SW Qj W/\SW Qj (IU W t { Q8 W t with state:=2 }):=by
 have wp:=Qi.1 hW;unfold Ve at hb
 split at hb
 ·cases hb
 ·rename_i h1
  split at hb
  ·cases hb
  ·rename_i h2
   split at hb
   ·cases hb
   ·rename_i h3;have h1:ZY W t=true:=by simpa using h1
    have h2:(Q8 W t).state=1:=by simpa using h2
    have h3:QH W=true:=by simpa using h3
    have sw:=P8 wp (Qi.1 h3);obtain⟨t0,t1,n⟩:=YH h1;have hl:=wp.a.t;have hv:=sw.tv t t0 Qo;exact⟨h1,h2,sw,sw.IU t0 Qo (fun _=>sw.t t t0 Qo n) hv.1 hv.2⟩
theorem XU.same{α:Type}{enc:α->List Va}{z:Nat}{ty:TypeId}{base:Nat}{w:Wo}{o:OA}{cap:Nat}{l l':List α}(h:XU enc z ty base w o cap l)(he:l'.flatMap enc=l.flatMap enc)(hl:l'.length=l.length):XU enc z ty base w o cap l':=by
 rcases h with ⟨h1,rfl,h3⟩ | ⟨b,sp,rfl,h1,h2,h3,h4⟩
 ·exact .inl ⟨h1,List.eq_nil_of_length_eq_zero hl,h3⟩
 ·exact .inr ⟨b,sp,rfl,h1,by rw[he]; exact h2,by rw[he]; exact h3,Qo⟩
theorem LS{α:Type}{enc:α->List Va}:∀(l:List α) (i:Nat) (x:α),(∀y,l[i]? = some y->enc x=enc y)->(l.set i x).flatMap enc=l.flatMap enc
 | [],_,_,_=>rfl
 | y::r,0,x,h=>by simp only[List.set_cons_zero,List.flatMap_cons]; rw[h y rfl]
 | y::r,i+1,x,h=>by
  simp only[List.set_cons_succ,List.flatMap_cons];rw[LS r i x fun z hz=>h z (by simpa using hz)]
theorem zu1{α:Type}[Inhabited α]{l:List α}{i:Int}(h0:0<=i)(hi:i<(l.length:Int)):l[i.toNat]? = some (gi l i):=by
 obtain⟨k,rfl⟩:=Int.eq_ofNat_of_zero_le h0;rw[Ih];exact zsa Qo
section
variable {base:Nat}{w w':Wo}{o:OA}{cap:Nat}{ps:List (Zr×MG)}
theorem Mo.BT8{α:Type}{enc:α->List Va}{z:Nat}{ty:TypeId}{aF mC:Nat}{o':OA}{l:List α}(h:Mo base w o cap ps)(h':XU enc z ty aF w o' mC l)(n1:QG≠ty)(n2:Qb≠ty)(n3:ZQ≠ty)(n4:Yw≠ty)(hx:Q0 (Qy o') w w'):Mo base w' o cap ps:=
 ⟨h.row.ext hx (h.row.Wb h' n1),fun i a b=>(h.each i a b).ext hx fun x hm=>by
  simp only[Qp,Io] at hm;rcases hm with (hm | hm) | hm
  ·exact(h.each i a b).loc.Wb h' n2 x hm
  ·exact(h.each i a b).RI.Wb h' n3 x hm
  ·exact(h.each i a b).shl.Wb h' n4 x hm,h.dj⟩
theorem Mo.RD(h:Mo base w o cap ps){i:Int}(h0:0<=i)(hi:i<(ps.length:Int)){p:Zr×MG}(hp:Ol base w p)(hd:∀j:Int,0<=j->j<(ps.length:Int)->i≠j->∀b∈Qp (gi ps j).2,b∉Qp p.2){j:Nat}{vs:List Va}(he:VP p=(VP (gi ps i)).take j++vs++(VP (gi ps i)).drop (j+vs.length))(hj:j+vs.length<=14):Mo base (YtnclplgaicdapaaGreatDoor.RD w o (Int.toNat i*14+j) vs) o cap (ps.set i.toNat p):=by
 have hx:=h.row.rJ (Int.toNat i*14+j) vs;have hlen:(ps.set i.toNat p).length=ps.length:=H';refine⟨h.row.RD ZR.len h0 hi he hj,fun k hk rP=>?_,fun a k ha hal hk rP hak b hb gU=>?_⟩
 ·rw[hlen] at rP;rw[QC _ _ h0 hi hk];split
  ·exact hp.ext hx (Xr h.row hp)
  ·exact(h.each k hk rP).ext hx (Xr h.row (h.each k hk rP))
 ·rw[hlen] at hal rP;rw[QC _ _ h0 hi ha] at hb;rw[QC _ _ h0 hi hk] at gU
  by_cases e1:i=a
  ·rw[E' e1] at hb
   by_cases e2:i=k
   ·omega
   ·rw[C' e2] at gU;exact hd k hk rP e2 b gU hb
  ·rw[C' e1] at hb
   by_cases e2:i=k
   ·rw[E' e2] at gU;exact hd a ha hal e1 b hb gU
   ·rw[C' e2] at gU;exact h.dj a k ha hal hk rP hak b hb gU
theorem Mo.in(h:Mo base w o cap ps){i:Int}(h0:0<=i)(hi:i<(ps.length:Int)){p:Zr×MG}{bs:List Nat}(hx:Q0 bs w w')(hb:∀x∈bs,x∈Qp (gi ps i).2)(hp:Ol base w' p)(hm:p.2=(gi ps i).2)(he:VP p=VP (gi ps i)):Mo base w' o cap (ps.set i.toNat p):=by
 have hlen:(ps.set i.toNat p).length=ps.length:=H';refine⟨?_,fun k hk rP=>?_,fun a k ha hal hk rP hak b eY gU=>?_⟩
 ·refine(h.row.ext hx fun b eY cD=>Xr h.row (h.each i h0 hi) b (hb b cD) eY).same (LS _ _ _ fun y hy=>?_) hlen;rw[zu1 h0 hi] at hy;cases hy;exact he
 ·rw[hlen] at rP;rw[QC _ _ h0 hi hk];split
  ·exact hp
  ·rename_i gA;exact(h.each k hk rP).ext hx fun b eY cD=>h.dj i k h0 hi hk rP gA b (hb b cD) eY
 ·rw[hlen] at hal rP;rw[QC _ _ h0 hi ha] at eY;rw[QC _ _ h0 hi hk] at gU
  have e1:b∈Qp (gi ps a).2:=by
   by_cases e:i=a
   ·rw[E' e,hm,e] at eY; exact eY
   ·rw[C' e] at eY; exact eY
  have e2:b∈Qp (gi ps k).2:=by
   by_cases e:i=k
   ·rw[E' e,hm,e] at gU; exact gU
   ·rw[C' e] at gU; exact gU
  exact h.dj a k ha hal hk rP hak b e1 e2
end
def zji(W:Q7)(m:MW):List (Zr×MG):=(List.range W.ID.length).map fun (k:Nat)=>(gi W.ID (k:Int),m.ms k)
theorem Xt(W:Q7)(m:MW):(zji W m).length=W.ID.length:=by simp[zji]
theorem VF{W:Q7}{m:MW}{i:Int}(h0:0<=i)(hi:i<(W.ID.length:Int)):gi (zji W m) i=(gi W.ID i,m.ms i.toNat):=by
 obtain⟨k,rfl⟩:=Int.eq_ofNat_of_zero_le h0;rw[Jr (by rw[Xt]; omega)];simp[zji]
def QD(n:Nat)(m:MW):List Nat:=Qy m.cO++Qy m.tO++Qy m.gO++(List.range n).flatMap fun (k:Nat)=>Qp (m.ms k)
structure Y8 (n base:Nat) (w:Wo) (W:Q7) (m:MW):Prop where
 c:XU Mx 5 Zq base w m.cO m.cC W.IE
 t:XU YT 9 QN base w m.tO m.tC W.tasks
 g:Mo base w m.gO m.gC (zji W m)
 len:W.ID.length=n
section
variable {n base:Nat}{w w':Wo}{W:Q7}{m:MW}{bs:List Nat}
theorem ED{x:Nat}(h:x∈Qy m.cO):x∈QD n m:=by simp[QD,h]
theorem EF{x:Nat}(h:x∈Qy m.tO):x∈QD n m:=by simp[QD,h]
theorem EE{x:Nat}(h:x∈Qy m.gO):x∈QD n m:=by simp[QD,h]
theorem JL{x k:Nat}(hk:k<n)(h:x∈Qp (m.ms k)):x∈QD n m:=by
 unfold QD;exact Iy _ (List.mem_flatMap.2 ⟨k,List.mem_range.2 hk,h⟩)
theorem Fo{x:Nat}(h:x∈QD n m):x∈Qy m.cO\/x∈Qy m.tO\/x∈Qy m.gO\/∃k,k<n/\x∈Qp (m.ms k):=by
 unfold QD at h;simp only[Io,List.mem_flatMap,List.mem_range] at h;rcases h with ((h | h) | h) | ⟨k,hk,h⟩
 ·exact .inl h
 ·exact .inr (.inl h)
 ·exact .inr (.inr (.inl h))
 ·exact .inr (.inr (.inr ⟨k,hk,h⟩))
theorem Y8.each(h:Y8 n base w W m){i:Int}(h0:0<=i)(hi:i<(n:Int)):Ol base w (gi W.ID i,m.ms i.toNat):=by
 have:=h.g.each i h0 (by rw[Xt,h.len]; exact hi)
 rwa[VF h0 (by rw[h.len]; exact hi)] at this
theorem Y8.lt(h:Y8 n base w W m):∀x∈QD n m,base<=x/\x<w.heap.size:=fun x hx=>by
 rcases Fo hx with hx | hx | hx | ⟨k,hk,hx⟩
 ·exact h.c.lt x hx
 ·exact h.t.lt x hx
 ·exact h.g.row.lt x hx
 ·exact(h.each (i:=(k:Int)) Qo Qo).lt x (by simpa using hx)
theorem Y8.ext(h:Y8 n base w W m)(hx:Q0 bs w w')(hd:∀x∈QD n m,x∉bs):Y8 n base w' W m:=
 ⟨h.c.ext hx fun b hb=>hd b (ED hb),h.t.ext hx fun b hb=>hd b (EF hb),
  ⟨h.g.row.ext hx fun b hb=>hd b (EE hb),fun i a b=>by
   have b':i<(W.ID.length:Int):=by rw[Xt] at b; exact b
   have hl:=h.len;refine(h.g.each i a b).ext hx fun x hm=>?_
   rw[VF a b'] at hm;exact hd x (JL Qo hm),h.g.dj⟩,h.len⟩
theorem Y8.bG(h:Y8 n base w W m)(hx:Q0 [] w w'):Y8 n base w' W m:=h.ext hx Qs
theorem Y8.mono{aF:Nat}(h:Y8 n base w W m)(hb:aF<=base):Y8 n aF w W m:=⟨h.c.mono hb,h.t.mono hb,h.g.mono hb,h.len⟩
theorem Y8.rd(h:Y8 n base w W m)(hd:∀x∈QD n m,x∉bs):Xb bs w W m:=by
 have hl:=h.len;refine⟨h.c.rd Mw.len fun b hb=>hd b (ED hb),h.t.rd TG.len fun b hb=>hd b (EF hb),⟨fun i h0 hi=>?_,fun i h0 hi=>?_,fun i h0 hi=>?_,fun i h0 hi=>?_⟩⟩
 ·have:=h.g.row.rd ZR.len (bs:=bs) (fun b hb=>hd b (EE hb)) i h0 (by rw[Xt]; exact hi)
  rwa[VF h0 hi] at this
 ·exact(h.each h0 Qo).loc.rd ZO.len fun b hb=>hd b (JL (k:=i.toNat) Qo (by simp[Qp]; exact .inl hb))
 ·exact(h.each h0 Qo).RI.rd Yy.len fun b hb=>hd b (JL (k:=i.toNat) Qo (by simp[Qp]; exact .inr (.inl hb)))
 ·exact(h.each h0 Qo).shl.rd UZ.len fun b hb=>hd b (JL (k:=i.toNat) Qo (by simp[Qp]; exact .inr (.inr hb)))
theorem Y8.AE6(h:Y8 n base w W m){i:Int}(h0:0<=i)(hi:i<(W.tasks.length:Int)){j:Nat}{vs:List Va}{x:Pi}(he:YT x=(YT (gi W.tasks i)).take j++vs++(YT (gi W.tasks i)).drop (j+vs.length))(hj:j+vs.length<=9) :
  Y8 n base (RD w m.tO (Int.toNat i*9+j) vs) { W with tasks:=W.tasks.set i.toNat x } m:=
 ⟨h.c.ext (h.t.rJ _ _) (h.c.Wb h.t Qd),h.t.RD TG.len h0 hi he hj,h.g.BT8 h.t Qd Qd Qd Qd (h.t.rJ _ _),h.len⟩
theorem Y8.Ag2(h:Y8 n base w W m){i:Int}(h0:0<=i)(hi:i<(W.IE.length:Int)){j:Nat}{vs:List Va}{x:Pf}(he:Mx x=(Mx (gi W.IE i)).take j++vs++(Mx (gi W.IE i)).drop (j+vs.length))(hj:j+vs.length<=5) :
  Y8 n base (RD w m.cO (Int.toNat i*5+j) vs) { W with IE:=W.IE.set i.toNat x } m:=
 ⟨h.c.RD Mw.len h0 hi he hj,h.t.ext (h.c.rJ _ _) (h.t.Wb h.c Qd),h.g.BT8 h.c Qd Qd Qd Qd (h.c.rJ _ _),h.len⟩
def TP(m:MW)(k:Nat)(p:MG):MW:={ m with ms:=fun j=>if k=j then p else m.ms j }
theorem zcx(m:MW)(k:Nat):TP m k (m.ms k)=m:=by
 unfold TP
 have:(fun j=>if k=j then m.ms k else m.ms j)=m.ms:=by
  funext j
  split
  ·rename_i e; rw[e]
  ·rfl
 rw[this]
theorem zfb{i:Int}(h0:0<=i)(hi:i<(W.ID.length:Int))(g:Zr)(p:MG):zji { W with ID:=W.ID.set i.toNat g } (TP m i.toNat p)=(zji W m).set i.toNat (g,p):=by
 refine ziw (by rw[Xt,H',H',Xt]) fun k hk=>?_
 rw[Xt,H'] at hk;rw[VF Qo (by rw[H']; omega),QC _ _ h0 hi Qo,QC _ _ h0 (by rw[Xt]; exact hi) Qo];simp only[TP]
 by_cases e:i=(k:Int)
 ·rw[E' e,E' e,E' Qo]
 ·rw[C' e,C' e,C' Qo,VF Qo Qo]
theorem Y8.Bo6{p:MG}(h:Y8 n base w W m){i:Int}(hn:∀x∈Qp p,x∉QD n m\/x∈Qp (m.ms i.toNat))(h0:0<=i)(hi:i<(n:Int)):∀j:Int,0<=j->j<((zji W m).length:Int)->i≠j->∀b∈Qp (gi (zji W m) j).2,b∉Qp p:=fun j hj hjl hij b hb gU=>by
 have hl:=h.len;rw[Xt] at hjl;have cD:=hb;rw[VF hj hjl] at hb;rcases hn b gU with h1 | h1
 ·exact h1 (JL Qo hb)
 ·have:=h.g.dj i j h0 (by rw[Xt]; omega) hj (by rw[Xt]; exact hjl) hij b (by rw[VF h0 Qo]; exact h1);exact this cD
theorem Y8.Be9(h:Y8 n base w W m){i:Int}(h0:0<=i)(hi:i<(n:Int)){g:Zr}{p:MG}(hp:Ol base w (g,p))(hn:∀x∈Qp p,x∉QD n m\/x∈Qp (m.ms i.toNat)){j:Nat}{vs:List Va}(he:Yb g p=(Yb (gi W.ID i) (m.ms i.toNat)).take j++vs++(Yb (gi W.ID i) (m.ms i.toNat)).drop (j+vs.length))(hj:j+vs.length<=14) :
  Y8 n base (RD w m.gO (Int.toNat i*14+j) vs) { W with ID:=W.ID.set i.toNat g } (TP m i.toNat p):=by
 have hl:=h.len;have hx:=h.g.row.rJ (Int.toNat i*14+j) vs;refine⟨h.c.ext hx (h.c.Wb h.g.row Qd),h.t.ext hx (h.t.Wb h.g.row Qd),?_,by rw[H']; exact hl⟩;have:=h.g.RD h0 (by rw[Xt]; omega) hp (h.Bo6 hn h0 hi) (j:=j) (vs:=vs) (by rw[VF h0 Qo]; exact he) hj;rw[zfb h0 Qo];exact this
theorem Y8.BE3(h:Y8 n base w W m){i:Int}(h0:0<=i)(hi:i<(n:Int)){g:Zr}(e1:g.IT.locals=(gi W.ID i).IT.locals)(e2:g.IT.RI=(gi W.ID i).IT.RI)(e3:g.IF=(gi W.ID i).IF){j:Nat}{vs:List Va}(he:Yb g (m.ms i.toNat)=(Yb (gi W.ID i) (m.ms i.toNat)).take j++vs++(Yb (gi W.ID i) (m.ms i.toNat)).drop (j+vs.length))(hj:j+vs.length<=14) :
  Y8 n base (RD w m.gO (Int.toNat i*14+j) vs) { W with ID:=W.ID.set i.toNat g } m:=by
 have hm:=h.each h0 hi;have:=h.Be9 h0 hi (g:=g) (p:=m.ms i.toNat) ⟨by rw[e1]; exact hm.loc,by rw[e2]; exact hm.RI,by rw[e3]; exact hm.shl⟩ (fun x hx=>.inr hx) he hj
 rwa[zcx] at this
theorem Y8.in(h:Y8 n base w W m){i:Int}(h0:0<=i)(hi:i<(n:Int)){g:Zr}(hx:Q0 bs w w')(hb:∀x∈bs,x∈Qp (m.ms i.toNat))(hp:Ol base w' (g,m.ms i.toNat))(he:Yb g (m.ms i.toNat)=Yb (gi W.ID i) (m.ms i.toNat)) :
  Y8 n base w' { W with ID:=W.ID.set i.toNat g } m:=by
 have hl:=h.len;have hmi:=h.each h0 hi
 have hf:∀{α:Type} {enc:α->List Va} {z:Nat} {ty:TypeId} {aF mC:Nat} {o':OA} {l:List α},XU enc z ty aF w o' mC l->ty≠Qb->ty≠ZQ->ty≠Yw->∀b∈Qy o',b∉bs:=fun ho n1 n2 n3 b eY cD=>by
  have hm:=hb b cD;simp only[Qp,Io] at hm;rcases hm with (hm | hm) | hm
  ·exact ho.Wb hmi.loc n1 b eY hm
  ·exact ho.Wb hmi.RI n2 b eY hm
  ·exact ho.Wb hmi.shl n3 b eY hm
 refine⟨h.c.ext hx (hf h.c Qd Qd Qd),h.t.ext hx (hf h.t Qd Qd Qd),?_,by rw[H']; exact hl⟩;have:=h.g.in h0 (by rw[Xt]; omega) (p:=(g,m.ms i.toNat)) hx (by rw[VF h0 Qo]; exact hb) hp (by rw[VF h0 Qo]) (by rw[VF h0 Qo]; exact he);have hs:=zfb (m:=m) h0 (W:=W) Qo g (m.ms i.toNat);rw[zcx] at hs;rw[hs];exact this
theorem ztl(W:Q7)(i:Int)(c:Int)(x:K0)(mg:MG):Yb { gi W.ID i with IF:=(gi W.ID i).IF.set c.toNat x } mg=Yb (gi W.ID i) mg:=by
 simp[Yb]
theorem Y8.BR1(h:Y8 n base w W m){i c:Int}(h0:0<=i)(hi:i<(n:Int))(c0:0<=c)(c1:c<((gi W.ID i).IF.length:Int)){j:Nat}{vs:List Va}{x:K0}(he:PS x=(PS (gi (gi W.ID i).IF c)).take j++vs++(PS (gi (gi W.ID i).IF c)).drop (j+vs.length))(hj:j+vs.length<=5) :
  Y8 n base (RD w (m.ms i.toNat).sO (Int.toNat c*5+j) vs) { W with ID:=W.ID.set i.toNat { gi W.ID i with IF:=(gi W.ID i).IF.set c.toNat x } } m:=by
 have hm:=h.each h0 hi;have hx:=hm.shl.rJ (Int.toNat c*5+j) vs;exact h.in h0 hi hx (fun x hx=>by simp[Qp]; exact .inr (.inr hx)) ⟨hm.loc.ext hx (hm.loc.Wb hm.shl Qd),hm.RI.ext hx (hm.RI.Wb hm.shl Qd),hm.shl.RD UZ.len c0 c1 he hj⟩ (ztl _ _ _ _ _)
end
structure Mv (n base:Nat) (bs:List Nat) (w0:Wo) (m0:MW) (w:Wo) (W:Q7) (m:MW):Prop where
 own:Y8 n base w W m
 ext:Q0 (QD n m0) w0 w
 sub:∀x∈QD n m,x∈QD n m0\/w0.heap.size<=x
 hd:m={ m0 with ms:=m.ms }
 nb:∀x∈QD n m,x∉bs
 new:∀x∈bs,w0.heap.size<=x
section
variable {n base:Nat}{bs cs:List Nat}{w0 w w':Wo}{W W':Q7}{m0 m m':MW}{b:Nat}
theorem Mv.start(h:Y8 n base w W m):Mv n base [] w m w W m:=⟨h,Q0.refl _ _,fun x hx=>.inl hx,rfl,Qs,Qs⟩
theorem Mv.add(h:Mv n base bs w0 m0 w W m)(hb:w.heap.size<=b):Mv n base (bs++[b]) w0 m0 w W m:=⟨h.own,h.ext,h.sub,h.hd,fun x hx hm=>by
 rcases Io.1 hm with hm | hm
 ·exact h.nb x hx hm
 ·have:x=b:=by simpa using hm
  have:=(h.own.lt x hx).2;omega,fun x hm=>by
 rcases Io.1 hm with hm | hm
 ·exact h.new x hm
 ·have:x=b:=by simpa using hm
  have:=h.ext.size;omega⟩
theorem Mv.Bf0(h:Mv n base bs w0 m0 w W m)(hs:∀x∈cs,x∈bs):Mv n base cs w0 m0 w W m:=⟨h.own,h.ext,h.sub,h.hd,fun x hx hm=>h.nb x hx (hs x hm),fun x hm=>h.new x (hs x hm)⟩
theorem Mv.close(h:Mv n base bs w0 m0 w W m):Mv n base [] w0 m0 w W m:=h.Bf0 Qs
theorem Mv.step(h:Mv n base bs w0 m0 w W m)(hx:Q0 bs w w'):Mv n base bs w0 m0 w' W m:=⟨h.own.ext hx h.nb,h.ext.fresh hx fun x hm=>.inl (h.new x hm),h.sub,h.hd,h.nb,h.new⟩
theorem Mv.R4(h:Mv n base bs w0 m0 w W m)(hx:Q0 [] w w'):Mv n base bs w0 m0 w' W m:=⟨h.own.bG hx,h.ext.trans hx.of_nil,h.sub,h.hd,h.nb,h.new⟩
theorem Mv.call(h:Mv n base bs w0 m0 w W m)(k:Mv n base [] w m w' W' m')(hs:∀x∈bs,x<w.heap.size):Mv n base bs w0 m0 w' W' m':=
 ⟨k.own,h.ext.fresh k.ext fun x hm=>(h.sub x hm).symm,fun x hx=>by
  rcases k.sub x hx with h1 | h1
  ·exact h.sub x h1
  ·have:=h.ext.size;exact .inr Qo,by rw[k.hd,h.hd],fun x hx hm=>by
  rcases k.sub x hx with h1 | h1
  ·exact h.nb x h1 hm
  ·have:=hs x hm;omega,h.new⟩
theorem Mv.SX(h:Mv n base bs w0 m0 w W m)(k:Y8 n base w' W' m)(hx:Q0 (QD n m) w w'):Mv n base bs w0 m0 w' W' m:=
 ⟨k,h.ext.fresh hx fun x hm=>(h.sub x hm).symm,h.sub,h.hd,h.nb,h.new⟩
theorem Mv.kept(h:Mv n base bs w0 m0 w W m)(k:Mv n base [] w m w' W' m')(hs:∀x∈bs,x<w.heap.size):Q9 bs w w':=fun x hm=>k.ext.block x (hs x hm) fun fS=>h.nb x fS hm
theorem Mv.rd(h:Mv n base bs w0 m0 w W m):Xb bs w W m:=h.own.rd h.nb
theorem Mv.rd0(h:Mv n base bs w0 m0 w W m):Xb [] w W m:=h.own.rd Qs
theorem Mv.trans{w1:Wo}{W1:Q7}{m1:MW}(h:Mv n base [] w0 m0 w W m)(k:Mv n base [] w m w1 W1 m1):Mv n base [] w0 m0 w1 W1 m1:=h.call k Qs
theorem Mv.AK9(h:Mv n base bs w0 m0 w W m){W0:Q7}(e0:W.now=W0.now)(e1:W.IE.length=W0.IE.length)(e2:W.tasks.length=W0.tasks.length)(e3:W.ID.length=W0.ID.length):Qa W m=Qa W0 m0:=by
 rw[h.hd];simp only[Qa,e0,e1,e2,e3]
end
structure OW (n base:Nat) (bs:List Nat) (w:Wo) (W:Q7) (m:MW):Prop where
 own:Y8 n base w W m
 nb:∀x∈QD n m,x∉bs
section
variable {n base:Nat}{bs cs:List Nat}{w w':Wo}{W:Q7}{m:MW}{b:Nat}
theorem OW.of(h:Y8 n base w W m)(hs:∀x∈bs,x<base):OW n base bs w W m:=⟨h,fun x hx hm=>by
 have:=(h.lt x hx).1;have:=hs x hm;omega⟩
theorem OW.step(h:OW n base bs w W m)(hx:Q0 bs w w'):OW n base bs w' W m:=⟨h.own.ext hx h.nb,h.nb⟩
theorem OW.R4(h:OW n base bs w W m)(hx:Q0 [] w w'):OW n base bs w' W m:=⟨h.own.bG hx,h.nb⟩
theorem OW.call(h:OW n base bs w W m)(hx:Q0 cs w w')(hd:∀x∈QD n m,x∉cs):OW n base bs w' W m:=⟨h.own.ext hx hd,h.nb⟩
theorem OW.add(h:OW n base bs w W m)(hb:w.heap.size<=b):OW n base (bs++[b]) w W m:=⟨h.own,fun x hx hm=>by
 rcases Io.1 hm with hm | hm
 ·exact h.nb x hx hm
 ·have:x=b:=by simpa using hm
  have:=(h.own.lt x hx).2;omega⟩
theorem OW.put(h:OW n base bs w W m)(hx:Q0 bs w w')(hb:w.heap.size<=b):OW n base (bs++[b]) w' W m:=⟨(h.step hx).own,(h.add hb).nb⟩
theorem OW.AT7{b2:Nat}(h:OW n base bs w W m)(hx:Q0 bs w w')(hb:w.heap.size<=b)(cD:w.heap.size<=b2):OW n base (bs++[b]++[b2]) w' W m:=⟨(h.step hx).own,((h.add hb).add cD).nb⟩
theorem OW.sub(h:OW n base bs w W m)(hs:∀x∈cs,x∈bs):OW n base cs w W m:=⟨h.own,fun x hx hm=>h.nb x hx (hs x hm)⟩
theorem OW.mono{aF:Nat}(h:OW n base bs w W m)(hb:aF<=base):OW n aF bs w W m:=⟨h.own.mono hb,h.nb⟩
theorem OW.rd(h:OW n base bs w W m):Xb bs w W m:=h.own.rd h.nb
theorem OW.rd0(h:OW n base bs w W m):Xb [] w W m:=h.own.rd Qs
end
def U1(b:Jj):Jj:=⟨b.I',b.I',0,List.replicate b.RI.length 0,List.replicate b.RI.length false⟩
def YG(b:Jj)(c:Int):Jj×Int:=
 if gi b.locals c>0 then (b,0)
 else (⟨b.I',b.Sp-Y1 20 b.Sp,b.Ww,b.locals.set c.toNat (Y1 20 b.Sp),b.RI.set c.toNat (Y1 20 b.Sp==0)⟩,if Y1 20 b.Sp=0 then 2 else 0)
def Tr(b:Jj)(c n:Int):Jj×Int:=
 if n<1\/n>gi b.locals c then (b,3) else ({ b with Ww:=b.Ww+n,locals:=b.locals.set c.toNat (gi b.locals c-n) },0)
def YI(b:Jj)(op:ztx):Jj×Int:=
 if op.kind=4 then (U1 b,0)
 else if Yx op.rM 0 ((b.locals.length:Int)-1)=false then (b,1)
 else if op.kind=1 then YG b op.rM
 else if op.kind=2 then Tr b op.rM op.n
 else if op.kind=3 then (Yn b op.rM,0)
 else (b,1)
structure QW (base:Nat) (w:Wo) (b:Jj) (p:MG):Prop where
 loc:XU YR 1 Qb base w p.lO p.lC b.locals
 RI:XU OH 1 ZQ base w p.dO p.dC b.RI
def Zz(p:MG):List Nat:=Qy p.lO++Qy p.dO
theorem QW.lt{base:Nat}{w:Wo}{b:Jj}{p:MG}(h:QW base w b p):∀x∈Zz p,base<=x/\x<w.heap.size:=fun x hx=>by
 rcases Io.1 hx with hx | hx
 ·exact h.loc.lt x hx
 ·exact h.RI.lt x hx
theorem QW.ext{base:Nat}{w w':Wo}{b:Jj}{p:MG}{bs:List Nat}(h:QW base w b p)(hx:Q0 bs w w')(hd:∀x∈Zz p,x∉bs):QW base w' b p:=
 ⟨h.loc.ext hx fun x hm=>hd x (Ib _ hm),h.RI.ext hx fun x hm=>hd x (Iy _ hm)⟩
theorem QW.bG{base:Nat}{w w':Wo}{b:Jj}{p:MG}(h:QW base w b p)(hx:Q0 [] w w'):QW base w' b p:=h.ext hx Qs
theorem QW.CO8{base:Nat}{w w':Wo}{b:Jj}{p:MG}{bs:List Nat}(h:QW base w b p)(hx:Q0 bs w w')(hb:∀x∈bs,x<base):QW base w' b p:=h.ext hx fun x hm fS=>by
 have:=(h.lt x hm).1;have:=hb x fS;omega
theorem QW.mono{base aF:Nat}{w:Wo}{b:Jj}{p:MG}(h:QW base w b p)(hb:aF<=base):QW aF w b p:=⟨h.loc.mono hb,h.RI.mono hb⟩
theorem QW.eJ{base:Nat}{w:Wo}{b:Jj}{p:MG}(h:QW base w b p){c:Int}(c0:0<=c)(c1:c<(b.locals.length:Int))(x:Int):QW base (RD w p.lO (Int.toNat c*1) [I x]) { b with locals:=b.locals.set c.toNat x } p:=
 ⟨h.loc.RD ZO.len c0 c1 (j:=0) (vs:=[I x]) (x:=x) rfl Qs,h.RI.ext (h.loc.rJ _ _) (h.RI.Wb h.loc Qd)⟩
theorem QW.CJ0{base:Nat}{w:Wo}{b:Jj}{p:MG}(h:QW base w b p){c:Int}(c0:0<=c)(c1:c<(b.RI.length:Int))(x:Bool):QW base (RD w p.dO (Int.toNat c*1) [.bool x]) { b with RI:=b.RI.set c.toNat x } p:=
 ⟨h.loc.ext (h.RI.rJ _ _) (h.loc.Wb h.RI Qd),h.RI.RD Yy.len c0 c1 (j:=0) (vs:=[.bool x]) (x:=x) rfl Qs⟩
theorem QW.xL{base:Nat}{w:Wo}{b:Jj}{p:MG}(h:QW base w b p)(n:Nat)(vs:List Va):Q0 (Zz p) w (RD w p.lO n vs):=(h.loc.rJ n vs).mono fun x hx=>Ib _ hx
theorem QW.xD{base:Nat}{w:Wo}{b:Jj}{p:MG}(h:QW base w b p)(n:Nat)(vs:List Va):Q0 (Zz p) w (RD w p.dO n vs):=(h.RI.rJ n vs).mono fun x hx=>Iy _ hx
section
variable {b:Jj}{m:MG}{w:Wo}
theorem KX{α:Type}[Inhabited α]{l:List α}{i:Nat}(h:i<l.length):l.take i++[gi l (i:Int)]=l.take (i+1):=by
 rw[List.take_succ_eq_append_getElem h,Jr h]
theorem HU(h1:zka [] w m.lO b.locals)(h2:zrg [] w m.dO b.RI)(hd:b.RI.length=b.locals.length)(hl:b.locals.length<=1048576) :
  Cz Tu #[.agg (Z4 b m).toArray] w fun e w'=>∃p,e=.returned (.agg (Z4 b p).toArray)/\QW w.heap.size w' b p/\Q0 [] w w':=by
 refine(zd9 b.I' b.Sp b.Ww m.lO b.locals.length m.lC m.dO b.RI.length m.dC (R:=fun v w'=>∃p,v=.agg (Z4 b p).toArray/\QW w.heap.size w' b p/\Q0 [] w w') ?_).mono fun e w' ⟨v,he,p,hv,h3⟩=>⟨p,by rw[he,hv],h3⟩
 intro x uV x5 SK x6 cU
 refine⟨fun vs w1=>∃(i:Nat) (p:MG),vs=[I (i:Int),I b.I',I b.Sp,I b.Ww,.slice p.lO (b.locals.take i).length p.lC,.slice p.dO (b.RI.take i).length p.dC]/\i<=b.locals.length/\Sc w [x,x5,x6] w1/\Ob YR 1 Qb w.heap.size [x,x5,x6] w1 p.lO p.lC (b.locals.take i)/\Ob OH 1 ZQ w.heap.size [x,x5,x6] w1 p.dO p.dC (b.RI.take i),
  Zo b.locals.length 0,fun wr hx _=>⟨0,⟨none,0,none,0,none,0⟩,Qs,Ie _,(((Sc.start w).add uV).add SK |>.add cU).R4 hx,⟨.inl ⟨rfl,rfl,rfl⟩,by simp[Qy]⟩,⟨.inl ⟨rfl,rfl,rfl⟩,by simp[Qy]⟩⟩,?_⟩
 rintro c1 l l1 l2 S4 S5 S7 l4O l4L l4C wv hs ⟨i,p,he,hi,s1,hO,hD⟩;simp only[I5,I6,Iw,true_and,and_true] at he;obtain⟨rfl,rfl,rfl,rfl,⟨rfl,rfl,rfl⟩,rfl,rfl,rfl⟩:=he;refine⟨fun IQ=>?_,fun RH=>?_⟩
 ·have IQ:=Ot IQ;have uU:=h1.scb s1;refine⟨uU.ix Vg Qo IQ,_,uU i Qo IQ,fun b8 hb8=>⟨rfl,fun Rt Rm gZ aO=>?_⟩⟩;have s2:=s1.put Rm hb8;have uD:=hO.put Rm hb8;have hD2:=hD.put Rm hb8;obtain⟨o2,c2,w2,U',uG,hO3,SL⟩:=uD.AD2 ZO Uo (x:=gi b.locals (i:Int)) gZ s2.ext.size aO (zvm _) (by rw[List.length_take]; omega) Qd Z1 #[false,false];rw[KX Qo] at U' hO3;have s3:=s2.call SL fun x hm=>(uD.own.lt x hm).1
  have hD3:=hD2.call SL (hD2.own.Wb uD.own Qd);have tG:=h2.scb s3;refine⟨_,_,_,w2,U',uG,tG.ix Aa Qo Qo,_,tG i Qo Qo,fun b9 hb9=>⟨rfl,fun Ry SZ fU CE4=>?_⟩⟩;have s4:=s3.put SZ hb9;have hO4:=hO3.put SZ hb9;have hD4:=hD3.put SZ hb9;obtain⟨o4,c4,w4,B86,hk4,hD5,kR⟩:=hD4.AD2 Yy Mf (x:=gi b.RI (i:Int)) fU s4.ext.size CE4 (zws _) (by rw[List.length_take]; omega) Qd Xy #[false,false];rw[KX Qo] at B86 hD5;have s5:=s4.call kR fun x hm=>(hD4.own.lt x hm).1
  have hO5:=hO4.call kR (hO4.own.Wb hD4.own Qd);refine⟨_,_,_,w4,B86,hk4,⟨Qo,Qo⟩,fun w5 SK _=>⟨⟨i+1,⟨o2,c2,o4,c4,none,0⟩,rfl,Qo,(s5.step SK).sub Qs,(hO5.step SK).sub Qs,(hD5.step SK).sub Qs⟩,?_⟩⟩;simp only[Zo,Xl,Y5,Ig];omega
 ·have RH:=Ou RH;have e1:b.locals.take i=b.locals:=List.take_of_length_le Qo;have e2:b.RI.take i=b.RI:=List.take_of_length_le Qo;rw[e1] at hO ⊢;rw[e2] at hD ⊢;exact fun w2 R6=>⟨p,rfl,⟨(hO.step R6).own,(hD.step R6).own⟩,(s1.step R6).ext⟩
theorem zrb(l:List Bool)(k:Nat)(h:k<l.length):(List.replicate k false++l.drop k).set k false=List.replicate (k+1) false++l.drop (k+1):=by
 rw[List.set_append,C' Qs,List.length_replicate,Nat.sub_self,List.drop_eq_getElem_cons h,List.set_cons_zero,List.replicate_succ',List.append_assoc,List.singleton_append]
theorem HV{base:Nat}(h:QW base w b m)(hl:b.RI.length<=1048576) :
  Cz Tv #[.agg (Z4 b m).toArray] w fun e w'=>e=.returned (.agg (Z4 b m).toArray)/\QW base w' { b with RI:=List.replicate b.RI.length false } m/\Q0 (Zz m) w w':=by
 refine(zea b.I' b.Sp b.Ww m.lO b.locals.length m.lC m.dO b.RI.length m.dC (R:=fun v w'=>v=.agg (Z4 b m).toArray/\QW base w' { b with RI:=List.replicate b.RI.length false } m/\Q0 (Zz m) w w') ?_).mono fun e w' ⟨v,he,hv,h3⟩=>⟨by rw[he,hv],h3⟩
 intro x uV x5 SK
 have hnb:∀y∈Zz m,y∉[x,x5]:=fun y hy hm=>by
  have:=(h.lt y hy).2;simp only[Ij,List.not_mem_nil,or_false] at hm;rcases hm with rfl | rfl <;> omega
 have zN:∀y∈[x,x5],w.heap.size<=y:=fun y hm=>by
  simp only[Ij,List.not_mem_nil,or_false] at hm;rcases hm with rfl | rfl <;> assumption
 refine P1 b.RI.length 0 rfl (fun k w1=>k<=b.RI.length/\QW base w1 { b with RI:=List.replicate k false++b.RI.drop k } m/\Q0 (Zz m) w w1) (fun w1 So _=>⟨Ie _,by simpa using h.bG So,So.of_nil⟩) fun k w1 hs ⟨hk,hO,hX⟩=>⟨fun IQ=>?_,fun RH=>?_⟩
 ·have IQ:=Ot IQ;have hlen:(List.replicate k false++b.RI.drop k).length=b.RI.length:=by simp; omega
  have e1:=hO.CJ0 (c:=(k:Int)) Qo (by show (k:Int)<((List.replicate k false++b.RI.drop k).length:Int); rw[hlen]; exact IQ) false;have e2:({ b with RI:=(List.replicate k false++b.RI.drop k).set k false }:Jj)={ b with RI:=List.replicate (k+1) false++b.RI.drop (k+1) }:=by rw[zrb _ _ Qo]
  have Wz:=hO.RI.ix (i:=(k:Int)) Qo (by show (k:Int)<((List.replicate k false++b.RI.drop k).length:Int); rw[hlen]; exact IQ);have uJ:=hO.RI.wr Yy.len (bs:=[x,x5]) (fun y hy=>hnb y (Iy _ hy)) (i:=(k:Int)) Qo (by show (k:Int)<((List.replicate k false++b.RI.drop k).length:Int); rw[hlen]; exact IQ) (j:=0) (n:=1) Qd;refine⟨by rw[<-hlen]; exact Wz,uJ,⟨Qo,Qo⟩,fun w2 R6 _=>Z7 Qo ⟨Qo,?_,(hX.trans (hO.xD _ _)).fresh R6 fun y hy=>.inl (zN y hy)⟩⟩;rw[Ih] at e1;have:=(e2▸e1:QW base (RD w1 m.dO (k*1) [.bool false]) { b with RI:=List.replicate (k+1) false++b.RI.drop (k+1) } m);exact this.ext (by rw[Ih] at R6; exact R6) hnb
 ·have RH:=Ou RH;have uG:k=b.RI.length:=Qo;subst uG;rw[List.drop_length,List.append_nil] at hO;exact fun w2 R6=>⟨rfl,hO.ext R6 hnb,hX.fresh R6 fun y hy=>.inl (zN y hy)⟩
theorem zex{p:Int}(h:0<=p):0<=Y1 20 p/\Y1 20 p<=p:=by unfold Y1; split <;> omega
theorem Jb{op:ztx}(hb:VK b)(h1:zka [] w m.lO b.locals)(h2:zrg [] w m.dO b.RI) :
  Cz Y6 #[.agg (Z4 b m).toArray,.agg (zo0 op).toArray] w fun e w'=>∃p,e=.returned (.tuple #[.agg (Z4 (YI b op).1 p).toArray,I (YI b op).2])/\QW w.heap.size w' (YI b op).1 p/\Q0 [] w w':=by
 refine(zag b.I' b.Sp b.Ww m.lO b.locals.length m.lC m.dO b.RI.length m.dC op.kind op.rM op.n (R:=fun v w'=>∃p,v=.tuple #[.agg (Z4 (YI b op).1 p).toArray,I (YI b op).2]/\QW w.heap.size w' (YI b op).1 p/\Q0 [] w w') ?_).mono fun e w' ⟨v,he,p,hv,h3⟩=>⟨p,by rw[he,hv],h3⟩
 have hm9:=Zc;have hl2:=hb.l2;have hdl:=hb.dl;have q1:=hb.q1;have q2:=hb.q2;have p1:=hb.p1;have p2:=hb.p2;have s1':=hb.s1;have s2':=hb.s2;intro x uV x5 SK x6 cU;have hok:=LY (bs:=[]) h1 h2 Qo;rw[Qi.2 hb] at hok;refine⟨true,hok,fun h=>by simp at h,fun _ R2 So dX=>?_⟩;have t1:=((((Sc.start w).add uV).add SK).add cU).R4 So;refine(HU (h1.ext So) (h2.ext So) hdl Qo).mono fun e wv ⟨p,he,hO,cY⟩=>⟨_,_,_,_,_,_,_,_,_,he,Qe cY dX,fun g4=>?_,fun g4=>?_⟩
 ·have g4:op.kind=4:=by simpa using g4
  have t2:=t1.R4 cY;have hbl:∀y∈[x,x5,x6],y<R2.heap.size:=dX;refine fun O' R6 SY=>⟨_,_,_,_,PI ZO Uo b.RI.length Qo Qo O',Qe (QZ _ _) SY,fun Rt Rm gZ=>?_⟩
  have hLo:=(Uk (enc:=YR) ZO.len Qb b.RI.length (0:Int) O').ext Rm fun y hy hm=>by
   have:y=O'.heap.size:=by simpa[Qy] using hy
   have:=SY y hm;omega
  have hD3:XU OH 1 ZQ R2.heap.size Rt p.dO p.dC b.RI:=((hO.CO8 R6 hbl).bG (QZ O' _)).CO8 Rm hbl |>.RI
  have Cu7:R2.heap.size<=O'.heap.size:=IB cY.size R6.size;have hB3:QW R2.heap.size Rt { b with locals:=List.replicate b.RI.length 0 } ⟨some ⟨O'.heap.size,0,none⟩,b.RI.length,p.dO,p.dC,none,0⟩:=⟨hLo.mono Cu7,hD3⟩;have t3:=((t2.step R6).R4 (QZ O' (.cells ((List.replicate b.RI.length (0:Int)).flatMap YR).toArray Qb))).step Rm;have hw:=HV (b:=⟨b.I',b.I',0,List.replicate b.RI.length 0,b.RI⟩) (m:=⟨some ⟨O'.heap.size,0,none⟩,b.RI.length,p.dO,p.dC,none,0⟩) (base:=R2.heap.size) ⟨hB3.loc,hB3.RI⟩ (by show b.RI.length<=_; omega);simp only[Z4,List.length_replicate] at hw;refine I4 hw fun e w4 ⟨he4,hO4,kR⟩=>⟨_,_,_,_,_,_,_,_,_,he4,fun y hm=>kR.block y (gZ y hm) fun fS=>?_,fun Ry SZ=>⟨⟨some ⟨O'.heap.size,0,none⟩,b.RI.length,p.dO,p.dC,none,0⟩,?_,?_,?_⟩⟩
  ·have:=(hB3.lt y fS).1;have:=dX y hm;omega
  ·have:YI b op=(U1 b,0):=by unfold YI; rw[E' g4]
   rw[this]; simp[Z4,U1]
  ·have:YI b op=(U1 b,0):=by unfold YI; rw[E' g4]
   rw[this]
   exact(QW.mono ⟨hO4.loc,hO4.RI⟩ So.size).ext SZ fun y hy hm=>by
    have:=(hB3.lt y hy).1;have:=dX y hm;omega
  ·exact((t3.call kR fun y hy=>IB So.size (hB3.lt y hy).1).step SZ).ext
 ·have g4:¬op.kind=4:=by simpa using g4
  have t2:=t1.R4 cY
  have hbl:∀y∈Zz p,y∉[x,x5,x6]:=fun y hy hm=>by
   have:=(hO.lt y hy).1;have:=dX y hm;omega
  have hO0:QW w.heap.size wv b p:=hO.mono So.size
  have fin:∀{b':Jj} {c:Int} {w1 w2:Wo},YI b op=(b',c)->QW w.heap.size w1 b' p->Q0 (Zz p) wv w1->Q0 [x,x5,x6] w1 w2->QW w.heap.size w2 (YI b op).1 p/\Q0 [] w w2:=fun e hB hX hx=>by
   rw[e];exact⟨hB.ext hx hbl,((t2.call hX fun y hy=>(hO0.lt y hy).1).step hx).ext⟩
  have uU:zka [x,x5,x6] wv p.lO b.locals:=hO.loc.rd ZO.len fun y hy=>hbl y (Ib _ hy)
  refine⟨⟨Qo,Qo⟩,_,Qm,fun g5 wr hx=>⟨p,?_,fin (b':=b) (c:=1) ?_ hO0 (Q0.refl _ _) hx⟩,fun g5=>?_⟩
  ·have:YI b op=(b,1):=by unfold YI; rw[C' g4,E' (by simpa using g5)]
   rw[this]; rfl
  ·unfold YI; rw[C' g4,E' (by simpa using g5)]
  have g5':Yx op.rM 0 ((b.locals.length:Int)-1)=true:=by simpa using g5
  have nG:YI b op=if op.kind=1 then YG b op.rM else if op.kind=2 then Tr b op.rM op.n else if op.kind=3 then (Yn b op.rM,0) else (b,1):=by
   unfold YI; rw[C' g4,C' (by rw[g5']; decide)]
  obtain⟨c0,c1⟩:=Qt.1 g5';have c1:op.rM<(b.locals.length:Int):=Qo;have he':=hb.each _ c0 c1;have Wz:=uU.ix Vg c0 c1;have hwL:Xi [x,x5,x6] wv p.lO (Int.toNat op.rM*1) 1:=hO.loc.wr ZO.len (fun y hy=>hbl y (Ib _ hy)) c0 c1 (j:=0) Qd;refine⟨fun g6=>?_,fun g6=>?_⟩
  ·have g6:op.kind=1:=by simpa using g6
   rw[E' g6] at nG;refine⟨Wz,_,uU _ c0 c1,fun g7 wr hx=>⟨p,?_,fin (b':=b) (c:=0) ?_ hO0 (Q0.refl _ _) hx⟩,fun g7=>?_⟩
   ·rw[nG]; unfold YG; rw[E' (Ot g7)]; rfl
   ·rw[nG]; unfold YG; rw[E' (Ot g7)]
   have g7:=Ou g7;have ht:YG b op.rM=(⟨b.I',b.Sp-Y1 20 b.Sp,b.Ww,b.locals.set op.rM.toNat (Y1 20 b.Sp),b.RI.set op.rM.toNat (Y1 20 b.Sp==0)⟩,if Y1 20 b.Sp=0 then 2 else 0):=by unfold YG; rw[C' g7]
   rw[ht] at nG;have hm:=zex p1;have e1:=hO0.eJ c0 c1 (Y1 20 b.Sp);have e2:=e1.CJ0 (c:=op.rM) c0 (by show op.rM<(b.RI.length:Int); omega) (Y1 20 b.Sp==0);have hX:=(hO0.xL (Int.toNat op.rM*1) [I (Y1 20 b.Sp)]).trans (e1.xD (Int.toNat op.rM*1) [.bool (Y1 20 b.Sp==0)]);refine⟨_,XY,⟨Qo,Qo⟩,Wz,hwL,e1.RI.ix c0 (by show op.rM<(b.RI.length:Int); omega),e1.RI.wr Yy.len (fun y hy=>hbl y (Iy _ hy)) c0 (by show op.rM<(b.RI.length:Int); omega) (j:=0) Qd,fun g8 wr hx=>⟨p,?_,fin nG ⟨e2.loc,e2.RI⟩ hX hx⟩,fun g8 wr hx=>⟨p,?_,fin nG ⟨e2.loc,e2.RI⟩ hX hx⟩⟩
   ·rw[nG,E' (by simpa using g8)]; simp[Z4]
   ·rw[nG,C' (by simpa using g8)]; simp[Z4]
  ·have g6:¬op.kind=1:=by simpa using g6
   rw[C' g6] at nG;refine⟨fun g7=>?_,fun g7=>?_⟩
   ·have g7:op.kind=2:=by simpa using g7
    rw[E' g7] at nG;refine⟨fun _=>Wz,_,fun _=>uU _ c0 c1,fun g8 wr hx=>⟨p,?_,fin (b':=b) (c:=3) ?_ hO0 (Q0.refl _ _) hx⟩,fun g8=>?_⟩
    ·rw[nG]; unfold Tr; rw[E' (by simpa using g8)]; rfl
    ·rw[nG]; unfold Tr; rw[E' (by simpa using g8)]
    have g8':¬(op.n<1\/op.n>gi b.locals op.rM):=by simpa using g8
    have ht:Tr b op.rM op.n=({ b with Ww:=b.Ww+op.n,locals:=b.locals.set op.rM.toNat (gi b.locals op.rM-op.n) },0):=by unfold Tr; rw[C' g8']
    rw[ht] at nG;have e1:=hO0.eJ c0 c1 (gi b.locals op.rM-op.n);refine⟨Wz,_,uU _ c0 c1,⟨Qo,Qo⟩,Wz,hwL,⟨Qo,Qo⟩,fun wr hx=>⟨p,?_,fin nG ⟨e1.loc,e1.RI⟩ (hO0.xL _ _) hx⟩⟩;rw[nG]; simp[Z4]
   ·have g7:¬op.kind=2:=by simpa using g7
    rw[C' g7] at nG;refine⟨fun g8=>?_,fun g8 wr hx=>⟨p,?_,fin (b':=b) (c:=1) ?_ hO0 (Q0.refl _ _) hx⟩⟩
    ·have g8:op.kind=3:=by simpa using g8
     rw[E' g8] at nG;have e1:=hO0.eJ c0 c1 0;refine⟨Wz,_,uU _ c0 c1,⟨Qo,Qo⟩,Wz,hwL,fun g9 wr hx hs=>?_,fun g9 wr hx=>⟨p,?_,fin nG ?_ (hO0.xL _ _) hx⟩⟩
     ·have g9:=Ot g9;have e2:QW w.heap.size wr ⟨b.I',b.Sp+gi b.locals op.rM,b.Ww,b.locals.set op.rM.toNat 0,b.RI⟩ p:=QW.ext ⟨e1.loc,e1.RI⟩ hx hbl;have hw:=HV e2 (by show b.RI.length<=_; omega);simp only[Z4,H'] at hw;refine I4 hw fun e w4 ⟨he4,hO4,kR⟩=>⟨_,_,_,_,_,_,_,_,_,he4,fun y hm=>kR.block y (hs y hm) fun fS=>hbl y fS hm,fun Ry SZ=>⟨p,?_,?_,?_⟩⟩
      ·rw[nG]; simp[Z4,Yn,E' g9]
      ·rw[nG];have:Yn b op.rM=⟨b.I',b.Sp+gi b.locals op.rM,b.Ww,b.locals.set op.rM.toNat 0,List.replicate b.RI.length false⟩:=by unfold Yn; rw[E' g9]
       rw[this];exact QW.ext ⟨hO4.loc,hO4.RI⟩ SZ hbl
      ·exact((((t2.call (hO0.xL _ _) fun y hy=>(hO0.lt y hy).1).step hx).call kR fun y hy=>(hO0.lt y hy).1).step SZ).ext
     ·have g9:=Ou g9;rw[nG]; simp[Z4,Yn,C' g9]
     ·have g9:=Ou g9;have:Yn b op.rM=⟨b.I',b.Sp+gi b.locals op.rM,b.Ww,b.locals.set op.rM.toNat 0,b.RI⟩:=by unfold Yn; rw[C' g9]
      rw[this];exact⟨e1.loc,e1.RI⟩
    ·rw[nG,C' (by simpa using g8)]; rfl
    ·rw[nG,C' (by simpa using g8)]
end
section
variable {base:Nat}{W:Q7}{m:MW}{w:Wo}
theorem Yv{w:Wo}{x x1:Nat}(h:w.heap.size<=x)(h1:w.heap.size<=x1):∀y∈[x,x1],w.heap.size<=y:=fun y hm=>by
 simp only[Ij,List.not_mem_nil,or_false] at hm;rcases hm with rfl | rfl <;> assumption
theorem Mv.two{n:Nat}(h:Y8 n base w W m){x x1:Nat}(hx:w.heap.size<=x)(So:w.heap.size<=x1):Mv n base [x,x1] w m w W m:=((Mv.start h).add hx).add So
theorem zbt{n:Nat}{m:MW}{w:Wo}{k:Nat}{vs:List Va}:Q0 (QD n m) w (RD w m.cO k vs):=Pn fun a ha=>ED (by rw[ha]; simp[Qy])
theorem LO{n:Nat}{m:MW}{w:Wo}{k:Nat}{vs:List Va}:Q0 (QD n m) w (RD w m.tO k vs):=Pn fun a ha=>EF (by rw[ha]; simp[Qy])
theorem Dq{n:Nat}{m:MW}{w:Wo}{k:Nat}{vs:List Va}:Q0 (QD n m) w (RD w m.gO k vs):=Pn fun a ha=>EE (by rw[ha]; simp[Qy])
theorem N3{n:Nat}{m:MW}{w:Wo}{i k:Nat}{vs:List Va}(hi:i<n):Q0 (QD n m) w (RD w (m.ms i).sO k vs):=Pn fun a ha=>JL hi (by simp[Qp,Qy,ha])
theorem zn1{n:Nat}{bs:List Nat}(h:Y8 n base w W m)(hd:∀x∈QD n m,x∉bs){i:Int}(h0:0<=i)(h1:i<(W.IE.length:Int)){j k:Nat}(hj:j+k<=5):Xi bs w m.cO (Int.toNat i*5+j) k:=h.c.wr Mw.len (fun b hb=>hd b (ED hb)) h0 h1 hj
theorem zfv{n:Nat}{bs:List Nat}(h:Y8 n base w W m)(hd:∀x∈QD n m,x∉bs){i:Int}(h0:0<=i)(h1:i<(W.tasks.length:Int)){j k:Nat}(hj:j+k<=9):Xi bs w m.tO (Int.toNat i*9+j) k:=h.t.wr TG.len (fun b hb=>hd b (EF hb)) h0 h1 hj
theorem CE{n:Nat}{bs:List Nat}(h:Y8 n base w W m)(hd:∀x∈QD n m,x∉bs){i:Int}(h0:0<=i)(h1:i<(n:Int)){j k:Nat}(hj:j+k<=14):Xi bs w m.gO (Int.toNat i*14+j) k:=h.g.row.wr ZR.len (fun b hb=>hd b (EE hb)) h0 (by rw[Xt,h.len]; exact h1) hj
theorem zuf{n:Nat}{bs:List Nat}(h:Y8 n base w W m)(hd:∀x∈QD n m,x∉bs){i c:Int}(h0:0<=i)(h1:i<(n:Int))(c0:0<=c)(c1:c<((gi W.ID i).IF.length:Int)){j k:Nat}(hj:j+k<=5):Xi bs w (m.ms i.toNat).sO (Int.toNat c*5+j) k:=
 (h.each h0 h1).shl.wr UZ.len (fun b hb=>hd b (JL (k:=i.toNat) Qo (by simp[Qp]; exact .inr (.inr hb)))) c0 c1 hj
theorem zta{n:Nat}(h:Y8 n base w W m){c:Int}(c0:0<=c)(c1:c<(W.IE.length:Int)) :
  (Y8 n base (RD w m.cO (Int.toNat c*5+1) [I (-1)]) { W with IE:=W.IE.set c.toNat { gi W.IE c with cur := -1 } } m)/\
  Y8 n base (RD (RD w m.cO (Int.toNat c*5+1) [I (-1)]) m.cO (Int.toNat c*5+2) [I 0]) (RC W c) m:=by
 have e1:=h.Ag2 c0 c1 (j:=1) (vs:=[I (-1)]) (x:={ gi W.IE c with cur := -1 }) rfl Qd;refine⟨e1,?_⟩;have hg:gi (W.IE.set c.toNat { gi W.IE c with cur := -1 }) c={ gi W.IE c with cur := -1 }:=by rw[QC _ _ c0 c1 c0,E' rfl]
 have e2:=e1.Ag2 c0 (by simpa using c1) (j:=2) (vs:=[I 0]) (x:=Xx (gi W.IE c)) (by rw[hg]; rfl) Qd;rw[List.set_set] at e2;exact e2
theorem Zu{n:Nat}(h:Y8 n base w W m){c:Int}(c0:0<=c)(c1:c<(W.IE.length:Int)) :
  Cz Z8 #[.agg (Qa W m).toArray,I c] w fun e w'=>e=.returned (.agg (Qa (RC W c) m).toArray)/\Mv n base [] w m w' (RC W c) m:=by
 refine(zeb _ _ _ _ _ _ _ _ _ _ c (R:=fun v w'=>v=.agg (Qa (RC W c) m).toArray/\Mv n base [] w m w' (RC W c) m) ?_).mono fun e w' ⟨v,he,hv,h3⟩=>⟨by rw[he,hv],h3⟩
 intro x hx x1 So;obtain⟨e1,e2⟩:=zta h c0 c1;have hr:=h.rd (bs:=[]) Qs;refine⟨hr.c.ix Y0 c0 c1,zn1 h Qs c0 c1 Qd,hr.c.ix Y0 c0 c1,zn1 e1 Qs c0 (by simpa using c1) Qd,fun wr R6=>⟨by simp[Qa,RC,RW],((Mv.start h).SX e2 (zbt.trans zbt)).R4 R6⟩⟩
theorem zwy{W:Q7}{g c:Int}{s:K0}:RM W g c s={ W with ID:=W.ID.set g.toNat { gi W.ID g with IF:=(gi W.ID g).IF.set c.toNat s } }:=rfl
theorem Om{W W':Q7}{m:MW}(h:Fr W W'):Qa W' m=Qa W m:=by
 simp only[Qa,h.n,h.c,h.t,h.g.len]
theorem zd2{gs:List Zr}(ht:ZX gs){k:Int}(hu:Q6 gs k=true):TM (gs.length+1) gs k 0=dep 3 gs k:=by
 have hp:∀g:Int,g≠0->Q6 gs g=true->Q6 gs (gi gs g).parent=true:=fun g hz hu=>(Y3 ht hu hz).1
 have hd:0<=dep 3 gs k/\dep 3 gs k<=3:=by
  by_cases hz:k=0
  ·subst hz; rw[Yc]; omega
  ·obtain⟨_,_,_,d,e,_,hd⟩:=Y3 ht hu hz;omega
 have hm:=Kq gs 3 gs.length k hd.1 (by rw[ht.len]; omega);rw[HX hp _ _ _ hu,hm,C' Qo];omega
theorem AG{F K:Int}{n:Nat}(pU:SF F K W)(h:Y8 n base w W m)(hk:F+Qn<=K){k c:Int}(hu:Q6 W.ID k=true)(hn:n=8)(c0:0<=c)(c1:c<(W.IE.length:Int))(s:K0) :
  Y8 n base (RD w (m.ms k.toNat).sO (Int.toNat c*5) (PS s)) (RM W k c s) m:=by
 obtain⟨u0,u1,_⟩:=Q5.1 hu;have hl:=pU.w.a.gl;have hs:=pU.w.a.sl hu;exact h.BR1 u0 Qo c0 Qo (j:=0) (vs:=PS s) (x:=s) (by simp[PS]) (by simp[PS])
theorem KF{F K:Int}(h:Y8 8 base w W m)(pU:SF F K W)(hk:F+Qn<=K)(hK:K<=1000000000000000000){c:Int}(c0:0<=c)(c1:c<(W.IE.length:Int)) :
  Cz Uu #[.agg (Qa W m).toArray,I c] w fun e w'=>e=.returned (.agg (Qa W m).toArray)/\Mv 8 base [] w m w' (QR W c) m:=by
 refine(A8 _ _ _ _ _ _ _ _ _ _ c (R:=fun v w'=>v=.agg (Qa W m).toArray/\Mv 8 base [] w m w' (QR W c) m) ?_).mono fun e w' ⟨v,he,hv,h3⟩=>⟨by rw[he,hv],h3⟩
 intro x hx x1 So;have bW:=pU.w.a.gl
 refine⟨fun vs w1=>∃(j:Nat),vs=[I (3-(j:Int))]/\j<=3/\Mv 8 base [x,x1] w m w1 (XI W c j) m,
  fun vs _=>(Y5 0 vs).toNat,fun wr uV _=>⟨0,rfl,Qd,(Mv.two h hx So).R4 uV⟩,?_⟩
 rintro d wv hs ⟨j,he,j3,hM⟩;obtain⟨hS,hO⟩:=Ey pU hk c0 c1 j j3;have hN:XI W c (j+1)=ZV (XI W c j) c (3-(j:Int)) 8:=rfl;have hE:j=3->XI W c j=QR W c:=fun e=>by rw[e]; rfl
 generalize XI W c j=W1 at hM hS hO hN hE;simp only[I5,I6,true_and,and_true] at he;refine⟨fun hd=>?_,fun hd=>?_⟩
 ·have hd:=Ot hd;have uQ:c<(W1.IE.length:Int):=by rw[hO.c]; exact c1
  refine P1 W.ID.length 1 rfl (fun k w2=>1<=k/\k<=8/\Mv 8 base [x,x1] w m w2 (ZV W1 c d k) m) (fun w2 R6 _=>⟨I8 _,Qd,?_⟩) fun k w2 SY ⟨hk1,hk8,cX⟩=>?_
  ·have e:ZV W1 c d 1=W1:=zm3 Qo;rw[e];exact hM.step R6
  obtain⟨hS2,uD⟩:=AF hS hk (c:=c) (d:=d) Qo c0 uQ k hk8;have hf2:=hO.trans uD;have e0:Qa (ZV W1 c d k) m=Qa W m:=Om hf2.fr;have hr:=cX.rd;have zU:(ZV W1 c d k).ID.length=W.ID.length:=hf2.g.len;have A26:(ZV W1 c d k).IE.length=W.IE.length:=by rw[hf2.c]
  have aL:ZV W1 c d (k+1)=if (gi (ZV W1 c d k).ID (k:Int)).used=true/\dep 3 (ZV W1 c d k).ID (k:Int)=d then RM (ZV W1 c d k) (k:Int) c (Yo (ZV W1 c d k) (k:Int) c) else ZV W1 c d k:=rfl;have hN8:k=8->XI W c (j+1)=ZV W1 c d k:=fun e=>by rw[hN,<-he,e]
  generalize ZV W1 c d k=W2 at cX hS2 uD hf2 e0 hr zU A26 aL hN8;refine⟨fun IQ=>?_,fun RH=>?_⟩
  ·have IQ:=Ot IQ;have RU:(k:Int)<(W2.ID.length:Int):=Qo;have hdp:=OZ (g:=(k:Int)) (c:=m.gC) hr.g (by have:=Zc; omega);rw[zU] at hdp;refine⟨by have:=hr.g.ix (i:=(k:Int)) Qo RU; rwa[zU] at this,(gi W2.ID (k:Int)).used,hr.g.used Qo RU,_,fun _=>hdp,fun g=>?_,fun g=>?_⟩
   ·refine⟨⟨Qo,Qo⟩,fun w3 Rm _=>Z7 Qo ⟨Qo,Qo,?_⟩⟩;rw[aL,C']
    ·exact cX.step Rm
    ·rintro⟨h1,h2⟩;have hu:Q6 W2.ID (k:Int)=true:=Q5.2 ⟨Qo,RU,h1⟩;have:=zd2 hS2.w.a.tree hu;rw[zU] at this;rw[this,h1,h2] at g;simp at g
   ·simp only[I0,I7,bne_eq_false_iff_eq] at g;have hu:Q6 W2.ID (k:Int)=true:=Q5.2 ⟨Qo,RU,g.1⟩;have hdk:=zd2 hS2.w.a.tree hu;rw[zU,g.2] at hdk;rw[E' ⟨g.1,hdk.symm⟩] at aL;have hsl:=hS2.w.a.sl hu;have hz:(k:Int)≠0:=Qo;have hp:=hS2.w.a.up hu hz;obtain⟨p0,p1,_⟩:=Q5.1 hp;have hpl:=hS2.w.a.sl hp;have s1:=hS2.w.s _ c hu c0 Qo;have s2:=hS2.w.s _ c hp c0 Qo;have lc:=ZW ((Qc W2 (k:Int) c).v-(Qc W2 (gi W2.ID (k:Int)).parent c).floor) (Qc W2 (k:Int) c).w;have lm:=ZU (Qc W2 (k:Int) c).w;have Wz:Ix m.gO W.ID.length (k:Int):=by have:=hr.g.ix (i:=(k:Int)) Qo RU; rwa[zU] at this
    have AI8:=(hr.g.IF (k:Int) Qo RU).ix ZK c0 Qo;have Bp4:=Oc (g:=(k:Int)) hr hS2.w.a c0 Qo;have B13:=Mz (g:=(k:Int)) hr hS2.w.a hu c0 Qo;rw[e0] at Bp4 B13;have SP:=fun s=>AG hS2 cX.own hk hu rfl c0 (c:=c) Qo s
    have Af8:∀{vs:List Va},Q0 (QD 8 m) w2 (RD w2 (m.ms k).sO (Int.toNat c*5) vs):=fun {vs}=>N3 Qo
    have uJ:=zuf cX.own cX.nb (i:=(k:Int)) Qo Qo c0 Qo (j:=0) (k:=5) Qd;simp only[Ih] at SP uJ AI8;refine⟨Wz,_,_,_,hr.g.S3 Qo RU,AI8,_,_,_,_,_,(hr.g.IF (k:Int) Qo RU) c c0 Qo,fun b2 cD=>⟨QU W2 (k:Int) c,Bp4,V4 W2 (k:Int) c,fun _=>B13,fun g2=>?_,fun g2=>?_⟩⟩
    ·have hss:Yo W2 (k:Int) c=⟨(Qc W2 (k:Int) c).floor,QU W2 (k:Int) c && !V4 W2 (k:Int) c,(Qc W2 (gi W2.ID (k:Int)).parent c).floor+X8 ((Qc W2 (k:Int) c).v-(Qc W2 (gi W2.ID (k:Int)).parent c).floor) (Qc W2 (k:Int) c).w,(Qc W2 (k:Int) c).w,(Qc W2 (k:Int) c).sum⟩:=by
      unfold Yo;rw[E']
      simpa[Qc] using g2
     have SP:=SP (Yo W2 (k:Int) c);rw[hss] at SP;have AD9:Ix m.gO W.ID.length (gi W2.ID (k:Int)).parent:=by have:=hr.g.ix p0 p1; rwa[zU] at this
     refine⟨Wz,_,hr.g.parent Qo RU,AD9,_,_,_,hr.g.S3 p0 p1,(hr.g.IF _ p0 p1).ix ZK c0 Qo,_,zh7.f (hr.g.IF _ p0 p1) c0 Qo (j:=0) rfl,⟨by show _<=(Qc W2 (k:Int) c).v-(Qc W2 (gi W2.ID (k:Int)).parent c).floor; omega,by show (Qc W2 (k:Int) c).v-(Qc W2 (gi W2.ID (k:Int)).parent c).floor<=_; omega⟩,_,PD,⟨?_,?_⟩,Wz,_,_,_,hr.g.S3 Qo RU,AI8,uJ,⟨Qo,Qo⟩,fun w3 Rm _=>Z7 Qo ⟨Qo,Qo,?_⟩⟩
     ·show -9223372036854775808<=(Qc W2 (gi W2.ID (k:Int)).parent c).floor+X8 ((Qc W2 (k:Int) c).v-(Qc W2 (gi W2.ID (k:Int)).parent c).floor) (Qc W2 (k:Int) c).w;omega
     ·show (Qc W2 (gi W2.ID (k:Int)).parent c).floor+X8 ((Qc W2 (k:Int) c).v-(Qc W2 (gi W2.ID (k:Int)).parent c).floor) (Qc W2 (k:Int) c).w<=9223372036854775807;omega
     ·rw[aL,hss];exact(cX.SX SP Af8).step Rm
    ·have hss:Yo W2 (k:Int) c=⟨(Qc W2 (k:Int) c).floor,QU W2 (k:Int) c && !V4 W2 (k:Int) c,(Qc W2 (k:Int) c).v,(Qc W2 (k:Int) c).w,(Qc W2 (k:Int) c).sum⟩:=by
      unfold Yo;rw[C'];intro h1;rw[h1.1,show (gi (gi W2.ID (k:Int)).IF c).on=false from h1.2] at g2;cases g2
     have SP:=SP (Yo W2 (k:Int) c);rw[hss] at SP;refine⟨Wz,_,_,_,hr.g.S3 Qo RU,AI8,uJ,⟨Qo,Qo⟩,fun w3 Rm _=>Z7 Qo ⟨Qo,Qo,?_⟩⟩;rw[aL,hss];exact(cX.SX SP Af8).step Rm
  ·have RH:=Ou RH;have hN8:=hN8 Qo;refine⟨⟨Qo,Qo⟩,fun w3 Rm _=>⟨⟨j+1,?_,Qo,?_⟩,?_⟩⟩
   ·rw[show d-1=3-((j+1:Nat):Int) by omega]
   ·rw[hN8];exact cX.step Rm
   ·show (d-1).toNat<d.toNat;omega
 ·have hd:=Ou hd;rw[<-hE Qo];exact fun w2 R6=>⟨rfl,(hM.step R6).close⟩
end
theorem V0{n:Nat}{m:MW}{i:Nat}{p:MG}:∀x∈QD n (TP m i p),x∈QD n m\/x∈Qp p:=fun x hx=>by
 rcases Fo hx with h | h | h | ⟨k,hk,h⟩
 ·exact .inl (ED h)
 ·exact .inl (EF h)
 ·exact .inl (EE h)
 ·simp only[TP] at h
  split at h
  ·exact .inr h
  ·exact .inl (JL hk h)
theorem Mv.swap{n base:Nat}{bs:List Nat}{w0 w w':Wo}{W W':Q7}{m0 m m':MW}(h:Mv n base bs w0 m0 w W m)(k:Y8 n base w' W' m')(hx:Q0 (QD n m) w w')(hm:m'={ m with ms:=m'.ms })(Af8:∀x∈QD n m',x∈QD n m\/(w0.heap.size<=x/\x∉bs)):Mv n base bs w0 m0 w' W' m':=
 ⟨k,h.ext.fresh hx fun x hm=>(h.sub x hm).symm,fun x hx=>by
  rcases Af8 x hx with h1 | h1
  ·exact h.sub x h1
  ·exact .inr h1.1,by rw[hm,h.hd],fun x hx=>by
  rcases Af8 x hx with h1 | h1
  ·exact h.nb x h1
  ·exact h1.2,h.new⟩
section
variable {base:Nat}{W:Q7}{m:MW}{w:Wo}
theorem BH{K:Int}(h:Y8 8 base w W m)(pU:SW K W)(hK:0<=K){c:Int}(c0:0<=c)(c1:c<(W.IE.length:Int)) :
  Cz Td #[.agg (Qa W m).toArray,I c] w fun e w'=>e=.returned (.agg (Qa W m).toArray)/\Mv 8 base [] w m w' (Zt W c) m:=by
 refine(Bm _ _ _ _ _ _ _ _ _ _ c (R:=fun v w'=>v=.agg (Qa W m).toArray/\Mv 8 base [] w m w' (Zt W c) m) ?_).mono fun e w' ⟨v,he,hv,h3⟩=>⟨by rw[he,hv],h3⟩
 intro x hx x1 So;have bW:=pU.a.gl;refine P1 W.ID.length 0 rfl (fun k w2=>k<=8/\Mv 8 base [x,x1] w m w2 (Z5 W c k) m) (fun w2 R6 _=>⟨Qd,(Mv.two h hx So).R4 R6⟩) fun k w2 SY ⟨hk8,cX⟩=>?_
 obtain⟨hS2,uD⟩:=Ld pU hK c0 c1 k hk8;have e0:Qa (Z5 W c k) m=Qa W m:=Om uD.fr;have hr:=cX.rd;have zU:(Z5 W c k).ID.length=W.ID.length:=uD.g.len;have A26:(Z5 W c k).IE.length=W.IE.length:=by rw[uD.c]
 have aL:Z5 W c (k+1)=if (gi (Z5 W c k).ID (k:Int)).used=true/\ZN (Z5 W c k) (k:Int) c 20=true/\Zf (Z5 W c k) (k:Int) c 20>(Qc (Z5 W c k) (k:Int) c).floor then RM (Z5 W c k) (k:Int) c (Ef (Z5 W c k) (k:Int) c) else Z5 W c k:=rfl;have hN8:k=8->Zt W c=Z5 W c k:=fun e=>by rw[e]; rfl
 generalize Z5 W c k=W2 at cX hS2 uD e0 hr zU A26 aL hN8;refine⟨fun IQ=>?_,fun RH=>?_⟩
 ·have IQ:=Ot IQ;have RU:(k:Int)<(W2.ID.length:Int):=Qo;have Wz:Ix m.gO W.ID.length (k:Int):=by have:=hr.g.ix (i:=(k:Int)) Qo RU; rwa[zU] at this
  refine⟨Wz,(gi W2.ID (k:Int)).used,hr.g.used Qo RU,fun g=>?_,fun g=>?_⟩
  ·refine⟨⟨Qo,Qo⟩,fun w3 Rm _=>Z7 Qo ⟨Qo,?_⟩⟩;rw[aL,C' (fun h1=>by rw[h1.1] at g; cases g)];exact cX.step Rm
  ·have g:(gi W2.ID (k:Int)).used=true:=by simpa using g
   have hu:Q6 W2.ID (k:Int)=true:=Q5.2 ⟨Qo,RU,g⟩;have hsl:=hS2.a.sl hu;have hle:=KE (g:=(k:Int)) hr hS2.a c0 Qo;rw[e0] at hle;have hss:=hr.g.IF (k:Int) Qo RU;have AI8:=hss.ix ZK c0 Qo;have uJ:=zuf cX.own cX.nb (i:=(k:Int)) Qo Qo c0 Qo (j:=0) (k:=1) Qd;have SP:=cX.own.BR1 (i:=(k:Int)) Qo Qo c0 Qo (j:=0) (vs:=[I (Zf W2 (k:Int) c 20)]) (x:=Ef W2 (k:Int) c) rfl Qs;rw[<-zwy] at SP;have Af8:Q0 (QD 8 m) w2 (RD w2 (m.ms k).sO (Int.toNat c*5+0) [I (Zf W2 (k:Int) c 20)]):=N3 Qo;simp only[Ih] at uJ AI8 SP;refine⟨_,_,hle,fun _=>Wz,_,_,_,fun _=>hr.g.S3 Qo RU,fun _=>AI8,_,fun _=>zh7.f hss c0 Qo (j:=0) rfl,fun g2=>?_,fun g2=>?_⟩
   ·refine⟨Wz,_,_,_,hr.g.S3 Qo RU,AI8,uJ,⟨Qo,Qo⟩,fun w3 Rm _=>Z7 Qo ⟨Qo,?_⟩⟩;rw[aL,E' ⟨g,by simpa[Qc] using g2⟩];exact(cX.SX SP Af8).step Rm
   ·refine⟨⟨Qo,Qo⟩,fun w3 Rm _=>Z7 Qo ⟨Qo,?_⟩⟩;rw[aL,C']
    ·exact cX.step Rm
    ·rintro⟨_,h1,h2⟩;rw[h1,show decide (Zf W2 (k:Int) c 20>(gi (gi W2.ID (k:Int)).IF c).floor)=true from Ii h2] at g2;cases g2
 ·have RH:=Ou RH;rw[hN8 Qo];exact fun w3 Rm=>⟨rfl,(cX.step Rm).close⟩
theorem Mj.Cx1{bs:List Nat}{w:Wo}{gs:List Zr}{ms:Nat->MG}{o:OA}(h:Mj bs w o gs ms){i:Int}(h0:0<=i)(h1:i<(gs.length:Int)):Q2 bs w o (Int.toNat i*14+8+3) [.slice (ms i.toNat).lO (gi gs i).IT.locals.length (ms i.toNat).lC]:=(h.cells i h0 h1).get 11 _ rfl
theorem Mj.quo{bs:List Nat}{w:Wo}{gs:List Zr}{ms:Nat->MG}{o:OA}(h:Mj bs w o gs ms){i:Int}(h0:0<=i)(h1:i<(gs.length:Int)):Q2 bs w o (Int.toNat i*14+8+0) [I (gi gs i).IT.I']:=(h.cells i h0 h1).get 8 _ rfl
def VS(m:MG)(p:MG):MG:=⟨p.lO,p.lC,p.dO,p.dC,m.sO,m.sC⟩
theorem Tp{m p:MG}:∀x∈Qp (VS m p),x∈Zz p\/x∈Qp m:=fun x hx=>by
 simp only[Qp,VS,Zz,Io] at hx ⊢;rcases hx with (h | h) | h
 ·exact .inl (.inl h)
 ·exact .inl (.inr h)
 ·exact .inr (.inr h)
theorem Y8.B29{n:Nat}(h:Y8 n base w W m){i:Int}(h0:0<=i)(hi:i<(n:Int)){b:Jj}{p:MG}(hb:QW base w b p)(hn:∀x∈Zz p,x∉QD n m) :
  Y8 n base (RD w m.gO (Int.toNat i*14+8) (Z4 b p)) (WQ W i b) (TP m i.toNat (VS (m.ms i.toNat) p)):=by
 have hm:=h.each h0 hi;refine h.Be9 h0 hi (g:={ gi W.ID i with IT:=b }) (p:=VS (m.ms i.toNat) p) ⟨hb.loc,hb.RI,hm.shl⟩ (fun x hx=>?_) rfl (by simp[Z4]);rcases Tp x hx with h1 | h1
 ·exact .inl (hn x h1)
 ·exact .inr h1
theorem zax{F K:Int}(h:Y8 8 base w W m)(pU:SF F K W)(sG:base<=w.heap.size) :
  Cz ON #[.agg (Qa W m).toArray] w fun e w'=>∃m',e=.returned (.agg (Qa W m).toArray)/\Mv 8 base [] w m w' (LU W) m':=by
 refine(zaj _ _ _ _ _ _ _ _ _ _ (R:=fun v w'=>∃m',v=.agg (Qa W m).toArray/\Mv 8 base [] w m w' (LU W) m') ?_).mono fun e w' ⟨v,he,m',hv,h3⟩=>⟨m',by rw[he,hv],h3⟩
 intro x hx x1 So;have bW:=pU.w.a.gl;have Cp3:=pU.w.a.c2;have oA:=Yv hx So;refine P1 W.ID.length 0 rfl (fun k w2=>k<=8/\∃m2,Mv 8 base [x,x1] w m w2 (YX W k) m2) (fun w2 R6 _=>⟨Qd,m,(Mv.two h hx So).R4 R6⟩) fun k w2 SY ⟨hk8,m2,cX⟩=>?_
 obtain⟨hS2,uD⟩:=TL pU k hk8;have zU:(YX W k).ID.length=W.ID.length:=uD.g.len;have A26:(YX W k).IE.length=W.IE.length:=by rw[uD.c]
 have aL:YX W (k+1)=if (gi (YX W k).ID (k:Int)).used=true/\(gi (YX W k).ID (k:Int)).IT.I'≠0 then YD (YX W k) (k:Int) (YX W k).IE.length else YX W k:=rfl;have hN8:k=8->LU W=YX W k:=fun e=>by rw[e]; rfl
 generalize YX W k=W2 at cX hS2 uD zU A26 aL hN8;have hmg:m2.gO=m.gO:=by rw[cX.hd]
 have hr:=cX.rd;refine⟨fun IQ=>?_,fun RH=>?_⟩
 ·have IQ:=Ot IQ;have RU:(k:Int)<(W2.ID.length:Int):=Qo;have Wz:Ix m.gO W.ID.length (k:Int):=by have:=hr.g.ix (i:=(k:Int)) Qo RU; rwa[zU,hmg] at this
  have hru:=hr.g.used (i:=(k:Int)) Qo RU;have hrq:=hr.g.quo (i:=(k:Int)) Qo RU;rw[hmg] at hru hrq;refine⟨Wz,(gi W2.ID (k:Int)).used,hru,fun _=>Wz,_,fun _=>hrq,fun g=>?_,fun g=>?_⟩
  ·refine⟨⟨Qo,Qo⟩,fun w3 Rm _=>Z7 Qo ⟨Qo,m2,?_⟩⟩;rw[aL,C']
   ·exact cX.step Rm
   ·rintro⟨h1,h2⟩;rw[h1] at g;simp[h2] at g
  ·simp only[I0,I7,beq_eq_false_iff_ne] at g;have hu:Q6 W2.ID (k:Int)=true:=Q5.2 ⟨Qo,RU,g.1⟩;rw[E' ⟨g.1,g.2⟩] at aL;refine P1 W.IE.length 0 rfl (fun c w3=>c<=W.IE.length/\∃m3,Mv 8 base [x,x1] w m w3 (YD W2 (k:Int) c) m3) (fun w3 Rm _=>⟨Ie _,m2,cX.step Rm⟩) fun c w3 gZ ⟨hc,m3,vA⟩=>?_
   obtain⟨hS3,hO3,hq3⟩:=HK hS2 hu g.2 c Qo;have CS0:(YD W2 (k:Int) c).ID.length=W.ID.length:=by rw[hO3.g.len,zU]
   have CR0:(YD W2 (k:Int) c).IE.length=W.IE.length:=by rw[hO3.c,A26]
   have BU3:YD W2 (k:Int) (c+1)=if gi (gi (YD W2 (k:Int) c).ID (k:Int)).IT.locals (c:Int)>0/\QU (YD W2 (k:Int) c) (k:Int) (c:Int)=false then WQ (YD W2 (k:Int) c) (k:Int) (Yn (gi (YD W2 (k:Int) c).ID (k:Int)).IT (c:Int)) else YD W2 (k:Int) c:=rfl;have hN3:c=W.IE.length->YX W (k+1)=YD W2 (k:Int) c:=fun e=>by rw[aL,A26,e]
   have e3:Qa (YD W2 (k:Int) c) m3=Qa W m:=vA.AK9 (by rw[hO3.n,uD.n]) CR0 (by rw[hO3.t,uD.t]) CS0;have hu3:Q6 (YD W2 (k:Int) c).ID (k:Int)=true:=by rw[hO3.g.dT]; exact hu
   generalize YD W2 (k:Int) c=W3 at vA hS3 hO3 hq3 CS0 CR0 BU3 hN3 e3 hu3;have CT4:m3.gO=m.gO:=by rw[vA.hd]
   have hr3:=vA.rd;refine⟨fun CT3=>?_,fun Bq7=>?_⟩
   ·have CT3:=Ot CT3;obtain⟨u0,u1,kQ⟩:=hS3.w.a.u hu3;obtain⟨hb,hbl,_⟩:=kQ.IT hq3;have Bc9:(k:Int)<(W3.ID.length:Int):=Qo;have hrl:=hr3.g.Cx1 (i:=(k:Int)) Qo Bc9;have hrb:=hr3.g.IT (i:=(k:Int)) Qo Bc9;rw[CT4] at hrl hrb;have hLo:=hr3.g.locals (k:Int) Qo Bc9;have hDo:=hr3.g.RI (k:Int) Qo Bc9;have Bp4:=Oc (g:=(k:Int)) (c:=(c:Int)) hr3 hS3.w.a Qo Qo;rw[e3] at Bp4;refine⟨Wz,_,_,_,hrl,hLo.ix Vg Qo Qo,_,hLo (c:Int) Qo Qo,_,fun _=>Bp4,fun g3=>?_,fun g3=>?_⟩
    ·simp only[A',Ik,IC] at g3;rw[E' g3] at BU3;refine⟨Wz,_,_,_,_,_,_,_,_,_,hrb,fun Rt Rm fU=>?_⟩;have mF:=vA.step Rm;have hr4:=mF.rd0;refine I4 (Jb (op:=⟨3,(c:Int),0⟩) hb (hr4.g.locals (k:Int) Qo Bc9) (hr4.g.RI (k:Int) Qo Bc9)) ?_;rintro e Rx ⟨p,he,hO,hy⟩
     have nG:YI (gi W3.ID (k:Int)).IT ⟨3,(c:Int),0⟩=(Yn (gi W3.ID (k:Int)).IT (c:Int),0):=by
      unfold YI;rw[C' (show ¬(3:Int)=4 by decide),C' (by rw[Qt.2 (by show 0<=(c:Int)/\(c:Int)<=_; omega)]; decide),C' (show ¬(3:Int)=1 by decide),C' (show ¬(3:Int)=2 by decide),E' rfl]
     rw[nG] at he hO
     dsimp only at he hO
     have hM5:=mF.R4 hy;have hbs:base<=Rt.heap.size:=by have:=mF.ext.size; omega
     have hOb:∀y∈Zz p,Rt.heap.size<=y:=fun y hy=>(hO.lt y hy).1
     have BN3:=hM5.own.B29 (i:=(k:Int)) Qo Qo (hO.mono hbs) (fun y hy hm=>by have:=hOb y hy; have:=(mF.own.lt y hm).2; omega);have uJ:=CE hM5.own hM5.nb (i:=(k:Int)) Qo Qo (j:=8) (k:=5) Qd;have mH:=mF.ext.size
     have hM6:=hM5.swap BN3 Dq rfl fun y hy=>by
      rcases V0 y hy with h1 | h1
      ·exact .inl h1
      ·rcases Tp y h1 with h2 | h2
       ·have:=hOb y h2;exact .inr ⟨Qo,fun hm=>by have:=fU y hm; omega⟩
       ·exact .inl (JL Qo h2)
     rw[CT4] at uJ hM6;refine⟨_,_,_,_,_,_,_,_,_,_,he,Qe hy fU,fun b2 cD=>⟨Wz,uJ,⟨Qo,Qo⟩,fun w5 SK _=>Z7 (w1:=w3) Qo ⟨Qo,TP m3 (Int.toNat (k:Int)) (VS (m3.ms (Int.toNat (k:Int))) p),?_⟩⟩⟩;rw[BU3];exact hM6.step SK
    ·refine⟨⟨Qo,Qo⟩,fun w5 SK _=>Z7 Qo ⟨Qo,m3,?_⟩⟩;rw[BU3,C']
     ·exact vA.step SK
     ·rintro⟨h1,h2⟩;rw[h2,Ii h1] at g3;cases g3
   ·have Bq7:=Ou Bq7;refine⟨⟨Qo,Qo⟩,fun w5 SK _=>Z7 Qo ⟨Qo,m3,?_⟩⟩;rw[hN3 Qo];exact vA.step SK
 ·have RH:=Ou RH;rw[hN8 Qo];exact fun w3 Rm=>⟨m2,rfl,(cX.step Rm).close⟩
end
section
variable {base:Nat}{W:Q7}{m:MW}{w:Wo}
theorem zef{W W':Q7}(h:Fr W W'):W'.IE.length=W.IE.length/\W'.tasks.length=W.tasks.length/\W'.ID.length=W.ID.length:=⟨h.c,by rw[h.t],h.g.len⟩
theorem ziy{n:Nat}{bs:List Nat}{w0 w:Wo}{W0 W:Q7}{m0 m:MW}(h:Mv n base bs w0 m0 w W m)(hf:Fr W0 W):Qa W m=Qa W0 m0:=h.AK9 hf.n hf.c (by rw[hf.t]) hf.g.len
theorem Qu{K:Int}(h:Y8 8 base w W m)(pU:SW K W)(hK0:0<=K)(hK:K<=100000000000000000)(sG:base<=w.heap.size) :
  Cz Ql #[.agg (Qa W m).toArray] w fun e w'=>∃m',e=.returned (.agg (Qa (Qh W) m').toArray)/\Mv 8 base [] w m w' (Qh W) m':=by
 refine(Bn _ _ _ _ _ _ _ _ _ _ (R:=fun v w'=>∃m',v=.agg (Qa (Qh W) m').toArray/\Mv 8 base [] w m w' (Qh W) m') ?_).mono fun e w' ⟨v,he,m',hv,h3⟩=>⟨m',by rw[he,hv],h3⟩
 intro x hx x1 So;have bW:=pU.a.gl;have Cp3:=pU.a.c2;have hm9:=Zc;refine⟨fun vs w1=>∃(k:Nat),vs=I (k:Int)::Qa W m/\k<=W.IE.length/\Mv 8 base [x,x1] w m w1 (YN W k) m,Zo W.IE.length 0,fun w1 uV _=>⟨0,rfl,Ie _,(Mv.two h hx So).R4 uV⟩,?_⟩;rintro c1 l RZ Sa Sh S9 Sf Sg S4 S5 S7 Rx SY ⟨k,he,hk,hM⟩;obtain⟨hS,hO⟩:=Oy (F:=K) (K:=K+Qn) (pU.sf.mono (I3 _) (by simp only[Qn]; omega)) (I3 _) k hk;have aL:YN W (k+1)=QR (YN W k) (k:Int):=rfl;have AD7:k=W.IE.length->YN W W.IE.length=YN W k:=fun e=>by rw[e]
 have e0:=ziy hM hO.fr;obtain⟨n1,n2,n3⟩:=zef hO.fr;simp only[Qa,I5,I6,Iw,true_and,and_true] at he;obtain⟨rfl,rfl,⟨rfl,rfl,rfl⟩,⟨rfl,rfl,rfl⟩,rfl,rfl,rfl⟩:=he;generalize YN W k=W1 at hM hS hO aL AD7 e0 n1 n2 n3;refine⟨fun IQ Rt Rm gZ=>?_,fun RH RR SK kK=>?_⟩
 ·have IQ:=Ot IQ;have vA:=hM.step Rm;have Rn:=KF vA.own hS Qo (by simp only[Qn]; omega) (c:=(k:Int)) Qo Qo;rw[e0] at Rn;refine I4 Rn ?_;rintro e Sk ⟨he,hy⟩;refine⟨_,_,_,_,_,_,_,_,_,_,he,vA.kept hy gZ,⟨Qo,Qo⟩,fun Ry SZ _=>⟨⟨k+1,rfl,Qo,?_⟩,?_⟩⟩
  ·rw[aL];exact(vA.call hy gZ).step SZ
  ·simp only[Zo,Xl,Y5,Ig]; omega
 ·have RH:=Ou RH;have hkk:k=W.IE.length:=Qo;have AD7:=AD7 hkk;have hM5:=hM.step SK;have hb5:base<=RR.heap.size:=by have:=hM5.ext.size; omega
  have Rn:=zax hM5.own hS hb5;rw[e0] at Rn;refine I4 Rn ?_;rintro e2 bI ⟨m4,aQ,SL⟩;obtain⟨hS4,hO4⟩:=TL hS 8 Qd;have hM6:=hM5.call SL kK;have SP:Qh W=JO (LU W1) W.IE.length:=by unfold Qh; rw[AD7]
  have hf4:Fr W (LU W1):=hO.fr.trans hO4.fr;have CQ2:SW (K+Qn) (LU W1):=hS4.w;have CS9:=zef hf4;generalize LU W1=W4 at hM6 SP hf4 CQ2 CS9;refine⟨_,_,_,_,_,_,_,_,_,_,aQ,hM5.kept SL kK,fun vs w1=>∃(k:Nat) (m1:MW),vs=I (k:Int)::Qa W m/\k<=W.IE.length/\Mv 8 base [x,x1] w m w1 (JO W4 k) m1,Zo W.IE.length 0,fun w1 uV _=>⟨0,m4,rfl,Ie _,hM6.step uV⟩,?_⟩;rintro c3 l RZ Sa Sh S9 Sf Sg S4 S5 S7 dV hs7 ⟨k,m7,he,hk,hM7⟩;obtain⟨hS7,hf7⟩:=KV CQ2 (by simp only[Qn]; omega) k Qo;have Bq2:JO W4 (k+1)=VG (JO W4 k) (k:Int):=rfl;have BU6:k=W.IE.length->Qh W=JO W4 k:=fun e=>by rw[SP,e]
  have hfW:=hf4.trans hf7;have e7:=ziy hM7 hfW;obtain⟨q1,q2,q3⟩:=zef hfW;simp only[Qa,I5,I6,Iw,true_and,and_true] at he;obtain⟨rfl,rfl,⟨rfl,rfl,rfl⟩,⟨rfl,rfl,rfl⟩,rfl,rfl,rfl⟩:=he;generalize JO W4 k=W7 at hM7 hS7 hf7 Bq2 BU6 hfW e7 q1 q2 q3;refine⟨fun IQ WY kW hs9=>?_,fun RH=>?_⟩
  ·have IQ:=Ot IQ;have hM9:=hM7.step kW;have hk4:(k:Int)<=4:=Qo;have hKb:K+Qn+(k:Int)*Qn+Qn<=1000000000000000000:=by simp only[Qn]; omega
   have uQ:(k:Int)<(W7.IE.length:Int):=Qo;have hSF:=hS7.sf.mono (F':=K+Qn+(k:Int)*Qn) (K':=K+Qn+(k:Int)*Qn+Qn) (I3 _) (by simp only[Qn]; omega);have Rn:=KF hM9.own hSF (I3 _) hKb (c:=(k:Int)) Qo uQ;rw[e7] at Rn;refine I4 Rn ?_;rintro e4 vO ⟨he4,kR⟩;obtain⟨hS8,hO8⟩:=Ex hSF (I3 _) (c:=(k:Int)) Qo uQ;have hM8:=hM9.call kR hs9;refine⟨_,_,_,_,_,_,_,_,_,_,he4,hM9.kept kR hs9,fun Sj AJ0 rG=>?_⟩;have CD3:=hM8.step AJ0;have gW:VG W7 (k:Int)=if MO (Zt (QR W7 (k:Int)) (k:Int)) (k:Int)=true then RC (Zt (QR W7 (k:Int)) (k:Int)) (k:Int) else Zt (QR W7 (k:Int)) (k:Int):=rfl;have c2':(k:Int)<((QR W7 (k:Int)).IE.length:Int):=by rw[hO8.c]; exact uQ
   have Bp8:=BH CD3.own hS8.w (by simp only[Qn]; omega) (c:=(k:Int)) Qo c2';rw[Om hO8.fr,e7] at Bp8;obtain⟨Cn4,Cn2⟩:=Ld hS8.w (by simp only[Qn]; omega) (c:=(k:Int)) Qo c2' 8 Qd;refine I4 Bp8 ?_;rintro e5 qP ⟨he5,hy5⟩;have Bp1:=CD3.call hy5 rG;have Bo9:=CD3.kept hy5 rG;have CE7:Fr W (Zt (QR W7 (k:Int)) (k:Int)):=(hfW.trans hO8.fr).trans Cn2.fr;have A81:SW (K+Qn+(k:Int)*Qn+Qn) (Zt (QR W7 (k:Int)) (k:Int)):=Cn4;generalize Zt (QR W7 (k:Int)) (k:Int)=W11 at Bp1 CE7 A81 gW;have e11:=ziy Bp1 CE7;have B19:m7.cO=m.cO/\m7.tO=m.tO:=by rw[hM7.hd]; exact⟨rfl,rfl⟩
   obtain⟨r1,r2,r3⟩:=zef CE7;have hr:=Bp1.rd;have c3':(k:Int)<(W11.IE.length:Int):=Qo;have rF:=A81.cu (k:Int) Qo c3';have jV:=A81.a.t;have CS5:=hr.c.ix Y0 (i:=(k:Int)) Qo c3';have hrC:=hr.c.f (i:=(k:Int)) Qo c3' (j:=1) rfl
   have hT:(decide ((gi W11.IE (k:Int)).cur>=0))=true->0<=(gi W11.IE (k:Int)).cur/\(gi W11.IE (k:Int)).cur<(W11.tasks.length:Int):=fun g=>by
    have:=Ot g;exact⟨this,Qo⟩
   have mR:∀g:(decide ((gi W11.IE (k:Int)).cur>=0))=true,PX [x,x1] Yk #[.agg (Qa W m).toArray,I (gi W11.IE (k:Int)).cur] qP (.bool (ZE W11 (gi W11.IE (k:Int)).cur)):=fun g=>by
    have:=Uy hr A81.a (hT g).1 (hT g).2 (fun hs=>A81.li (hT g).1 (hT g).2 hs)
    rwa[e11] at this
   rw[r1,B19.1] at CS5;rw[B19.1] at hrC;refine⟨_,_,_,_,_,_,_,_,_,_,he5,Bo9,CS5,_,hrC,fun g=>?_,(Q8 W11 (gi W11.IE (k:Int)).cur).R9,fun g=>?_,ZE W11 (gi W11.IE (k:Int)).cur,fun _ g=>mR g,fun g Sm A32 AP0=>?_,fun g=>?_⟩
   ·have:=hr.t.ix QL (hT g).1 (hT g).2
    rwa[r2,B19.2] at this
   ·have:=hr.t.f (hT g).1 (hT g).2 (j:=2) rfl
    rwa[B19.2] at this
   ·have CD4:=Bp1.step A32;have Bp9:=Zu CD4.own (c:=(k:Int)) Qo c3';rw[e11] at Bp9;refine I4 Bp9 ?_;rintro e6 cH ⟨he6,hy6⟩;have e12:=Om (m:=m7) (Aj W11 (k:Int));rw[e11] at e12;rw[e12] at he6;refine⟨_,_,_,_,_,_,_,_,_,_,he6,CD4.kept hy6 AP0,⟨Qo,Qo⟩,fun Sr AE0 _=>⟨⟨k+1,m7,rfl,Qo,?_⟩,?_⟩⟩
    ·rw[Bq2,gW,E' (by unfold MO; exact g)];exact(CD4.call hy6 AP0).step AE0
    ·simp only[Zo,Xl,Y5,Ig]; omega
   ·refine⟨⟨Qo,Qo⟩,fun Sr AE0 _=>⟨⟨k+1,m7,rfl,Qo,?_⟩,?_⟩⟩
    ·rw[Bq2,gW,C' (by unfold MO; rw[g]; decide)];exact Bp1.step AE0
    ·simp only[Zo,Xl,Y5,Ig]; omega
  ·have RH:=Ou RH;have BU6:=BU6 Qo;rw[BU6];refine fun w9 kW=>⟨m7,?_,(hM7.step kW).close⟩
   rw[e7]; rfl
end
theorem Y4{n:Int}{w:Wo}{bs:List Nat}:PX bs Zp #[I n] w (.bool (decide (n<=Qj))):=zbl n fun wr hx=>rfl
section
variable {W:Q7}{m:MW}{w:Wo}{bs:List Nat}
theorem Tj(h:Xb bs w W m)(hl:Xh W):PX bs Xp #[.agg (Qa W m).toArray] w (.bool (XQ (XA W/\PM W))):=
 ER _ _ _ _ _ _ _ _ _ _ fun wr hx=>by
  have h:=(h.ext hx).less (cs:=[]) Qs;intro x hx;refine⟨_,JH h hl.c hl.t hl.g hl.f,_,fun _=>Y4,fun g=>Ka ?_,fun g=>?_⟩
  ·rintro⟨wp,r⟩;rw[show Qx W=true from Qi.2 wp,show decide (W.now<=Qj)=true from Ii r.n] at g;cases g
  ·simp only[I0,I7] at g;have wp:XA W:=Qi.1 g.1;have CU0:=Ot g.2;have bW:=wp.a.gl;have jV:=wp.a.t;have qW:=wp.a.c2;refine Xg W.IE.length 0 rfl (fun k=>k<=W.IE.length/\∀c:Int,0<=c->c<(k:Int)->(gi W.IE c).busy<=Qj/\(gi W.IE c).idle<=Qj) ⟨Ie _,fun c a b=>by omega⟩ fun k ⟨hk,hI⟩=>⟨fun IQ=>?_,fun RH=>?_⟩
   ·have IQ:=Ot IQ;refine⟨h.c.ix Y0 Qo IQ,_,h.c.f Qo IQ (j:=3) rfl,_,Y4,fun _=>h.c.ix Y0 Qo IQ,_,fun _=>h.c.f Qo IQ (j:=4) rfl,_,fun _=>Y4,fun g2=>Ka ?_,fun g2=>⟨⟨Qo,Qo⟩,QA Qo ⟨Qo,fun c a b=>?_⟩⟩⟩
    ·rintro⟨_,r⟩;have:=r.c (k:Int) Qo IQ;rw[Ii this.1,Ii this.2] at g2;cases g2
    ·by_cases e:c=(k:Int)
     ·subst e;simp only[I0,I7] at g2;exact⟨Ot g2.1,Ot g2.2⟩
     ·exact hI c a Qo
   have RH:=Ou RH;have hC:∀c:Int,0<=c->c<(W.IE.length:Int)->(gi W.IE c).busy<=Qj/\(gi W.IE c).idle<=Qj:=fun c a b=>hI c a Qo
   clear hI;refine Xg W.tasks.length 0 rfl (fun k=>k<=W.tasks.length/\∀t:Int,0<=t->t<(k:Int)->(gi W.tasks t).v<=Qj/\(gi W.tasks t).sum<=Qj/\(gi W.tasks t).used<=Qj) ⟨Ie _,fun c a b=>by omega⟩ fun k ⟨hk,hI⟩=>⟨fun IQ=>?_,fun RH=>?_⟩
   ·have IQ:=Ot IQ;have Wz:=h.t.ix QL (i:=(k:Int)) Qo IQ;refine⟨Wz,_,h.t.f Qo IQ (j:=5) rfl,_,Y4,fun _=>Wz,_,fun _=>h.t.f Qo IQ (j:=6) rfl,_,fun _=>Y4,fun _=>Wz,_,fun _=>h.t.f Qo IQ (j:=7) rfl,_,fun _=>Y4,fun g2=>Ka ?_,fun g2=>⟨⟨Qo,Qo⟩,QA Qo ⟨Qo,fun c a b=>?_⟩⟩⟩
    ·rintro⟨_,r⟩;have:=r.t (k:Int) Qo IQ;rw[Ii this.1,Ii this.2.1,Ii this.2.2] at g2;cases g2
    ·by_cases e:c=(k:Int)
     ·subst e;simp only[I0,I7] at g2;exact⟨Ot g2.1.1,Ot g2.1.2,Ot g2.2⟩
     ·exact hI c a Qo
   have RH:=Ou RH;have hT:∀t:Int,0<=t->t<(W.tasks.length:Int)->(gi W.tasks t).v<=Qj/\(gi W.tasks t).sum<=Qj/\(gi W.tasks t).used<=Qj:=fun c a b=>hI c a Qo
   clear hI;refine Xg W.ID.length 0 rfl (fun k=>k<=W.ID.length/\∀j:Int,0<=j->j<(k:Int)->(gi W.ID j).sum<=Qj/\∀c:Int,0<=c->c<((gi W.ID j).IF.length:Int)->(Qc W j c).floor<=Qj/\(Qc W j c).v<=Qj/\(Qc W j c).sum<=Qj) ⟨Ie _,fun c a b=>by omega⟩ fun k ⟨hk,hI⟩=>⟨fun IQ=>?_,fun RH=>?_⟩
   ·have IQ:=Ot IQ;have Wz:=h.g.ix (i:=(k:Int)) Qo IQ
    have hsl:(gi W.ID (k:Int)).IF.length<=4:=by
     have:=wp.a.grp (k:Int) Qo Qo
     cases hu:(gi W.ID (k:Int)).used with
     | true=>have:=(this.2 hu).len; omega
     | false=>have:=(this.1 hu).l; omega
    refine⟨Wz,_,(h.g.cells (k:Int) Qo IQ).get 7 _ rfl,_,Y4,fun g2=>Ka ?_,fun g2=>?_⟩
    ·rintro⟨_,r⟩;have:=r.g (k:Int) Qo IQ;rw[Ii this] at g2;cases g2
    have g2:(gi W.ID (k:Int)).sum<=Qj:=by simpa using g2
    have vD:=h.g.IF (k:Int) Qo IQ;refine Xg (gi W.ID (k:Int)).IF.length 0 rfl (fun q=>q<=(gi W.ID (k:Int)).IF.length/\∀c:Int,0<=c->c<(q:Int)->(Qc W (k:Int) c).floor<=Qj/\(Qc W (k:Int) c).v<=Qj/\(Qc W (k:Int) c).sum<=Qj) ⟨Ie _,fun c a b=>by omega⟩ fun q ⟨hq,hJ⟩=>⟨Wz,_,_,_,h.g.S3 Qo IQ,fun RU=>?_,fun bU=>?_⟩
    ·have RU:=Ot RU;refine⟨Wz,_,_,_,h.g.S3 Qo IQ,vD.ix ZK Qo RU,_,_,_,_,_,vD (q:Int) Qo RU,fun b1 eY=>⟨_,Y4,_,fun _=>Y4,_,fun _=>Y4,fun g3=>Ka ?_,fun g3=>⟨⟨Qo,Qo⟩,QA Qo ⟨Qo,fun c a b=>?_⟩⟩⟩⟩
     ·rintro⟨_,r⟩;have:=r.s (k:Int) (q:Int) Qo IQ Qo RU;unfold Qc at this;rw[Ii this.1,Ii this.2.1,Ii this.2.2] at g3;cases g3
     ·by_cases e:c=(q:Int)
      ·subst e;simp only[I0,I7] at g3;exact⟨Ot g3.1.1,Ot g3.1.2,Ot g3.2⟩
      ·exact hJ c a Qo
    ·have bU:=Ou bU;refine⟨⟨Qo,Qo⟩,QA Qo ⟨Qo,fun j a b=>?_⟩⟩
     by_cases e:j=(k:Int)
     ·subst e;exact⟨g2,fun c a b=>hJ c a Qo⟩
     ·exact hI j a Qo
   ·have RH:=Ou RH;exact zh5 ⟨wp,⟨CU0,hC,hT,fun j a b=>(hI j a Qo).1,fun j c a b c0 c1=>(hI j a Qo).2 c c0 c1⟩⟩
theorem Jc{t:Int}(h:Xb bs w W m)(hl:W.tasks.length<=maxLen):PX bs YB #[.agg (Qa W m).toArray,I t] w (.bool (ZY W t)):=
 zbn _ _ _ _ _ _ _ _ _ _ t fun wr hx=>by
  have h:=(h.ext hx).less (cs:=[]) Qs;intro x hx;have:=XJ;refine⟨⟨Qo,Qo⟩,_,Qm,fun g=>?_,_,fun g=>?_,rfl⟩
  ·have:=Qt.1 g;exact h.t.ix QL Qo Qo
  ·have:=Qt.1 g;exact h.t.f Qo Qo (j:=0) rfl
end
structure DA (base:Nat) (bs:List Nat) (w:Wo) (o:OA) (cap:Nat) (ps:List (Zr×MG)):Prop where
 own:Mo base w o cap ps
 nb:∀x∈Qy o,x∉bs
 nm:∀i:Int,0<=i->i<(ps.length:Int)->∀x∈Qp (gi ps i).2,x∉bs
section
variable {base:Nat}{bs cs:List Nat}{w w':Wo}{o:OA}{cap:Nat}{ps:List (Zr×MG)}{b:Nat}
theorem DA.lt(h:DA base bs w o cap ps):(∀x∈Qy o,base<=x/\x<w.heap.size)/\∀i:Int,0<=i->i<(ps.length:Int)->∀x∈Qp (gi ps i).2,base<=x/\x<w.heap.size:=⟨h.own.row.lt,fun i a b=>(h.own.each i a b).lt⟩
theorem DA.ext(h:DA base bs w o cap ps)(hx:Q0 cs w w')(h1:∀x∈Qy o,x∉cs)(h2:∀i:Int,0<=i->i<(ps.length:Int)->∀x∈Qp (gi ps i).2,x∉cs):DA base bs w' o cap ps:=
 ⟨⟨h.own.row.ext hx h1,fun i a b=>(h.own.each i a b).ext hx (h2 i a b),h.own.dj⟩,h.nb,h.nm⟩
theorem DA.step(h:DA base bs w o cap ps)(hx:Q0 bs w w'):DA base bs w' o cap ps:=h.ext hx h.nb h.nm
theorem DA.R4(h:DA base bs w o cap ps)(hx:Q0 [] w w'):DA base bs w' o cap ps:=h.ext hx Qs Qs
theorem DA.add(h:DA base bs w o cap ps)(hb:w.heap.size<=b):DA base (bs++[b]) w o cap ps:=
 have key:∀x,x<w.heap.size->x∉bs->x∉bs++[b]:=fun x hl hx hm=>by
  rcases Io.1 hm with hm | hm
  ·exact hx hm
  ·have:x=b:=by simpa using hm
   omega
 ⟨h.own,fun x hx=>key x (h.lt.1 x hx).2 (h.nb x hx),fun i a c x hx=>key x (h.lt.2 i a c x hx).2 (h.nm i a c x hx)⟩
theorem DA.put(h:DA base bs w o cap ps)(hx:Q0 bs w w')(hb:w.heap.size<=b):DA base (bs++[b]) w' o cap ps:=⟨(h.step hx).own,(h.add hb).nb,(h.add hb).nm⟩
theorem DA.sub(h:DA base bs w o cap ps)(hs:∀x∈cs,x∈bs):DA base cs w o cap ps:=⟨h.own,fun x hx hm=>h.nb x hx (hs x hm),fun i a c x hx hm=>h.nm i a c x hx (hs x hm)⟩
theorem DA.nil(base:Nat)(bs:List Nat)(w:Wo):DA base bs w none 0 []:=⟨⟨.inl ⟨rfl,rfl,rfl⟩,fun i a b=>by simp at b; omega,fun i j a b=>by simp at b; omega⟩,by simp[Qy],fun i a b=>by simp at b; omega⟩
theorem zu0{α:Type}[Inhabited α]{l:List α}{x:α}{i:Int}(h0:0<=i)(h1:i<(l.length:Int)):gi (l++[x]) i=gi l i:=by
 obtain⟨k,rfl⟩:=Int.eq_ofNat_of_zero_le h0;rw[Jr (by simp; omega),Jr Qo,List.getElem_append_left]
theorem zr9{α:Type}[Inhabited α]{l:List α}{x:α}:gi (l++[x]) (l.length:Int)=x:=by
 rw[Jr Qs]; simp
theorem DA.AD2{p:Zr×MG}{t':TypeId}{fz:Nat×Nat}(h:DA base bs w o cap ps)(hs:∀x∈bs,x<w.heap.size)(sG:base<=w.heap.size)(hp:Ol base w p)(hpb:∀x∈Qp p.2,x∉bs)(hd:∀i:Int,0<=i->i<(ps.length:Int)->∀x∈Qp (gi ps i).2,x∉Qp p.2)(hb:w.heap[b]? = some (.cells (VP p).toArray t' fz))(h1:Zd (VP p)=true)(hl:ps.length<=1048576)(tr:TypeId)(cs:Array Bool) :
  ∃o' mC w',(builtin .append #[Qw,Qw] tr cs #[.slice o ps.length cap,.slice (some ⟨b,0,none⟩) 1 1]).run Tryz.prog w=.ok (.value (.slice o' (ps++[p]).length mC)) w'/\Q9 bs w w'/\DA base bs w' o' mC (ps++[p])/\Q0 (Qy o) w w':=by
 obtain⟨o2,c2,w2,U',hk,hO,hx⟩:=Ob.AD2 ZR Od (⟨h.own.row,h.nb⟩:Ob VP 14 QG base bs w o cap ps) hs sG hb h1 hl Qd tr cs;have hlen:(ps++[p]).length=ps.length+1:=Qs
 have BU2:∀i:Int,0<=i->i<((ps++[p]).length:Int)->(i<(ps.length:Int)/\gi (ps++[p]) i=gi ps i)\/(i=(ps.length:Int)/\gi (ps++[p]) i=p):=fun i a b=>by
  by_cases e:i<(ps.length:Int)
  ·exact .inl ⟨e,zu0 a e⟩
  ·have:i=(ps.length:Int):=Qo;subst this;exact .inr ⟨rfl,zr9⟩
 refine⟨o2,c2,w2,U',hk,⟨⟨hO.own,fun i a b=>?_,fun i j a b c d e=>?_⟩,hO.nb,fun i a b=>?_⟩,hx⟩
 ·rcases BU2 i a b with ⟨hi,hg⟩ | ⟨hi,hg⟩
  ·rw[hg]; exact(h.own.each i a hi).ext hx (Xr h.own.row (h.own.each i a hi))
  ·rw[hg]; exact hp.ext hx (Xr h.own.row hp)
 ·rcases BU2 i a b with ⟨hi,hg⟩ | ⟨hi,hg⟩ <;> rcases BU2 j c d with ⟨hj,hg'⟩ | ⟨hj,hg'⟩
  ·rw[hg,hg']; exact h.own.dj i j a hi c hj e
  ·rw[hg,hg']; exact hd i a hi
  ·rw[hg,hg']; exact fun x hx hm=>hd j c hj x hm hx
  ·omega
 ·rcases BU2 i a b with ⟨hi,hg⟩ | ⟨hi,hg⟩
  ·rw[hg]; exact h.nm i a hi
  ·rw[hg]; exact hpb
end
theorem zwt(g:Zr)(m:MG):Zd (Yb g m)=true:=rfl
theorem PP{W:Q7}(ha:WA W){k:Int}(k0:0<=k)(k1:k<8):(gi W.ID k).IT.RI.length=(gi W.ID k).IT.locals.length/\(gi W.ID k).IT.locals.length<=4/\(gi W.ID k).IF.length<=4:=by
 have hg:=ha.grp k k0 k1;have hc:=ha.c2
 cases hu:(gi W.ID k).used with
 | false=>
  have:=hg.1 hu;have hb:=AQ this.b;have:=this.l;omega
 | true=>
  have:=hg.2 hu;have hl:=this.len
  by_cases hq:(gi W.ID k).IT.I'=0
  ·have hb:=AQ (this.none hq).1;omega
  ·have hb:=(this.IT hq).1;have h1:=hb.dl;have h2:=hb.l2;omega
section
variable {W:Q7}{m:MW}{w:Wo}{bs:List Nat}
def VR(W:Q7)(ms:Nat->MG)(k:Nat):List (Zr×MG):=(List.range k).map fun (j:Nat)=>(gi W.ID (j:Int),ms j)
theorem YE(W:Q7)(ms:Nat->MG)(k:Nat):(VR W ms k).length=k:=by simp[VR]
theorem Ll{W:Q7}{ms:Nat->MG}{k:Nat}{i:Int}(h0:0<=i)(h1:i<(k:Int)):gi (VR W ms k) i=(gi W.ID i,ms i.toNat):=by
 obtain⟨j,rfl⟩:=Int.eq_ofNat_of_zero_le h0;rw[Jr (by rw[YE]; omega)];simp[VR]
theorem znj(W:Q7)(ms:Nat->MG)(k:Nat)(p:MG):VR W (fun j=>if j=k then p else ms j) (k+1)=VR W ms k++[(gi W.ID (k:Int),p)]:=by
 unfold VR;rw[List.range_succ,List.map_append]
 congr 1
 ·refine List.map_congr_left fun j hj=>?_
  have:=List.mem_range.1 hj;show (_,if j=k then p else ms j)=_;rw[C' Qo]
 ·simp
theorem Ov(h:Xb [] w W m)(ha:WA W) :
  Cz Ja #[.agg (Qa W m).toArray] w fun e w'=>∃m',e=.returned (.agg (Qa W m').toArray)/\Y8 8 w.heap.size w' W m'/\Q0 [] w w':=by
 refine(zec _ _ _ _ _ _ _ _ _ _ (R:=fun v w'=>∃m',v=.agg (Qa W m').toArray/\Y8 8 w.heap.size w' W m'/\Q0 [] w w') ?_).mono fun e w' ⟨v,he,m',hv,h3⟩=>⟨m',by rw[he,hv],h3⟩
 have qW:=ha.c2;have jV:=ha.t;have bW:=ha.gl;intro x hx x1 So x2 R6;have s0:Sc w [x,x1,x2] w:=(((Sc.start w).add hx).add So).add R6
 refine⟨fun vs w1=>∃(i:Nat) (cO:OA) (cC:Nat),vs=[I (i:Int),I W.now,.slice cO (W.IE.take i).length cC,.slice none 0 0,.slice none 0 0]/\i<=W.IE.length/\Sc w [x,x1,x2] w1/\Ob Mx 5 Zq w.heap.size [x,x1,x2] w1 cO cC (W.IE.take i),
  Zo W.IE.length 0,fun wr hx _=>⟨0,none,0,Qs,Ie _,s0.R4 hx,⟨.inl ⟨rfl,rfl,rfl⟩,by simp[Qy]⟩⟩,?_⟩
 rintro c1 l RZ Sa Sh S9 Sf Sg S4 S5 S7 Rx SY ⟨i,cO,cC,he,hi,s1,hC⟩;simp only[I5,I6,Iw,true_and,and_true] at he;obtain⟨rfl,rfl,⟨rfl,rfl,rfl⟩,⟨rfl,rfl,rfl⟩,rfl,rfl,rfl⟩:=he;refine⟨fun IQ=>?_,fun RH=>?_⟩
 ·have IQ:=Ot IQ;have hr:=h.c.scb s1;refine⟨hr.ix Y0 Qo IQ,_,_,_,_,_,hr i Qo IQ,fun b4 hb4=>⟨rfl,fun Rt Rm gZ aO=>?_⟩⟩;have s2:=s1.put Rm hb4;have hC2:=hC.put Rm hb4;obtain⟨o2,c2,w2,U',uG,hC3,SL⟩:=hC2.AD2 Mw PK (x:=gi W.IE (i:Int)) gZ s2.ext.size aO (zvl _) (by rw[List.length_take]; omega) Qd Zj #[false,false];rw[KX Qo] at U' hC3;have s3:=s2.call SL fun y hm=>(hC2.own.lt y hm).1
  refine⟨_,_,_,w2,U',uG,⟨Qo,Qo⟩,fun w5 SK _=>⟨⟨i+1,o2,c2,rfl,Qo,(s3.step SK).sub Qs,(hC3.step SK).sub Qs⟩,?_⟩⟩;simp only[Zo,Xl,Y5,Ig]; omega
 have RH:=Ou RH;rw[show W.IE.take i=W.IE from List.take_of_length_le Qo] at hC ⊢
 refine⟨fun vs w1=>∃(i:Nat) (tO:OA) (tC:Nat),vs=[I (i:Int),I W.now,.slice RZ W.IE.length Sh,.slice tO (W.tasks.take i).length tC,.slice none 0 0]/\i<=W.tasks.length/\Sc w [x,x1,x2] w1/\Ob Mx 5 Zq w.heap.size [x,x1,x2] w1 RZ Sh W.IE/\Ob YT 9 QN w.heap.size [x,x1,x2] w1 tO tC (W.tasks.take i),
  Zo W.tasks.length 0,fun wr hx _=>⟨0,none,0,Qs,Ie _,s1.step hx,hC.step hx,⟨.inl ⟨rfl,rfl,rfl⟩,by simp[Qy]⟩⟩,?_⟩
 clear hC s1 hi RH SY;rintro t1 l4 mL jA mJ mB oM lZ kL nN mM gT zW ⟨i,tO,tC,he,hi,s1,hC,hT⟩;simp only[I5,I6,Iw,true_and,and_true] at he;obtain⟨rfl,rfl,⟨rfl,rfl,rfl⟩,⟨rfl,rfl,rfl⟩,rfl,rfl,rfl⟩:=he;refine⟨fun IQ=>?_,fun RH=>?_⟩
 ·have IQ:=Ot IQ;have hr:=h.t.scb s1;refine⟨hr.ix QL Qo IQ,_,_,_,_,_,_,_,_,_,hr i Qo IQ,fun b4 hb4=>⟨rfl,fun Rt Rm gZ aO=>?_⟩⟩;have s2:=s1.put Rm hb4;have hC2:=hC.put Rm hb4;have hT2:=hT.put Rm hb4;obtain⟨o2,c2,w2,U',uG,hT3,SL⟩:=hT2.AD2 TG Pa (x:=gi W.tasks (i:Int)) gZ s2.ext.size aO (zwu _) (by rw[List.length_take]; omega) Qd QT #[false,false];rw[KX Qo] at U' hT3;have s3:=s2.call SL fun y hm=>(hT2.own.lt y hm).1
  have hC3:=hC2.call SL (hC2.own.Wb hT2.own Qd);refine⟨_,_,_,w2,U',uG,⟨Qo,Qo⟩,fun w5 SK _=>⟨⟨i+1,o2,c2,rfl,Qo,(s3.step SK).sub Qs,(hC3.step SK).sub Qs,(hT3.step SK).sub Qs⟩,?_⟩⟩;simp only[Zo,Xl,Y5,Ig]; omega
 have RH:=Ou RH;rw[show W.tasks.take i=W.tasks from List.take_of_length_le Qo] at hT ⊢
 refine⟨fun vs w1=>∃(i:Nat) (gO:OA) (gC:Nat) (ms:Nat->MG),vs=[I (i:Int),I W.now,.slice mL W.IE.length mJ,.slice mB W.tasks.length lZ,.slice gO (VR W ms i).length gC]/\i<=W.ID.length/\Sc w [x,x1,x2] w1/\Ob Mx 5 Zq w.heap.size [x,x1,x2] w1 mL mJ W.IE/\Ob YT 9 QN w.heap.size [x,x1,x2] w1 mB lZ W.tasks/\DA w.heap.size [x,x1,x2] w1 gO gC (VR W ms i),
  Zo W.ID.length 0,fun wr hx _=>⟨0,none,0,fun _=>default,by simp[VR],Ie _,s1.step hx,hC.step hx,hT.step hx,DA.nil _ _ _⟩,?_⟩
 clear hC hT s1 hi RH zW;rintro k1 l22 BB0 Be1 BA9 BB2 Be2 BB1 BO1 Bs4 BO0 dU DM2 ⟨i,gO,gC,ms,he,hi,s1,hC,hT,hG⟩;simp only[I5,I6,Iw,true_and,and_true] at he;obtain⟨rfl,rfl,⟨rfl,rfl,rfl⟩,⟨rfl,rfl,rfl⟩,rfl,rfl,rfl⟩:=he;refine⟨fun IQ=>?_,fun RH=>?_⟩
 ·have IQ:=Ot IQ;have hr:=h.g.ext s1.ext;have hrb:Mj [x,x1,x2] dU m.gO W.ID m.ms:=(h.g.wide (cs:=[x,x1,x2]) fun y hm=>.inr (s1.new y hm)).ext s1.ext.of_nil;have Wz:=hrb.ix (i:=(i:Int)) Qo IQ;obtain⟨bl1,bl2,bl3⟩:=PP ha (k:=(i:Int)) Qo Qo;refine⟨Wz,_,_,_,_,_,_,_,_,_,_,_,_,_,_,_,_,_,_,_,_,hrb.cells (i:Int) Qo IQ,fun kU B12=>⟨Wz,_,_,_,_,_,_,_,_,_,hrb.IT Qo IQ,fun cB B24 CG9=>?_⟩⟩;have s2:=s1.put B24 B12;have hC2:=hC.put B24 B12;have hT2:=hT.put B24 B12;have hG2:=hG.put B24 B12;have tG:=h.g.ext s2.ext;refine I4 (HU (tG.locals (i:Int) Qo IQ) (tG.RI (i:Int) Qo IQ) bl1 Qo) ?_;rintro e fZ ⟨p,he,hB,hy⟩;have s3:=s2.R4 hy;have hC3:=hC2.R4 hy;have hT3:=hT2.R4 hy;have hG3:=hG2.R4 hy;have hBn:∀y∈Zz p,cB.heap.size<=y:=fun y hm=>(hB.lt y hm).1
  have hBb:∀y∈Zz p,y∉[x,x1,x2]++[kU]:=fun y hm fS=>by
   have:=hBn y hm;have:=CG9 y fS;omega
  refine⟨_,_,_,_,_,_,_,_,_,he,Qe hy CG9,fun vs w1=>∃(c:Nat) (sO:OA) (sC:Nat),vs=[I (c:Int),.bool (gi W.ID (i:Int)).used,I (gi W.ID (i:Int)).parent,.string (gi W.ID (i:Int)).name,I (gi W.ID (i:Int)).weight,I (gi W.ID (i:Int)).IE,I (gi W.ID (i:Int)).period,I (gi W.ID (i:Int)).next,I (gi W.ID (i:Int)).sum,I (gi W.ID (i:Int)).IT.I',I (gi W.ID (i:Int)).IT.Sp,I (gi W.ID (i:Int)).IT.Ww,.slice p.lO (gi W.ID (i:Int)).IT.locals.length p.lC,.slice p.dO (gi W.ID (i:Int)).IT.RI.length p.dC,.slice sO ((gi W.ID (i:Int)).IF.take c).length sC]/\c<=(gi W.ID (i:Int)).IF.length/\Sc w ([x,x1,x2]++[kU]) w1/\cB.heap.size<=w1.heap.size/\Ob Mx 5 Zq w.heap.size ([x,x1,x2]++[kU]) w1 BB0 BA9 W.IE/\Ob YT 9 QN w.heap.size ([x,x1,x2]++[kU]) w1 BB2 BB1 W.tasks/\DA w.heap.size ([x,x1,x2]++[kU]) w1 BO1 BO0 (VR W ms i)/\QW cB.heap.size w1 (gi W.ID (i:Int)).IT p/\Ob PS 5 Yw cB.heap.size ([x,x1,x2]++[kU]) w1 sO sC ((gi W.ID (i:Int)).IF.take c),
   Zo (gi W.ID (i:Int)).IF.length 0,fun wr hx _=>⟨0,none,0,Qs,Ie _,s3.step hx,IB hy.size hx.size,hC3.step hx,hT3.step hx,hG3.step hx,hB.ext hx hBb,⟨.inl ⟨rfl,rfl,rfl⟩,by simp[Qy]⟩⟩,?_⟩
  have mH:w.heap.size<=cB.heap.size:=s2.ext.size;have CP7:=hG2.lt;clear hB s3 hC3 hT3 hG3 hC2 hT2;rintro c4 l26 l27 l28 l29 l30 l31 l32 l33 l34 l35 l36 BB5 BB4 BB3 BB8 BB7 BB6 A38 BO2 A37 gS DM3 ⟨c,sO,sC,he,hc,s4,hz4,hC4,hT4,hG4,hB4,hS4⟩;simp only[I5,I6,Iw,Value.bool.injEq,Value.string.injEq,true_and,and_true] at he;obtain⟨rfl,rfl,rfl,rfl,rfl,rfl,rfl,rfl,rfl,rfl,rfl,rfl,⟨rfl,rfl,rfl⟩,⟨rfl,rfl,rfl⟩,rfl,rfl,rfl⟩:=he;have CG6:Mj ([x,x1,x2]++[kU]) gS m.gO W.ID m.ms:=(h.g.wide (cs:=[x,x1,x2]++[kU]) fun y hm=>.inr (s4.new y hm)).ext s4.ext.of_nil;refine⟨Wz,_,_,_,CG6.S3 Qo IQ,fun RU=>?_,fun bU=>?_⟩
  ·have RU:=Ot RU;have vD:=CG6.IF (i:Int) Qo IQ;refine⟨Wz,_,_,_,CG6.S3 Qo IQ,vD.ix ZK Qo RU,_,_,_,_,_,vD c Qo RU,fun qS Bp5=>⟨rfl,fun eD BN6 Cu1 aO=>?_⟩⟩;have s5:=s4.put BN6 Bp5;have hS5:=hS4.put BN6 Bp5;have CV7:cB.heap.size<=eD.heap.size:=IB hz4 BN6.size;obtain⟨o2,c2,w2,U',uG,hS6,SL⟩:=hS5.AD2 UZ Oe (x:=gi (gi W.ID (i:Int)).IF (c:Int)) Cu1 CV7 aO (zvn _) (by rw[List.length_take]; omega) Qd Z0 #[false,false];rw[KX Qo] at U' hS6;have hG5:=hG4.put BN6 Bp5;have hC5:=hC4.put BN6 Bp5;have hT5:=hT4.put BN6 Bp5;have hB5:=hB4.ext BN6 hBb;have s6:=s5.call SL fun y hm=>IB mH (hS5.own.lt y hm).1
   have hC6:=hC5.call SL (hC5.own.Wb hS5.own Qd);have hT6:=hT5.call SL (hT5.own.Wb hS5.own Qd)
   have hG6:=hG5.ext SL (hG5.own.row.Wb hS5.own Qd) fun j a b y hm fS=>by
    have:=(CP7.2 j a b y hm).2;have:=(hS5.own.lt y fS).1;omega
   have Cl7:∀y∈Zz p,y∉[x,x1,x2]++[kU]++[qS]:=fun y hm fS=>by
    rcases Io.1 fS with h2 | h2
    ·exact hBb y hm h2
    ·have:y=qS:=by simpa using h2
     have:=(hB4.lt y hm).2;omega
   have hB6:=hB5.ext SL fun y hm=>by
    rcases Io.1 hm with hm | hm
    ·exact hB5.loc.Wb hS5.own Qd y hm
    ·exact hB5.RI.Wb hS5.own Qd y hm
   refine⟨_,_,_,w2,U',uG,⟨Qo,Qo⟩,fun w5 SK _=>⟨⟨c+1,o2,c2,rfl,Qo,(s6.step SK).sub Qs,?_,(hC6.step SK).sub Qs,(hT6.step SK).sub Qs,(hG6.step SK).sub Qs,hB6.ext SK Cl7,(hS6.step SK).sub Qs⟩,?_⟩⟩
   ·have:=SL.size;have:=SK.size;omega
   ·simp only[Zo,Xl,Y5,Ig]; omega
  ·have bU:=Ou bU;rw[show (gi W.ID (i:Int)).IF.take c=(gi W.ID (i:Int)).IF from List.take_of_length_le Qo] at hS4 ⊢;intro zM Bp6 eO Bd8 Cu2 aO;have s5:=s4.put Bd8 Bp6;have hG5:=hG4.put Bd8 Bp6;have hC5:=hC4.put Bd8 Bp6;have hT5:=hT4.put Bd8 Bp6;have hB5:=hB4.ext Bd8 hBb;have hS5:=hS4.put Bd8 Bp6
   have B80:∀y∈Qp ⟨p.lO,p.lC,p.dO,p.dC,A38,A37⟩,cB.heap.size<=y/\y<gS.heap.size:=fun y hm=>by
    simp only[Qp,Io] at hm;rcases hm with (hm | hm) | hm
    ·exact hB4.loc.lt y hm
    ·exact hB4.RI.lt y hm
    ·exact hS4.own.lt y hm
   obtain⟨o2,c2,w2,U',uG,hG6,SL⟩:=hG5.AD2 (p:=(gi W.ID (i:Int),⟨p.lO,p.lC,p.dO,p.dC,A38,A37⟩)) Cu2 s5.ext.size ⟨(hB5.mono mH).loc,(hB5.mono mH).RI,hS5.own.mono mH⟩ (fun y hm fS=>by
     have h1:=B80 y hm;rcases Io.1 fS with h2 | h2
     ·have:=CG9 y h2; omega
     ·have:y=zM:=by simpa using h2
      omega) (fun j a b y hm fS=>by
     have:=(CP7.2 j a b y hm).2;have:=(B80 y fS).1;omega) aO (zwt _ _) (by rw[YE]; omega) Qw #[false,false]
   rw[<-znj] at U' hG6;have s6:=s5.call SL fun y hm=>(hG5.own.row.lt y hm).1
   have hC6:=hC5.call SL (hC5.own.Wb hG5.own.row Qd);have hT6:=hT5.call SL (hT5.own.Wb hG5.own.row Qd);refine⟨_,_,_,w2,U',uG,⟨Qo,Qo⟩,fun w5 SK _=>⟨⟨i+1,o2,c2,_,rfl,Qo,(s6.step SK).sub Qs,(hC6.step SK).sub Qs,(hT6.step SK).sub Qs,(hG6.step SK).sub Qs⟩,?_⟩⟩;simp only[Zo,Xl,Y5,Ig]; omega
 ·have RH:=Ou RH;have hi8:i=W.ID.length:=Qo;subst hi8;refine fun w9 kW=>⟨⟨BB0,BA9,BB2,BB1,BO1,BO0,ms⟩,?_,⟨(hC.step kW).own,(hT.step kW).own,(hG.step kW).own,bW⟩,(s1.step kW).ext⟩
  rw[YE];rfl
theorem Zb(h:Xb [] w W m)(hl:Xh W) :
  Cz QP #[.agg (Qa W m).toArray] w fun e w'=>(Qx W=false/\e=.returned (.tuple #[.agg (Qa Mi zrj).toArray,I 1])/\Q0 [] w w')\/(Qx W=true/\∃m',e=.returned (.tuple #[.agg (Qa W m').toArray,I (if QH W=true then 0 else 10)])/\Y8 8 w.heap.size w' W m'/\Q0 [] w w'):=by
 refine(Bj _ _ _ _ _ _ _ _ _ _ (R:=fun v w'=>(Qx W=false/\v=.tuple #[.agg (Qa Mi zrj).toArray,I 1]/\Q0 [] w w')\/(Qx W=true/\∃m',v=.tuple #[.agg (Qa W m').toArray,I (if QH W=true then 0 else 10)]/\Y8 8 w.heap.size w' W m'/\Q0 [] w w')) ?_).mono fun e w' ⟨v,he,h3⟩=>by
  rw[he];rcases h3 with ⟨a,hv,b⟩ | ⟨a,m',hv,b⟩
  ·exact .inl ⟨a,by rw[hv],b⟩
  ·exact .inr ⟨a,m',by rw[hv],b⟩
 intro x hx x1 So;refine⟨_,JH h hl.c hl.t hl.g hl.f,fun g wr hx=>.inl ⟨by simpa using g,rfl,hx⟩,fun g R2 R6 dX=>?_⟩;have hW:Qx W=true:=by simpa using g
 have wp:=Qi.1 hW;refine I4 (Ov (h.ext R6) wp.a) ?_;rintro e wv ⟨m',he,hM,hy⟩
 have hnb:∀y∈QD 8 m',y∉[x,x1]:=fun y hy hm=>by
  have:=(hM.lt y hy).1;have:=dX y hm;omega
 have hro:=Tj (hM.rd hnb) hl;have A86:∀w2,Q0 [x,x1] wv w2->Y8 8 w.heap.size w2 W m'/\Q0 [] w w2:=fun w2 h2=>⟨(hM.mono R6.size).ext h2 hnb,(R6.trans hy).fresh h2 fun y hm=>.inl (Yv hx So y hm)⟩
 refine⟨_,_,_,_,_,_,_,_,_,_,he,Qe hy dX,_,hro,fun g2 w2 h2=>.inr ⟨hW,m',?_,A86 w2 h2⟩,fun g2 w2 h2=>.inr ⟨hW,m',?_,A86 w2 h2⟩⟩
 ·have:¬QH W=true:=fun hr=>by
   rw[show XQ (XA W/\PM W)=true from Qi.2 ⟨wp,Qi.1 hr⟩] at g2;cases g2
  rw[C' this]; rfl
 ·have hd:XQ (XA W/\PM W)=true:=by simpa using g2
  have:QH W=true:=Qi.2 (Qi.1 hd).2;rw[E' this]; rfl
end
structure Wk (n:Nat) (bs:List Nat) (w0 w:Wo) (W:Q7) (m:MW):Prop where
 s:Sc w0 bs w
 o:OW n w0.heap.size bs w W m
section
variable {n:Nat}{bs cs:List Nat}{w0 w w':Wo}{W W':Q7}{m m':MW}{b:Nat}
theorem Wk.step(h:Wk n bs w0 w W m)(hx:Q0 bs w w'):Wk n bs w0 w' W m:=⟨h.s.step hx,h.o.step hx⟩
theorem Wk.R4(h:Wk n bs w0 w W m)(hx:Q0 [] w w'):Wk n bs w0 w' W m:=⟨h.s.R4 hx,h.o.R4 hx⟩
theorem Wk.add(h:Wk n bs w0 w W m)(hb:w.heap.size<=b):Wk n (bs++[b]) w0 w W m:=⟨h.s.add hb,h.o.add hb⟩
theorem Wk.sub(h:Wk n bs w0 w W m)(hs:∀x∈cs,x∈bs):Wk n cs w0 w W m:=⟨h.s.sub hs,h.o.sub hs⟩
theorem Wk.rd(h:Wk n bs w0 w W m):Xb bs w W m:=h.o.rd
theorem Wk.own(h:Wk n bs w0 w W m):Y8 n w0.heap.size w W m:=h.o.own
theorem Wk.nb(h:Wk n bs w0 w W m):∀x∈QD n m,x∉bs:=h.o.nb
theorem Wk.base(h:Wk n bs w0 w W m):w0.heap.size<=w.heap.size:=h.s.ext.size
theorem Wk.SX(h:Wk n bs w0 w W m)(k:Mv n w0.heap.size [] w m w' W' m')(hs:∀x∈bs,x<w.heap.size):Wk n bs w0 w' W' m':=
 ⟨h.s.call k.ext fun x hx=>(h.o.own.lt x hx).1,⟨k.own,fun x hx hm=>by
  rcases k.sub x hx with h1 | h1
  ·exact h.o.nb x h1 hm
  ·have:=hs x hm;omega⟩⟩
theorem Wk.kept(h:Wk n bs w0 w W m)(k:Mv n w0.heap.size [] w m w' W' m')(hs:∀x∈bs,x<w.heap.size):Q9 bs w w':=fun x hm=>k.ext.block x (hs x hm) fun fS=>h.o.nb x fS hm
theorem Wk.RD(h:Wk n bs w0 w W m)(k:Y8 n w0.heap.size w' W' m)(hx:Q0 (QD n m) w w'):Wk n bs w0 w' W' m:=⟨h.s.call hx fun x hx=>(h.o.own.lt x hx).1,⟨k,h.o.nb⟩⟩
theorem Wk.fin(h:Wk n bs w0 w W m):Y8 n w0.heap.size w W m/\Q0 [] w0 w:=⟨h.o.own,h.s.ext⟩
end
def QJ(r:Q7×Int)(w:Wo)(v:Va)(w':Wo):Prop:=∃n m',v=.tuple #[.agg (Qa r.1 m').toArray,I r.2]/\Y8 n w.heap.size w' r.1 m'/\Q0 [] w w'
theorem Y8.zero(base:Nat)(w:Wo):Y8 0 base w Mi zrj:=⟨.inl ⟨rfl,rfl,rfl⟩,.inl ⟨rfl,rfl,rfl⟩,⟨.inl ⟨rfl,rfl,rfl⟩,fun i a b=>by simp[zji,Mi] at b; omega,fun i j a b=>by simp[zji,Mi] at b; omega⟩,rfl⟩
section
variable {W W':Q7}{m:MW}{w:Wo}{bar:Int}
theorem QJ.bad{w':Wo}(hW:Qx W=false)(hx:Q0 [] w w'):QJ (Yp W bar W') w (.tuple #[.agg (Qa Mi zrj).toArray,I 1]) w':=by
 rw[zkf hW];exact⟨0,zrj,rfl,Y8.zero _ _,hx⟩
theorem QJ.no{n:Nat}{bs:List Nat}{w':Wo}{m':MW}(hW:Qx W=true)(hb:bar≠0)(hk:Wk n bs w w' W m'){c:Int}(hc:bar=c):QJ (Yp W bar W') w (.tuple #[.agg (Qa W m').toArray,I c]) w':=by
 rw[zkg hW hb,hc];exact⟨n,m',rfl,hk.fin⟩
theorem QJ.ok{n:Nat}{bs:List Nat}{w':Wo}{m':MW}(hW:Qx W=true)(hb:bar=0)(hk:Wk n bs w w' W' m'):QJ (Yp W bar W') w (.tuple #[.agg (Qa W' m').toArray,I 0]) w':=by
 rw[zib hW hb];exact⟨n,m',rfl,hk.fin⟩
theorem Wk.begin{x x1:Nat}{wr wv:Wo}{m':MW}(hx:w.heap.size<=x)(So:w.heap.size<=x1)(R6:Q0 [] w wr)(hs:∀y∈[x,x1],y<wr.heap.size)(hM:Y8 8 wr.heap.size wv W m')(hy:Q0 [] wr wv):Wk 8 [x,x1] w wv W m':=
 ⟨⟨R6.trans hy,Yv hx So⟩,(OW.of hM hs).mono R6.size⟩
theorem Ep{t:Int}(h:Xb [] w W m)(hl:Xh W) :
  Cz Vr #[.agg (Qa W m).toArray,I t] w fun e w'=>∃v,e=.returned v/\QJ (Yp W (Ve W t) (zdw W t)) w v w':=by
 refine E9 _ _ _ _ _ _ _ _ _ _ t (R:=fun v w'=>QJ (Yp W (Ve W t) (zdw W t)) w v w') ?_;intro x hx x1 So wr R6 SY;refine I4 (Zb (h.ext R6) hl) ?_;rintro e wv (⟨hW,he,hy⟩ | ⟨hW,m',he,hM,hy⟩)
 ·exact⟨_,_,_,_,_,_,_,_,_,_,_,he,Qe hy SY,fun _ R2 Rm=>QJ.bad hW ((R6.trans hy).fresh Rm fun y hm=>.inl (Yv hx So y hm)),fun g=>by simp at g⟩
 have hK:=Wk.begin hx So R6 SY hM hy;have hr:=hK.rd;refine⟨_,_,_,_,_,_,_,_,_,_,_,he,Qe hy SY,fun g=>by split at g <;> simp at g,fun _=>⟨_,Jc hr hl.t,fun g O' Rm=>?_,fun g=>?_⟩⟩
 ·have g:ZY W t=false:=by simpa using g
  have hb:Ve W t=2:=by unfold Ve; rw[E' g]
  exact QJ.no hW (by rw[hb]; decide) (hK.step Rm) hb
 have g:ZY W t=true:=by simpa using g
 obtain⟨t0,t1,tn⟩:=YH g;have Wz:=hr.t.ix QL t0 t1;refine⟨Wz,_,hr.t.f t0 t1 (j:=0) rfl,fun g2 Rt Rm=>?_,fun g2=>⟨fun g3 Ry Rm=>?_,fun g3=>?_⟩⟩
 ·have g2:(Q8 W t).state≠1:=by simpa[Q8] using g2
  have hb:Ve W t=6:=by unfold Ve; rw[C' (by rw[g]; decide),E' g2]
  exact QJ.no hW (by rw[hb]; decide) (hK.step Rm) hb
 ·have g2:¬(Q8 W t).state≠1:=by simpa[Q8] using g2
  have bH:¬QH W=true:=fun hr=>by rw[E' hr] at g3; simp at g3
  have hb:Ve W t=10:=by unfold Ve; rw[C' (by rw[g]; decide),C' g2,E' (by simpa using bH)]
  rw[C' bH];exact QJ.no hW (by rw[hb]; decide) (hK.step Rm) hb
 ·have g2:¬(Q8 W t).state≠1:=by simpa[Q8] using g2
  have bH:QH W=true:=Ir fun hr=>by rw[C' hr] at g3; simp at g3
  have hb:Ve W t=0:=by unfold Ve; rw[C' (by rw[g]; decide),C' g2,C' (by rw[bH]; decide)]
  obtain⟨_,_,sw,sw1⟩:=zf1 hW hb;have SP:Y8 8 w.heap.size _ (IU W t { Q8 W t with state:=2 }) m':=hK.own.AE6 t0 t1 (j:=0) (vs:=[I 2]) (x:={ Q8 W t with state:=2 }) rfl Qs;refine⟨Wz,zfv hK.own hK.nb t0 t1 Qd,fun RR SK kK=>?_⟩;have dB:=(hK.RD SP LO).step SK;have Rn:=Qu dB.own sw1 Qd Qd dB.base;have e5:Qa (IU W t { Q8 W t with state:=2 }) m'=Qa W m':=by simp[Qa,IU]
  rw[e5] at Rn;refine I4 Rn ?_;rintro e1 Rr ⟨m1,kE,cY⟩;exact⟨_,_,_,_,_,_,_,_,_,_,kE,dB.kept cY kK,fun Sn cU=>QJ.ok hW hb ((dB.SX cY kK).step cU)⟩
end
theorem zhp{α:Type}[Inhabited α]{l:List α}{i:Int}(h0:0<=i)(h1:i<(l.length:Int)):l.set i.toNat (gi l i)=l:=by
 obtain⟨k,rfl⟩:=Int.eq_ofNat_of_zero_le h0;rw[Jr Qo,Ih,List.set_getElem_self]
theorem zjr{W:Q7}{k:Int}(h0:0<=k)(h1:k<(W.ID.length:Int)):WQ W k (gi W.ID k).IT=W:=by
 show Rp W k (gi W.ID k)=W;unfold Rp;rw[zhp h0 h1]
section
variable {base:Nat}{W:Q7}{m:MW}{w:Wo}{k:Int}{b:Jj}
end
structure PW (base pb:Nat) (w:Wo) (W:Q7) (m:MW):Prop where
 own:Y8 8 base w W m
 pt:w.heap[pb]? = some (.cells (Qa W m).toArray Q3 (0,0))
 pn:pb∉QD 8 m
abbrev pA(pb:Nat):OA:=some ⟨pb,0,none⟩
structure Mp (base pb:Nat) (bs:List Nat) (w0:Wo) (m0:MW) (w:Wo) (W:Q7) (m:MW):Prop where
 v:Mv 8 base bs w0 m0 w W m
 pt:w.heap[pb]? = some (.cells (Qa W m).toArray Q3 (0,0))
 pn:pb∉QD 8 m
 pb:pb∉bs
section
variable {base pb:Nat}{bs cs:List Nat}{w0 w w':Wo}{W W':Q7}{m0 m m':MW}{b:Nat}
theorem Mp.start(h:PW base pb w W m):Mp base pb [] w m w W m:=⟨Mv.start h.own,h.pt,h.pn,Qs⟩
theorem Mp.pw(h:Mp base pb bs w0 m0 w W m):PW base pb w W m:=⟨h.v.own,h.pt,h.pn⟩
theorem Mp.step(h:Mp base pb bs w0 m0 w W m)(hx:Q0 bs w w'):Mp base pb bs w0 m0 w' W m:=⟨h.v.step hx,Zg h.pt hx h.pb,h.pn,h.pb⟩
theorem Mp.R4(h:Mp base pb bs w0 m0 w W m)(hx:Q0 [] w w'):Mp base pb bs w0 m0 w' W m:=⟨h.v.R4 hx,Zg h.pt hx Qs,h.pn,h.pb⟩
theorem Mp.wpt(h:Mp base pb bs w0 m0 w W m):Mk bs w (pA pb) W m:=⟨OE h.pt h.pb (k0:=0) fun j v hj=>by simpa using hj,h.v.rd⟩
theorem Mp.own(h:Mp base pb bs w0 m0 w W m):Y8 8 base w W m:=h.v.own
theorem Mp.nb(h:Mp base pb bs w0 m0 w W m):∀x∈QD 8 m,x∉bs:=h.v.nb
theorem PW.bG(h:PW base pb w W m)(hx:Q0 [] w w'):PW base pb w' W m:=((Mp.start h).R4 hx).pw
end
section
variable {base pb:Nat}{bs:List Nat}{w:Wo}{W:Q7}{m:MW}{k c:Int}
end
section
variable {base pb:Nat}{w:Wo}{W:Q7}{m:MW}{k c:Int}
theorem Mp.nil{w0 w:Wo}{m0:MW}(h:Mp base pb [] w0 m0 w W m){w':Wo}(hx:Q0 [] w w'):Mp base pb [] w0 m0 w' W m:=h.step hx
end
section
variable {b:Jj}{m:MG}{w:Wo}
theorem zi1(h1:zka [] w m.lO b.locals)(h2:zrg [] w m.dO b.RI)(l1:b.locals.length<=1048576)(l2:b.RI.length<=1048576) :
  Cz T0 #[.agg (Z4 b m).toArray] w fun e w'=>∃p,e=.returned (.agg (Z4 b p).toArray)/\QW w.heap.size w' b p/\Q0 [] w w':=by
 refine(B8 b.I' b.Sp b.Ww m.lO b.locals.length m.lC m.dO b.RI.length m.dC (R:=fun v w'=>∃p,v=.agg (Z4 b p).toArray/\QW w.heap.size w' b p/\Q0 [] w w') ?_).mono fun e w' ⟨v,he,p,hv,h3⟩=>⟨p,by rw[he,hv],h3⟩
 have hm9:=Zc;intro x hx x5 SK wr uV hs0;have s0:Sc w [x,x5] wr:=(((Sc.start w).add hx).add SK).R4 uV;refine⟨_,_,_,_,PI ZO Uo b.locals.length Qo Qo wr,Qe (QZ _ _) hs0,fun R2 So dX=>?_⟩;have hL0:Ob YR 1 Qb wr.heap.size [x,x5] _ (some ⟨wr.heap.size,0,none⟩) b.locals.length (List.replicate b.locals.length (0:Int)):=Ob.of (Uk (enc:=YR) ZO.len Qb b.locals.length (0:Int) wr) hs0;have s1:=(s0.R4 (QZ wr (.cells ((List.replicate b.locals.length (0:Int)).flatMap YR).toArray Qb))).step So;have hL1:=hL0.step So;obtain⟨n1,w2,A90,hL2,cY⟩:=zln ZO Uo zvm Qd (c2:=m.lC) hL1.own (h1.ext s1.ext) (m:=b.locals) Qs Qb #[false,false];rw[List.length_replicate] at A90;have s2:=s1.call cY fun y hy=>IB s0.ext.size (hL1.own.lt y hy).1
 have Cm7:Ob YR 1 Qb wr.heap.size [x,x5] w2 (some ⟨wr.heap.size,0,none⟩) b.locals.length b.locals:=⟨hL2,hL1.nb⟩;refine⟨_,_,A90,KH cY dX hL1.nb,fun O' R6 SY=>⟨_,_,_,_,PI Yy Mf b.RI.length Qo Qo O',Qe (QZ _ _) SY,fun Rt Rm gZ=>?_⟩⟩;have s3:=((s2.step R6).R4 (QZ O' (.cells ((List.replicate b.RI.length false).flatMap OH).toArray ZQ))).step Rm;have hL3:=((Cm7.step R6).R4 (QZ O' (.cells ((List.replicate b.RI.length false).flatMap OH).toArray ZQ))).step Rm;have hD0:Ob OH 1 ZQ O'.heap.size [x,x5] _ (some ⟨O'.heap.size,0,none⟩) b.RI.length (List.replicate b.RI.length false):=Ob.of (Uk (enc:=OH) Yy.len ZQ b.RI.length false O') SY;have hD1:=hD0.step Rm;obtain⟨n2,w4,A91,hD2,SL⟩:=zln Yy Mf zws Qd (c2:=m.dC) hD1.own (h2.ext s3.ext) (m:=b.RI) Qs Qb #[false,false];rw[List.length_replicate] at A91;have hz2:w.heap.size<=O'.heap.size:=(s2.step R6).ext.size;have s4:=s3.call SL fun y hy=>IB hz2 (hD1.own.lt y hy).1
 have hL4:=hL3.call SL (hL3.own.Wb hD1.own Qd);have hD3:Ob OH 1 ZQ O'.heap.size [x,x5] w4 (some ⟨O'.heap.size,0,none⟩) b.RI.length b.RI:=⟨hD2,hD1.nb⟩;exact⟨_,_,A91,KH SL gZ hD1.nb,fun Ry SZ=>⟨⟨some ⟨wr.heap.size,0,none⟩,b.locals.length,some ⟨O'.heap.size,0,none⟩,b.RI.length,none,0⟩,rfl,⟨(hL4.step SZ).own.mono s0.ext.size,(hD3.step SZ).own.mono hz2⟩,(s4.step SZ).ext⟩⟩
end
theorem Di{α:Type}[Inhabited α]{P:Program}{enc:α->List Va}{z:Nat}{ty t:TypeId}{bytes:Nat}{zero:α}(E:zj7 P enc z ty bytes zero)(ht:P.underlying t=some (.slice ty))(Br3:∀x,Zd (enc x)=true)(hz0:0<z){w:Wo}{o:OA}{c:Nat}{l:List α}(h:Rd enc z [] w o l)(hl:l.length<=1048576)(hby:bytes<=1000)(tr:TypeId)(cs:Array Bool) :
  ∃o' c' w',(builtin .append #[t,t] tr cs #[.slice none 0 0,.slice o l.length c]).run P w=.ok (.value (.slice o' l.length c')) w'/\XU enc z ty w.heap.size w' o' c' l/\Q0 [] w w':=by
 have hO:XU enc z ty w.heap.size w none 0 ([]:List α):=.inl ⟨rfl,rfl,rfl⟩
 have hbb:(2*(([]:List α).length+l.length))*bytes<=281474976710656:=by
  rw[List.length_nil,Nat.zero_add];exact IB (Nat.mul_le_mul (show 2*l.length<=2097152 by omega) hby) Qd
 obtain⟨o',c',w',h1,h2,h3,_⟩:=zlm E ht hO (zqv E.len Br3 ht h (c:=c) hz0) hbb (by rw[List.length_nil]; omega) tr (I8 _);rw[List.length_nil,Nat.zero_add] at h1;exact⟨o',c',w',NV h1,h2,h3⟩
theorem zhe(W:Q7)(ms:Nat->MG)(n k:Nat)(hk:k<n)(p:MG):(VR W ms n).set k (gi W.ID (k:Int),p)=VR W (fun j=>if j=k then p else ms j) n:=by
 refine ziw (by rw[H',YE,YE]) fun j hj=>?_
 rw[H',YE] at hj;have:=QC (VR W ms n) (gi W.ID (k:Int),p) (i:=(k:Int)) Qo (by rw[YE]; omega) (j:=(j:Int)) Qo;rw[Ih] at this;rw[this,Ll Qo Qo,Ll Qo Qo]
 by_cases e:k=j
 ·subst e; simp
 ·rw[C' Qo,C' (by simp; omega)]
theorem zjh(W:Q7){ms ms':Nat->MG}{n:Nat}(h:∀j,j<n->ms j=ms' j):VR W ms n=VR W ms' n:=by
 unfold VR;exact List.map_congr_left fun j hj=>by rw[h j (List.mem_range.1 hj)]
section
variable {W:Q7}{m:MW}{w:Wo}
theorem Fh(h:Xb [] w W m)(ha:WA W) :
  Cz Jm #[.agg (Qa W m).toArray] w fun e w'=>∃m',e=.returned (.agg (Qa W m').toArray)/\Y8 8 w.heap.size w' W m'/\Q0 [] w w':=by
 refine(E6 _ _ _ _ _ _ _ _ _ _ (R:=fun v w'=>∃m',v=.agg (Qa W m').toArray/\Y8 8 w.heap.size w' W m'/\Q0 [] w w') ?_).mono fun e w' ⟨v,he,m',hv,h3⟩=>⟨m',by rw[he,hv],h3⟩
 have qW:=ha.c2;have jV:=ha.t;have bW:=ha.gl;intro x hx x1 So x2 R6 wr uV hs0;have s0:Sc w [x,x1,x2] wr:=((((Sc.start w).add hx).add So).add R6).R4 uV;obtain⟨cO,cC,w1,A90,hC1,cY⟩:=Di Mw PK zvl Qd (c:=m.cC) (h.c.ext s0.ext) Qo Qd Zj #[false,false];refine⟨_,_,_,_,A90,Qe cY hs0,fun R2 CW2 dX=>?_⟩;have s1:=(s0.R4 cY).step CW2;have hC2:=(Ob.of hC1 hs0).step CW2;obtain⟨tO,tC,w2,A91,hT1,SL⟩:=Di TG Pa zwu Qd (c:=m.tC) (h.t.ext s1.ext) Qo Qd QT #[false,false];refine⟨_,_,_,_,A91,Qe SL dX,fun O' CH7 SY=>?_⟩;have s2:=(s1.R4 SL).step CH7;have hC3:=(hC2.R4 SL).step CH7;have hT3:=(Ob.of hT1 dX).step CH7
 have hrp:Rd VP 14 [] O' m.gO (VR W m.ms 8):=fun i h0 hi=>by
  rw[YE] at hi;rw[Ll h0 hi];exact(h.g.ext s2.ext).cells i h0 Qo
 obtain⟨gO,gC,w3,Br7,hG1,jW⟩:=Di ZR Od (fun p=>zwt p.1 p.2) Qd (c:=m.gC) hrp (by rw[YE]; decide) Qd Qw #[false,false];rw[YE] at Br7;have Br8:(builtin .append #[Qw,Qw] Qw #[false,false] #[.slice none 0 0,.slice m.gO W.ID.length m.gC]).run Tryz.prog O'=.ok (.value (.slice gO W.ID.length gC)) w3:=by rw[bW]; exact Br7
 have z1:w.heap.size<=R2.heap.size:=s1.ext.size;have z2:w.heap.size<=O'.heap.size:=s2.ext.size;have s3:=s2.R4 jW;have hC4:=(hC3.R4 jW).mono s0.ext.size;have hT4:=(hT3.R4 jW).mono z1;have hG4:=Ob.of hG1 SY
 refine⟨_,_,_,_,Br8,Qe jW SY,fun vs w4=>∃(k:Nat) (ms:Nat->MG),vs=[I (k:Int)]/\k<=8/\Sc w [x,x1,x2] w4/\O'.heap.size<=w4.heap.size/\Ob Mx 5 Zq w.heap.size [x,x1,x2] w4 cO cC W.IE/\Ob YT 9 QN w.heap.size [x,x1,x2] w4 tO tC W.tasks/\Ob VP 14 QG O'.heap.size [x,x1,x2] w4 gO gC (VR W ms 8)
   /\ (∀j,j<k->Ol O'.heap.size w4 (gi W.ID (j:Int),ms j)/\∀y∈Qp (ms j),y∉[x,x1,x2])/\(∀i j,i<k->j<k->i≠j->∀y∈Qp (ms i),y∉Qp (ms j))/\(∀j,k<=j->ms j=m.ms j),
  Zo W.ID.length 0,fun w4 SZ _=>⟨0,m.ms,rfl,Qd,s3.step SZ,IB jW.size SZ.size,hC4.step SZ,hT4.step SZ,hG4.step SZ,fun j hj=>by omega,fun i j hi=>by omega,fun j _=>rfl⟩,?_⟩
 clear s3 hC4 hT4 hG4 hG1 hrp Br7 Br8 hC3 hT3 hC2 hT1 A90 A91 hC1;rintro x9 Sk gZ ⟨k,ms,he,hk,s3,z3,hC,hT,hG,hE,hJ,hF⟩;simp only[I5,I6,true_and,and_true] at he;subst he;refine⟨fun IQ=>?_,fun RH=>?_⟩
 ·have IQ:=Ot IQ;have hrb:Mj [x,x1,x2] Sk m.gO W.ID m.ms:=(h.g.wide (cs:=[x,x1,x2]) fun y hm=>.inr (s3.new y hm)).ext s3.ext.of_nil;have Wz:=hrb.ix (i:=(k:Int)) Qo IQ;obtain⟨bl1,bl2,bl3⟩:=PP ha (k:=(k:Int)) Qo Qo;refine⟨Wz,_,_,_,_,_,_,_,_,_,_,_,_,_,_,_,_,_,_,_,_,hrb.cells (k:Int) Qo IQ,fun b3 hb3 Ry SZ fU=>?_⟩;have s4:=s3.put SZ hb3;have hC4:=hC.put SZ hb3;have hT4:=hT.put SZ hb3;have hG4:=hG.put SZ hb3;have hr4:=h.g.ext s4.ext;have z4:O'.heap.size<=Ry.heap.size:=IB z3 SZ.size;refine I4 (zi1 (hr4.locals (k:Int) Qo IQ) (hr4.RI (k:Int) Qo IQ) Qo Qo) ?_;rintro e bI ⟨p,he,hB,kR⟩;have s5:=s4.R4 kR;have hC5:=hC4.R4 kR;have hT5:=hT4.R4 kR;have hG5:=hG4.R4 kR;have rO:gi (VR W ms 8) (k:Int)=(gi W.ID (k:Int),ms k):=by rw[Ll Qo Qo,Ih]
  have hmk:ms k=m.ms k:=hF k (I8 _);have hBn:∀y∈Zz p,Ry.heap.size<=y:=fun y hm=>(hB.lt y hm).1
  have e1:=hG5.own.RD ZR.len (i:=(k:Int)) Qo (by rw[YE]; omega) (j:=8) (vs:=Z4 (gi W.ID (k:Int)).IT p) (x:=(gi W.ID (k:Int),VS (ms k) p)) (by rw[rO]; rfl) (by simp[Z4]);have CR9:=hG5.own.ix (i:=(k:Int)) Qo (by rw[YE]; omega);have CS2:=hG5.own.wr ZR.len hG5.nb (i:=(k:Int)) Qo (by rw[YE]; omega) (j:=8) (n:=5) Qd;rw[YE] at CR9;have B71:Ix gO W.ID.length (k:Int):=by rw[bW]; exact CR9
  simp only[Ih] at e1 CS2;rw[zhe W ms 8 k Qo] at e1;refine⟨_,_,_,_,_,_,_,_,_,he,Qe kR fU,rfl,B71,CS2,fun RR SK kK=>?_⟩;have hX5:=hG5.own.rJ (k*14+8) (Z4 (gi W.ID (k:Int)).IT p);have s6:=(s5.call hX5 fun y hy=>IB z2 (hG5.own.lt y hy).1).step SK;have hC6:=(hC5.call hX5 (hC5.own.Wb hG5.own Qd)).step SK;have hT6:=(hT5.call hX5 (hT5.own.Wb hG5.own Qd)).step SK;have hG6:Ob VP 14 QG O'.heap.size ([x,x1,x2]++[b3]) RR gO gC (VR W (fun j=>if j=k then VS (ms k) p else ms j) 8):=(⟨e1,hG5.nb⟩:Ob VP 14 QG O'.heap.size ([x,x1,x2]++[b3]) _ gO gC _).step SK
  have B02:∀y∈Zz p,y∉[x,x1,x2]++[b3]:=fun y hm fS=>by
   have:=hBn y hm;have:=fU y fS;omega
  have hBg:∀y∈Zz p,y∉Qy gO:=fun y hm fS=>by
   have:=hBn y hm;have:=(hG4.own.lt y fS).2;omega
  have hB6:=(hB.ext hX5 hBg).ext SK B02;have z5:Ry.heap.size<=RR.heap.size:=IB (IB kR.size hX5.size) SK.size;obtain⟨sO,sC,w6,CV1,hS6,hy6⟩:=Di UZ Oe zvn Qd (c:=(m.ms k).sC) ((h.g.ext s6.ext).IF (k:Int) Qo IQ) Qo Qd Z0 #[true,false];have s7:=s6.R4 hy6;have hC7:=hC6.R4 hy6;have hT7:=hT6.R4 hy6;have hG7:=hG6.R4 hy6;have hB7:=hB6.bG hy6
  have Cq3:gi (VR W (fun j=>if j=k then VS (ms k) p else ms j) 8) (k:Int)=(gi W.ID (k:Int),VS (ms k) p):=by
   rw[Ll Qo Qo,Ih,E' rfl]
  have e2:=hG7.own.RD ZR.len (i:=(k:Int)) Qo (by rw[YE]; omega) (j:=13) (vs:=[.slice sO (gi W.ID (k:Int)).IF.length sC]) (x:=(gi W.ID (k:Int),⟨p.lO,p.lC,p.dO,p.dC,sO,sC⟩)) (by rw[Cq3]; rfl) Qs;have B72:=hG7.own.wr ZR.len hG7.nb (i:=(k:Int)) Qo (by rw[YE]; omega) (j:=13) (n:=1) Qd;simp only[Ih] at e2 B72;rw[zhe _ _ 8 k Qo] at e2
  have Cs3:VR W (fun j=>if j=k then (⟨p.lO,p.lC,p.dO,p.dC,sO,sC⟩:MG) else if j=k then VS (ms k) p else ms j) 8=VR W (fun j=>if j=k then (⟨p.lO,p.lC,p.dO,p.dC,sO,sC⟩:MG) else ms j) 8:=zjh W fun j _=>by
   by_cases e:j=k
   ·rw[E' e,E' e]
   ·rw[C' e,C' e,C' e]
  rw[Cs3] at e2;have hX7:=hG7.own.rJ (k*14+13) [.slice sO (gi W.ID (k:Int)).IF.length sC];refine⟨_,_,_,_,CV1,Qe hy6 kK,rfl,B71,B72,⟨Qo,Qo⟩,fun w9 kW _=>⟨⟨k+1,fun j=>if j=k then (⟨p.lO,p.lC,p.dO,p.dC,sO,sC⟩:MG) else ms j,rfl,Qo,?_,?_,?_,?_,?_,?_,?_,?_⟩,?_⟩⟩
  ·exact((s7.call hX7 fun y hy=>IB z2 (hG7.own.lt y hy).1).step kW).sub Qs
  ·exact IB (IB (IB (IB z4 z5) hy6.size) hX7.size) kW.size
  ·exact((hC7.call hX7 (hC7.own.Wb hG7.own Qd)).step kW).sub Qs
  ·exact((hT7.call hX7 (hT7.own.Wb hG7.own Qd)).step kW).sub Qs
  ·exact((⟨e2,hG7.nb⟩:Ob VP 14 QG O'.heap.size ([x,x1,x2]++[b3]) _ gO gC _).step kW).sub Qs
  ·intro j hj;have hSn:∀y∈Qy sO,RR.heap.size<=y:=fun y hm=>(hS6.lt y hm).1
   by_cases e:j=k
   ·subst e;simp only[if_true]
    have CQ3:∀y∈Qy sO,y∉[x,x1,x2]++[b3]:=fun y hm fS=>by
     have:=hSn y hm;have:=kK y fS;omega
    have hO9:Ol O'.heap.size w9 (gi W.ID (j:Int),⟨p.lO,p.lC,p.dO,p.dC,sO,sC⟩):=by
     have hB9:=((hB7.ext hX7 hBg).ext kW B02).mono z4;exact⟨hB9.loc,hB9.RI,(((hS6.ext hX7 (hS6.Wb hG7.own Qd)).ext kW CQ3)).mono (IB z4 z5)⟩
    refine⟨hO9,fun y hm fS=>?_⟩;have CG0:y∈[x,x1,x2]++[b3]:=Ib _ fS;simp only[Qp,Io] at hm;rcases hm with (hm | hm) | hm
    ·exact B02 y (Ib _ hm) CG0
    ·exact B02 y (Iy _ hm) CG0
    ·exact CQ3 y hm CG0
   ·dsimp only
    rw[C' e];obtain⟨hm1,hm2⟩:=hE j Qo;refine⟨?_,hm2⟩
    have CT8:∀y∈Qp (ms j),y∉[x,x1,x2]++[b3]:=fun y hm fS=>by
     rcases Io.1 fS with h1 | h1
     ·exact hm2 y hm h1
     ·have:y=b3:=by simpa using h1
      have:=(hm1.lt y hm).2;omega
    have hgg:∀y∈Qp (ms j),y∉Qy gO:=Xr (p:=(gi W.ID (j:Int),ms j)) hG.own hm1;exact((((((hm1.ext SZ hm2).bG kR).ext hX5 hgg).ext SK CT8).bG hy6).ext hX7 hgg).ext kW CT8
  ·intro i j hi hj hij y hm fS
   dsimp only at hm fS
   have oA:∀y∈Qp (⟨p.lO,p.lC,p.dO,p.dC,sO,sC⟩:MG),Ry.heap.size<=y:=fun y hm=>by
    simp only[Qp,Io] at hm;rcases hm with (hm | hm) | hm
    ·exact hBn y (Ib _ hm)
    ·exact hBn y (Iy _ hm)
    ·exact IB z5 (hS6.lt y hm).1
   have hold:∀j,j<k->∀y∈Qp (ms j),y<Ry.heap.size:=fun j hj y hm=>Nat.lt_of_lt_of_le ((hE j hj).1.lt y hm).2 SZ.size
   by_cases e1:i=k
   ·rw[E' e1] at hm
    by_cases e2:j=k
    ·omega
    ·rw[C' e2] at fS;have:=oA y hm;have:=hold j Qo y fS;omega
   ·rw[C' e1] at hm
    by_cases e2:j=k
    ·rw[E' e2] at fS;have:=oA y fS;have:=hold i Qo y hm;omega
    ·rw[C' e2] at fS;exact hJ i j Qo Qo hij y hm fS
  ·intro j hj
   dsimp only
   rw[C' Qo];exact hF j Qo
  ·simp only[Zo,Xl,Y5,Ig]; omega
 ·have RH:=Ou RH;have hk8:k=8:=Qo;subst hk8;refine fun w9 kW=>⟨⟨cO,cC,tO,tC,gO,gC,ms⟩,rfl,⟨(hC.step kW).own,(hT.step kW).own,?_,bW⟩,(s3.step kW).ext⟩
  have e:zji W ⟨cO,cC,tO,tC,gO,gC,ms⟩=VR W ms 8:=by unfold zji VR; rw[bW]
  rw[e]
  have hgi:∀i:Int,0<=i->i<((VR W ms 8).length:Int)->i.toNat<8/\gi (VR W ms 8) i=(gi W.ID ((i.toNat:Nat):Int),ms i.toNat):=fun i a b=>by
   rw[YE] at b;refine⟨Qo,?_⟩;rw[Ll a b,show ((i.toNat:Nat):Int)=i by omega]
  refine⟨(hG.step kW).own.mono z2,fun i a b=>?_,fun i j a b a' b' hij=>?_⟩
  ·obtain⟨c1,c2⟩:=hgi i a b;rw[c2];exact((hE _ c1).1.ext kW (hE _ c1).2).mono z2
  ·obtain⟨c1,c2⟩:=hgi i a b;obtain⟨d1,d2⟩:=hgi j a' b';rw[c2,d2];exact hJ _ _ c1 d1 Qo
end
end Go.Proofs.YtnclplgaicdapaaGreatDoor
