/- Part 12 of what the law FnParts needs. -/
import Derived.Test.YtjinkcmkgnofjaaGreatDoorFnPartsPk
import Derived.Laws.BytesArg
set_option linter.all false
set_option maxRecDepth 100000
set_option maxHeartbeats 8000000
namespace Go.Proofs.YtjinkcmkgnofjaaGreatDoor
open Go.RowKit
def Ab{α:Type}[Inhabited α]{l:List α}{i:Int}(h0:0<=i)(h1:i<(l.length:Int)):l.set i.toNat (gi l i)=l:=by
 obtain⟨k,rfl⟩:=Int.eq_ofNat_of_zero_le h0;rw[Ju Qo,Ig,List.set_getElem_self]
def z77(G:ZD)(K:Int):Int:=K+1+1+1+1+1+1+1+1+1+1+1+1*(G.IL.locals.length:Int)+1*(G.IL.Ry.length:Int)+5*(G.IH.length:Int)
def gK(gs:List ZD)(k:Int):Nat->Int
 |0=>k
 |i+1=>z77 (gi gs (i:Int)) (gK gs k i)
section
variable {n base:Nat}{W:Q7}{m:MW}{w w':Wo}{G G':ZD}{i:Int}
end
def kC(W:Q7):Int:=1+5*(W.IF.length:Int)
def kT(W:Q7):Int:=kC W+9*(W.IJ.length:Int)
def mK(W:Q7):Int:=gK W.IE (kT W) W.IE.length
section
variable {n base:Nat}{W:Q7}{m:MW}{w w':Wo}{bs:List Nat}
end
def BF:PS:=⟨0,0,0,0,0,0,0,0,0⟩
def Z6(W:Q7)(t:Int):Q7:=if (gi W.IF (Q8 W t).R1).cur=t then Rc W (Q8 W t).R1 else W
noncomputable def Oh(W:Q7)(t:Int):Int:=if Yn W t=false then 2 else if QO W=false then 10 else 0
def FH(W:Q7)(t:Int):Q7:=Qb (J' (Z6 W t) t BF)
def zn4{K:Int}{W:Q7}(h:SW K W){t:Int}(t0:0<=t)(t1:t<12)(n:(Q8 W t).state≠0):SW K (Z6 W t):=by
 unfold Z6;split
 ·exact h.Rc (h.t t t0 t1 n).2.1 (h.t t t0 t1 n).2.2
 ·exact h
def zyl(W:Q7)(t:Int):(Z6 W t).IE=W.IE:=by unfold Z6;split <;> rfl
def za5{W:Q7}{t:Int}(hW:Qr W)(hb:Oh W t=0):Yn W t/\QO W/\SW Ql W/\SW Ql (J' W t BF)/\SW Ql (J' (Z6 W t) t BF):=by
 have wp:=Qm.1 hW;unfold Oh at hb
 split at hb
 ·cases hb
 ·rename_i h1
  split at hb
  ·cases hb
  ·rename_i h3;have h1:Yn W t:=by simpa using h1
   have h3:QO W:=by simpa using h3
   have sw:=MS wp (Qm.1 h3);obtain⟨t0,t1,n⟩:=Y7 h1;have hl:=wp.a.t;exact⟨h1,h3,sw,sw.J' t0 Qo (λh=>Ir rfl h) Qd Qd,(zn4 sw t0 Qo n).J' t0 Qo (λh=>Ir rfl h) Qd Qd⟩
section
variable {W:Q7}{m:MW}{w:Wo}{bar:Int}
def q9{t:Int}(h:XV [] w W m)(hl:VB W) :
  Cz Ox #[.agg (Qc W m).toArray,I t] w λe w'=>∃v,e=.returned v/\QX (Yz W (Oh W t) (FH W t)) w v w':=by
 refine CH _ _ _ _ _ _ _ _ _ _ t (R:=λv w'=>QX (Yz W (Oh W t) (FH W t)) w v w') ?_;intro x hx x1 S9 wr Rk V';refine I3 (Zn (h.ext Rk) hl) ?_;rintro e wv (⟨hW,he,hy⟩|⟨hW,m',he,hM,hy⟩)
 ·exact⟨_,_,_,_,_,_,_,_,_,_,_,he,Qi hy V',λ_ R5 Rl=>QX.bad hW ((Rk.trans hy).fresh Rl λy hm=>.inl (YM hx S9 y hm)),λg=>by simp at g⟩
 have hK:=Wk.begin hx S9 Rk V' hM hy;have hr:=hK.rd;refine⟨_,_,_,_,_,_,_,_,_,_,_,he,Qi hy V',λg=>by split at g <;> simp at g,λ_=>⟨_,JU hr hl.t,λg R6 Rl=>?_,λg=>?_⟩⟩
 ·have g:Yn W t=false:=by simpa using g
  have hb:Oh W t=2:=by unfold Oh;rw[C' g]
  exact QX.no hW (by rw[hb];decide) (hK.step Rl) hb
 have g:Yn W t:=by simpa using g
 obtain⟨t0,t1,tn⟩:=Y7 g;have Wn:=hr.t.ix QT t0 t1;refine⟨λg3 RE Rl=>?_,λg3=>?_⟩
 ·have bM:¬QO W:=λhr=>by rw[C' hr] at g3;simp at g3
  have hb:Oh W t=10:=by unfold Oh;rw[B' (by rw[g];decide),C' (by simpa using bM)]
  rw[B' bM];exact QX.no hW (by rw[hb];decide) (hK.step Rl) hb
 have bM:QO W:=Iq λhr=>by rw[B' hr] at g3;simp at g3
 have hb:Oh W t=0:=by unfold Oh;rw[B' (by rw[g];decide),B' (by rw[bM];decide)]
 obtain⟨_,_,sw,sw1,sw2⟩:=za5 hW hb;obtain⟨_,c0,c1⟩:=sw.t t t0 (by have:=sw.a.t;omega) tn;have SS:Zp 8 w.heap.size (Rw wv m'.tO (Int.toNat t*9) (Xc BF)) (J' W t BF) m':=hK.own.AF3 t0 t1 (j:=0) (vs:=Xc BF) (x:=BF) rfl Qd;have hKs:=hK.Rw SS Hx;have e5:∀mm,Qc (J' W t BF) mm=Qc W mm:=λmm=>by simp[Qc,J']
 refine⟨Wn,_,hr.t.f t0 t1 (j:=2) rfl,Wn,ztu hK.own hK.nb t0 t1 (j:=0) Qd,hr.c.ix Y1 c0 c1,_,hKs.rd.c.f c0 c1 (j:=1) rfl,λg4 RQ Su fK=>?_,λg4 RQ Su fK=>?_⟩
 ·have g4:(gi (J' W t BF).IF (Q8 W t).R1).cur=t:=by simpa using g4
  have hE:FH W t=Qb (Rc (J' W t BF) (Q8 W t).R1):=by unfold FH Z6;rw[C' (show (gi W.IF (Q8 W t).R1).cur=t from g4)];rfl
  rw[hE];have dZ:=hKs.step Su;have RA:=ZS dZ.own c0 c1;rw[e5] at RA;refine I3 RA ?_;rintro e1 Rb ⟨kB,cW⟩;refine⟨_,_,_,_,_,_,_,_,_,_,kB,dZ.kept cW fK,λSj bE hs6=>?_⟩;have vB:=(dZ.Ss cW fK).step bE;refine I3 (QA vB.own (sw1.Rc c0 c1) Qd Qd vB.base) ?_;rintro e2 RI ⟨m1,bH,SQ⟩;exact⟨_,_,_,_,_,_,_,_,_,_,bH,vB.kept SQ hs6,λSw eQ=>QX.ok hW hb ((vB.Ss SQ hs6).step eQ)⟩
 ·have g4:¬(gi (J' W t BF).IF (Q8 W t).R1).cur=t:=by simpa using g4
  have hE:FH W t=Qb (J' W t BF):=by unfold FH Z6;rw[B' (show ¬(gi W.IF (Q8 W t).R1).cur=t from g4)]
  rw[hE];have dZ:=hKs.step Su;have RA:=QA dZ.own sw1 Qd Qd dZ.base;rw[e5] at RA;refine I3 RA ?_;rintro e2 RI ⟨m1,bH,SQ⟩;exact⟨_,_,_,_,_,_,_,_,_,_,bH,dZ.kept SQ fK,λSw eQ=>QX.ok hW hb ((dZ.Ss SQ fK).step eQ)⟩
end
abbrev Ke(W:Q7)(t n:Int):Int:=(Qa W (Q8 W t).II (Q8 W t).R1).IM+Yg ((Q8 W t).v-(Qa W (Q8 W t).II (Q8 W t).R1).IM) (Qf n)
def XI(W:Q7)(t n:Int):PS:={ Q8 W t with nice:=n,v:=if (Q8 W t).state=1 then Ke W t n else (Q8 W t).v }
noncomputable def Pg(W:Q7)(t n:Int):Int:=if Qf n=0 then 1 else Oh W t
def Lg(W:Q7)(t n:Int):Q7:=Qb (if (Q8 W t).state=1 then Z6 (J' W t (XI W t n)) t else J' W t (XI W t n))
def zs1{W:Q7}{t n:Int}(h:(Q8 W t).state=1):XI W t n={ Q8 W t with nice:=n,v:=Ke W t n }:=by unfold XI;rw[C' h]
def zs0{W:Q7}{t n:Int}(h:¬(Q8 W t).state=1):XI W t n={ Q8 W t with nice:=n }:=by unfold XI;rw[B' h]
def HB{W:Q7}{t:Int}{x:PS}(t0:0<=t)(t1:t<(W.IJ.length:Int)):Q8 (J' W t x) t=x:=by
 show gi (W.IJ.set t.toNat x) t=x;rw[Qx _ _ t0 t1 t0,C' rfl]
def set_set{W:Q7}{t:Int}{x y:PS}:J' (J' W t x) t y=J' W t y:=by simp[J']
abbrev K1:Int:=Ql+Qh
structure z54 (W:Q7) (t n:Int):Prop where
 th:Yn W t=true
 room:QO W=true
 sw:SW Ql W
 f:(Q8 W t).state=1->0<=(Qa W (Q8 W t).II (Q8 W t).R1).IM/\(Qa W (Q8 W t).II (Q8 W t).R1).IM<=Ql/\0<=Ke W t n/\Ke W t n<=K1
 s1:SW K1 (J' W t (XI W t n))
 s2:SW K1 (Z6 (J' W t (XI W t n)) t)
def zl5{W:Q7}{t n:Int}(hW:Qr W)(hb:Pg W t n=0):z54 W t n:=by
 have hw:¬Qf n=0:=λh=>by unfold Pg at hb;rw[C' h] at hb;cases hb
 have hb:Oh W t=0:=by unfold Pg at hb;rwa[B' hw] at hb
 obtain⟨h1,h3,sw,_,_⟩:=za5 hW hb;obtain⟨t0,t1,tn⟩:=Y7 h1;have hl:=sw.a.t;have hg:=sw.t t t0 Qo tn;have hv:=sw.tv t t0 Qo;have hf:=sw.s _ _ hg.1 hg.2.1 hg.2.2;have lc:=ZF ((Q8 W t).v-(Qa W (Q8 W t).II (Q8 W t).R1).IM) (Qf n);have lm:=ZN (Qf n);have f:0<=Ke W t n/\Ke W t n<=K1:=by unfold Ke;simp only[K1,Qh];omega
 have f1:0<=(XI W t n).v/\(XI W t n).v<=K1:=by
  unfold XI
  dsimp only
  split
  ·exact f
  ·simp only[K1,Qh];omega
 have s1:SW K1 (J' W t (XI W t n)):=(sw.mono Qd).J' t0 Qo (λ_=>hg) f1.1 f1.2;exact⟨h1,h3,sw,λ_=>⟨hf.1,hf.2.1,f⟩,s1,zn4 s1 t0 Qo (by rw[HB t0 t1];exact tn)⟩
section
variable {W:Q7}{m:MW}{w:Wo}{bar:Int}
def DQ{bs:List Nat}{t:Int}(h:XV bs w W m)(t0:0<=t)(t1:t<(W.IJ.length:Int))(g0:0<=(Q8 W t).II)(g1:(Q8 W t).II<(W.IE.length:Int))(c0:0<=(Q8 W t).R1)(c1:(Q8 W t).R1<((gi W.IE (Q8 W t).II).IH.length:Int))(hr:Qp .i64 ((Q8 W t).v-(Qa W (Q8 W t).II (Q8 W t).R1).IM)) :
  PX bs TB #[.agg (Qc W m).toArray,I t] w (I (Yg ((Q8 W t).v-(Qa W (Q8 W t).II (Q8 W t).R1).IM) (Qf (Q8 W t).nice))):=
 zh8 _ _ _ _ _ _ _ _ _ _ t λwr hx=>by
  have h:=(h.ext hx).less (cs:=[]) Qs;intro b hb;exact⟨h.t.ix QT t0 t1,_,_,_,_,_,_,_,_,_,h.t t t0 t1,λb1 bY=>⟨h.g.ix g0 g1,_,_,_,h.g.Rn g0 g1,(h.g.IH _ g0 g1).ix YT c0 c1,_,(h.g.IH _ g0 g1).f c0 c1 (j:=0) rfl,hr,_,Yc,_,KD,rfl⟩⟩
def k9{t n:Int}(h:XV [] w W m)(hl:VB W) :
  Cz Oz #[.agg (Qc W m).toArray,I t,I n] w λe w'=>∃v,e=.returned v/\QX (Yz W (Pg W t n) (Lg W t n)) w v w':=by
 refine CM _ _ _ _ _ _ _ _ _ _ t n (R:=λv w'=>QX (Yz W (Pg W t n) (Lg W t n)) w v w') ?_;intro x hx x1 S9 wr Rk V';refine I3 (Zn (h.ext Rk) hl) ?_;rintro e wv (⟨hW,he,hy⟩|⟨hW,m',he,hM,hy⟩)
 ·exact⟨_,_,_,_,_,_,_,_,_,_,_,he,Qi hy V',0,λg=>by simp at g,λ_ R5 Rl=>QX.bad hW ((Rk.trans hy).fresh Rl λy hm=>.inl (YM hx S9 y hm)),λg=>by simp at g⟩
 have hK:=Wk.begin hx S9 Rk V' hM hy;have hr:=hK.rd;have sR:((if QO W=true then 0 else 10:Int)==1)=false:=by split <;> rfl
 refine⟨_,_,_,_,_,_,_,_,_,_,_,he,Qi hy V',_,λ_=>Yc (n:=n),λg R5 Rl=>?_,λg0=>⟨_,JU hr hl.t,λg R6 Rl=>?_,λg=>?_⟩⟩
 ·rw[sR] at g;have g:Qf n=0:=by simpa using g
  have hb:Pg W t n=1:=by unfold Pg;rw[C' g]
  exact QX.no hW (by rw[hb];decide) (hK.step Rl) hb
 ·rw[sR] at g0;have g0:¬Qf n=0:=by simpa using g0
  have g:Yn W t=false:=by simpa using g
  have hb:Pg W t n=2:=by unfold Pg Oh;rw[B' g0,C' g]
  exact QX.no hW (by rw[hb];decide) (hK.step Rl) hb
 rw[sR] at g0;have gw:¬Qf n=0:=by simpa using g0
 have g:Yn W t:=by simpa using g
 obtain⟨t0,t1,tn⟩:=Y7 g;have Wn:=hr.t.ix QT t0 t1;refine⟨λg3 RE Rl=>?_,λg3=>?_⟩
 ·have bM:¬QO W:=λhr=>by rw[C' hr] at g3;simp at g3
  have hb:Pg W t n=10:=by unfold Pg Oh;rw[B' gw,B' (by rw[g];decide),C' (by simpa using bM)]
  rw[B' bM];exact QX.no hW (by rw[hb];decide) (hK.step Rl) hb
 have bM:QO W:=Iq λhr=>by rw[B' hr] at g3;simp at g3
 have hb:Pg W t n=0:=by unfold Pg Oh;rw[B' gw,B' (by rw[g];decide),B' (by rw[bM];decide)]
 have hN:=zl5 hW hb;have sw:=hN.sw;have jF:=sw.a.t;obtain⟨hu,c0,c1⟩:=sw.t t t0 Qo tn;obtain⟨q0,q1,_⟩:=Q2.1 hu;have hsl:=sw.a.sl hu;have fZ:Wk 8 [x,x1] w (Rw wv m'.tO (Int.toNat t*9) (Xc { Q8 W t with nice:=n })) (J' W t { Q8 W t with nice:=n }) m':=hK.Rw (hK.own.AF3 t0 t1 (j:=0) (vs:=Xc { Q8 W t with nice:=n }) (x:={ Q8 W t with nice:=n }) rfl (by show 0+9<=9;decide)) Hx;have e5:∀x mm,Qc (J' W t x) mm=Qc W mm:=λx mm=>by simp[Qc,J']
 refine⟨Wn,_,_,_,_,_,_,_,_,_,hr.t t t0 t1,λb2 cD=>⟨Wn,ztu hK.own hK.nb t0 t1 (j:=0) Qd,λg4=>?_,λg4 WL kL hs9=>?_⟩⟩
 ·have g4:(Q8 W t).state=1:=by simpa[Q8] using g4
  have hT:=zs1 (n:=n) g4;obtain⟨f0,f1,v0,v1⟩:=hN.f g4;have hv:=sw.tv t t0 Qo;have hh:Ql=50000000000000000:=rfl;have hk:K1=50000034686091440:=rfl;have uH:=fZ.rd;have etk:Q8 (J' W t { Q8 W t with nice:=n }) t={ Q8 W t with nice:=n }:=HB t0 t1;have t1':t<((J' W t { Q8 W t with nice:=n }).IJ.length:Int):=by simpa[J'] using t1
  have CX3:=DQ (t:=t) uH t0 t1' (by rw[etk];exact q0) (by rw[etk];exact q1) (by rw[etk];exact c0) (by rw[etk];show (Q8 W t).R1<(((gi W.IE (Q8 W t).II).IH.length:Nat):Int);omega) (by rw[etk];exact⟨by show _<=(Q8 W t).v-(Qa W (Q8 W t).II (Q8 W t).R1).IM;omega,by show (Q8 W t).v-(Qa W (Q8 W t).II (Q8 W t).R1).IM<=_;omega⟩);rw[etk,e5] at CX3;have lc:=ZF ((Q8 W t).v-(Qa W (Q8 W t).II (Q8 W t).R1).IM) (Qf n);have lm:=ZN (Qf n);have SS:Zp 8 w.heap.size (Rw (Rw wv m'.tO (Int.toNat t*9) (Xc { Q8 W t with nice:=n })) m'.tO (Int.toNat t*9) (Xc { Q8 W t with nice:=n,v:=Ke W t n })) (J' (J' W t { Q8 W t with nice:=n }) t { Q8 W t with nice:=n,v:=Ke W t n }) m':=fZ.own.AF3 t0 t1' (j:=0) (vs:=Xc { Q8 W t with nice:=n,v:=Ke W t n }) (x:={ Q8 W t with nice:=n,v:=Ke W t n }) (by rw[show gi (J' W t { Q8 W t with nice:=n }).IJ t={ Q8 W t with nice:=n } from etk];rfl) (by show 0+9<=9;decide);rw[set_set,<-hT] at SS;have qR:Wk 8 ([x,x1]++[b2]) w _ (J' W t (XI W t n)) m':=(hK.add cD).Rw SS (Hx.trans Hx)
  have kE:∀vs0 vs:List Va,Xc { Q8 W t with nice:=n }=vs0->Xc (XI W t n)=vs->Wk 8 ([x,x1]++[b2]) w (Rw (Rw wv m'.tO (Int.toNat t*9) vs0) m'.tO (Int.toNat t*9) vs) (J' W t (XI W t n)) m':=λvs0 vs h0 h1=>by
   subst h0;subst h1;rw[hT] at qR ⊢;exact qR
  have CK8:∀y∈[x,x1],y∈[x,x1]++[b2]:=λy hy=>Ia _ hy
  have CT3:Wk 8 [x,x1] w _ (J' W t (XI W t n)) m':=qR.sub CK8;have Cw8:Q1 [x,x1] (Rw wv m'.tO (Int.toNat t*9) (Xc { Q8 W t with nice:=n })) (m'.ms (Q8 W t).II.toNat).sO (Int.toNat (Q8 W t).R1*5+0) [I (Qa W (Q8 W t).II (Q8 W t).R1).IM]:=(uH.g.IH _ q0 q1).f c0 (by show (Q8 W t).R1<(((gi W.IE (Q8 W t).II).IH.length:Nat):Int);omega) (j:=0) rfl;have ecp:(Q8 (J' W t (XI W t n)) t).R1=(Q8 W t).R1:=by rw[HB t0 t1];rfl
  refine⟨hr.g.ix q0 q1,_,_,_,uH.g.Rn q0 q1,(uH.g.IH _ q0 q1).ix YT c0 (by show (Q8 W t).R1<(((gi W.IE (Q8 W t).II).IH.length:Nat):Int);omega),(Qa W (Q8 W t).II (Q8 W t).R1).IM,Cw8,Yg ((Q8 W t).v-(Qa W (Q8 W t).II (Q8 W t).R1).IM) (Qf n),CX3,⟨?_,?_⟩,Wn,ztu fZ.own fZ.nb t0 t1' (j:=0) Qd,hr.c.ix Y1 c0 c1,(gi W.IF (Q8 W t).R1).cur,?_,λg5 RE T' dT=>?_,λg5 Sw eQ sH=>?_⟩
  ·show _<=Ke W t n;omega
  ·show Ke W t n<=_;omega
  ·rw[hT] at CT3;exact CT3.rd.c.f c0 c1 (j:=1) rfl
  ·have g5:(gi W.IF (Q8 W t).R1).cur=t:=by simpa using g5
   have hE:Lg W t n=Qb (Rc (J' W t (XI W t n)) (Q8 W t).R1):=by unfold Lg Z6;rw[C' g4,ecp,C' (show (gi (J' W t (XI W t n)).IF (Q8 W t).R1).cur=t from g5)]
   rw[hE];have dZ:=(kE _ _ (by rfl) (by rw[hT];rfl)).step (T'.mono CK8);have RA:=ZS dZ.own c0 c1;rw[e5] at RA;refine I3 RA ?_;rintro e1 Rb ⟨kB,cW⟩;refine⟨_,_,_,_,_,_,_,_,_,_,kB,dZ.kept cW dT,λSj bE hs6=>?_⟩;have vB:=(dZ.Ss cW dT).step bE;refine I3 (QA vB.own (hN.s1.Rc c0 c1) Qd Qd vB.base) ?_;rintro e2 RI ⟨m1,bH,SQ⟩;exact⟨_,_,_,_,_,_,_,_,_,_,bH,vB.kept SQ hs6,λSw eQ=>QX.ok hW hb ((vB.Ss SQ hs6).step eQ)⟩
  ·have g5:¬(gi W.IF (Q8 W t).R1).cur=t:=by simpa using g5
   have hE:Lg W t n=Qb (J' W t (XI W t n)):=by unfold Lg Z6;rw[C' g4,ecp,B' (show ¬(gi (J' W t (XI W t n)).IF (Q8 W t).R1).cur=t from g5)]
   rw[hE];have dZ:=(kE _ _ (by rfl) (by rw[hT];rfl)).step (eQ.mono CK8);have RA:=QA dZ.own hN.s1 Qd Qd dZ.base;rw[e5] at RA;refine I3 RA ?_;rintro e2 RI ⟨m1,bH,SQ⟩;exact⟨_,_,_,_,_,_,_,_,_,_,bH,dZ.kept SQ sH,λSw eQ=>QX.ok hW hb ((dZ.Ss SQ sH).step eQ)⟩
 ·have g4:¬(Q8 W t).state=1:=by simpa[Q8] using g4
  have hE:Lg W t n=Qb (J' W t (XI W t n)):=by unfold Lg;rw[B' g4]
  have dE:=hN.s1;rw[hE,zs0 g4];rw[zs0 g4] at dE;have qR:Wk 8 ([x,x1]++[b2]) w _ (J' W t { Q8 W t with nice:=n }) m':=(hK.add cD).Rw fZ.own Hx;have dZ:=qR.step (kL.mono λy hy=>Ia _ hy);have RA:=QA dZ.own dE Qd Qd dZ.base;rw[e5] at RA;refine I3 RA ?_;rintro e2 RI ⟨m1,bH,SQ⟩;exact⟨_,_,_,_,_,_,_,_,_,_,bH,dZ.kept SQ hs9,λSw eQ=>QX.ok hW hb ((dZ.Ss SQ hs9).step eQ)⟩
end
noncomputable def Kw(W:Q7)(g:Int)(ok:Bool):Int:=if ok=false\/g=0 then 1 else if Q6 W.IE g=false then 2 else if QO W=false then 10 else 0
def za7{W:Q7}{g:Int}{ok:Bool}(h:Kw W g ok=0):ok/\g≠0/\Q6 W.IE g/\QO W:=by
 unfold Kw at h
 split at h
 ·cases h
 ·rename_i h1
  split at h
  ·cases h
  ·rename_i h2
   split at h
   ·cases h
   ·rename_i h3;exact⟨by cases ok <;> simp_all,λe=>h1 (.inr e),by simpa using h2,by simpa using h3⟩
def z3b:Um:=⟨0,0,0,[],[]⟩
def Jo(q:Int)(n:Nat):Um:=⟨q,q,0,List.replicate n 0,List.replicate n false⟩
def DS(q p:Int):Bool:=q==0&&p==0
def zi7(q p:Int):Bool:=DS q p||(YY q 1 10000&&YY p 1 1000)
def PC(W:Q7)(g q p:Int):ZD:=if DS q p=true then { gi W.IE g with period:=0,next:=0,IL:=z3b } else { gi W.IE g with period:=p,next:=W.now+p,IL:=Jo q W.IF.length }
noncomputable def zlu(W:Q7)(g q p:Int):Int:=Kw W g (zi7 q p)
def zym(W:Q7)(g q p:Int):Q7:=Qb (R3 W g (PC W g q p))
def Ah(n:Nat):∀k:Nat,k<=n->Vl (List.replicate n (0:Int)) k=0
 |0,_=>rfl
 |k+1,hk=>by
  simp only[Vl];rw[Ah n k Qo,My _ _ Qo Qo];rfl
def zu5{q:Int}{n:Nat}(q1:1<=q)(q2:q<=10000)(n1:1<=n)(n2:n<=4):P2 (Jo q n):=by
 refine⟨q1,q2,by simpa[Jo] using n1,by simpa[Jo] using n2,by simp[Jo],by simp only[Jo];omega,I2 _,by simp[Jo],by simp only[Jo];omega,λc c0 c1=>?_,?_⟩
 ·simp only[Jo,List.length_replicate] at c1 ⊢;rw[My _ _ c0 c1,My _ _ c0 c1];exact⟨I2 _,Qo,λh=>by cases h⟩
 ·simp only[Jo,List.length_replicate];rw[Ah n n (I7 _)];omega
def zec{W:Q7}{g q p:Int}:(PC W g q p).IV=(gi W.IE g).IV/\(PC W g q p).IG=(gi W.IE g).IG/\(PC W g q p).name=(gi W.IE g).name/\(PC W g q p).IH=(gi W.IE g).IH/\(PC W g q p).R2=(gi W.IE g).R2/\(PC W g q p).IF=(gi W.IE g).IF/\(PC W g q p).sum=(gi W.IE g).sum:=by
 unfold PC;split <;> exact⟨rfl,rfl,rfl,rfl,rfl,rfl,rfl⟩
def SW.R3{K:Int}{W:Q7}(h:SW K W){g:Int}{x:ZD}(hu:Q6 W.IE g)(u:x.IV=(gi W.IE g).IV)(p:x.IG=(gi W.IE g).IG)(n:x.name=(gi W.IE g).name)(s:x.IH=(gi W.IE g).IH)(hx:zpn W g x):SW K (R3 W g x):=by
 obtain⟨u0,u1,ut⟩:=Q2.1 hu;have hl:=h.a.gl;have hT:=XZ (x:=x) u0 u1 u p n
 have es:∀k c:Int,0<=k->Qa (YtjinkcmkgnofjaaGreatDoor.R3 W g x) k c=Qa W k c:=λk c k0=>by
  unfold Qa;rw[Ym u0 u1 k0];split
  ·rename_i e;subst e;rw[s]
  ·rfl
 refine⟨h.a.set u0 Qo u p n (λhn=>by rw[u,ut] at hn;cases hn) λ_=>hx,λt a b n=>by rw[hT.aO];exact h.t t a b n,h.tv,λk c uk a b=>?_,h.cu⟩;rw[hT.aO] at uk;rw[es k c (Q2.1 uk).1];exact h.s k c uk a b
def zqq{W:Q7}{g q p:Int}(hW:Qr W)(hb:zlu W g q p=0):Q6 W.IE g/\g≠0/\zi7 q p/\QO W/\SW Ql W/\SW Ql (R3 W g (PC W g q p)):=by
 obtain⟨h1,h2,h3,h4⟩:=za7 hb;have wp:=Qm.1 hW;have sw:=MS wp (Qm.1 h4);obtain⟨u0,u1,hg⟩:=wp.a.u h3;have hl:=zec (W:=W) (g:=g) (q:=q) (p:=p);have sR:=wp.a.c1;have hc2:=wp.a.c2;refine⟨h3,h2,h1,h4,sw,sw.R3 h3 hl.1 hl.2.1 hl.2.2.1 hl.2.2.2.1 ⟨by rw[hl.2.2.2.2.1];exact hg.w1,by rw[hl.2.2.2.2.1];exact hg.w2,by rw[hl.2.2.2.2.2.1];exact hg.m,by rw[hl.2.2.2.2.2.1];exact hg.m0,by rw[hl.2.2.2.2.2.2];exact hg.s,by rw[hl.2.2.2.1];exact hg.len,λh=>Ir h h2,λhq=>?_,λhq=>?_⟩⟩
 ·unfold PC at hq ⊢;split
  ·exact⟨show ON z3b=true by decide,rfl,rfl⟩
  ·rename_i hn;rw[B' hn] at hq;unfold zi7 at h1;rw[show DS q p=false by simpa using hn,Bool.false_or,A'] at h1;have:=Qu.1 h1.1;have:q=0:=hq;omega
 ·unfold PC at hq ⊢;split
  ·rename_i hn;rw[C' hn] at hq;exact Ir rfl hq
  ·rename_i hn;unfold zi7 at h1;rw[show DS q p=false by simpa using hn,Bool.false_or,A'] at h1;have h5:=Qu.1 h1.1;have h6:=Qu.1 h1.2;exact⟨zu5 h5.1 h5.2 sR hc2,by simp[Jo],h6.1,h6.2,by show W.now<W.now+p;omega,by show W.now+p-W.now<=p;omega⟩
def zsq{W:Q7}{g q p:Int}(h:DS q p):PC W g q p={ gi W.IE g with period:=0,next:=0,IL:=z3b }:=by unfold PC;rw[C' h]
def zn5{W:Q7}{g q p:Int}(h:DS q p=false):PC W g q p={ gi W.IE g with period:=p,next:=W.now+p,IL:=Jo q W.IF.length }:=by unfold PC;rw[B' (by rw[h];decide)]
def zab:MG:=⟨none,0,none,0,none,0⟩
def z2l(base:Nat)(w:Wo):Zz base w z3b zab:=⟨.inl ⟨rfl,rfl,rfl⟩,.inl ⟨rfl,rfl,rfl⟩⟩
def zu8:∀x∈YK zab,False:=λx hx=>by simp[YK,zab,QL] at hx
section
variable {W W':Q7}{m:MW}{w:Wo}{bar:Int}
def z42{b:Nat}{bs:List Nat}{w w1 w2 w3:Wo}{q:Int}{n:Nat}(s:Sc w [b] w1)(h2:Q0 [b] (w1.alloc (.cells ((List.replicate n (0:Int)).flatMap U2).toArray Qg)) w2)(dE:∀y∈[b],y<w1.heap.size)(V':∀y∈[b],y<w2.heap.size)(h3:Q0 [b] (w2.alloc (.cells ((List.replicate n false).flatMap K3).toArray ZA)) w3)(_:bs=[]) :
  Zz w.heap.size w3 (Jo q n) ⟨some ⟨w1.heap.size,0,none⟩,n,some ⟨w2.heap.size,0,none⟩,n,none,0⟩/\Q0 [] w w3:=by
 have hL0:Ob U2 1 Qg w1.heap.size [b] _ (some ⟨w1.heap.size,0,none⟩) n (List.replicate n (0:Int)):=Ob.of (Vj (enc:=U2) Xe.len Qg n (0:Int) w1) dE;have s1:=(s.R7 (Zc w1 (.cells ((List.replicate n (0:Int)).flatMap U2).toArray Qg))).step h2;have hL1:=((hL0.step h2).R7 (Zc w2 (.cells ((List.replicate n false).flatMap K3).toArray ZA))).step h3;have hD0:Ob K3 1 ZA w2.heap.size [b] _ (some ⟨w2.heap.size,0,none⟩) n (List.replicate n false):=Ob.of (Vj (enc:=K3) J0.len ZA n false w2) V';have hD1:=hD0.step h3;have s2:=(s1.R7 (Zc w2 (.cells ((List.replicate n false).flatMap K3).toArray ZA))).step h3;exact⟨⟨hL1.own.mono s.ext.size,hD1.own.mono s1.ext.size⟩,s2.ext⟩
def z2k{b:Nat}{w w1 w2 w3:Wo}{q:Int}{n:Nat}(s:Sc w [b] w1)(h2:Q0 [b] (w1.alloc (.cells ((List.replicate n false).flatMap K3).toArray ZA)) w2)(dE:∀y∈[b],y<w1.heap.size)(V':∀y∈[b],y<w2.heap.size)(h3:Q0 [b] (w2.alloc (.cells ((List.replicate n (0:Int)).flatMap U2).toArray Qg)) w3) :
  Zz w.heap.size w3 (Jo q n) ⟨some ⟨w2.heap.size,0,none⟩,n,some ⟨w1.heap.size,0,none⟩,n,none,0⟩/\Q0 [] w w3:=by
 have hL0:Ob K3 1 ZA w1.heap.size [b] _ (some ⟨w1.heap.size,0,none⟩) n (List.replicate n false):=Ob.of (Vj (enc:=K3) J0.len ZA n false w1) dE;have s1:=(s.R7 (Zc w1 (.cells ((List.replicate n false).flatMap K3).toArray ZA))).step h2;have hL1:=((hL0.step h2).R7 (Zc w2 (.cells ((List.replicate n (0:Int)).flatMap U2).toArray Qg))).step h3;have hD0:Ob U2 1 Qg w2.heap.size [b] _ (some ⟨w2.heap.size,0,none⟩) n (List.replicate n (0:Int)):=Ob.of (Vj (enc:=U2) Xe.len Qg n (0:Int) w2) V';have hD1:=hD0.step h3;have s2:=(s1.R7 (Zc w2 (.cells ((List.replicate n (0:Int)).flatMap U2).toArray Qg))).step h3;exact⟨⟨hD1.own.mono s1.ext.size,hL1.own.mono s.ext.size⟩,s2.ext⟩
def zd4{q:Int}{n:Nat}(hq:YY q 1 10000)(hn:YY (n:Int) 1 4) :
  Cz Ps #[I q,I (n:Int)] w λe w'=>∃p:MG,e=.returned (.tuple #[.agg (ZI (Jo q n) p).toArray,.bool true])/\Zz w.heap.size w' (Jo q n) p/\Q0 [] w w':=by
 refine(zc3 q (n:Int) (R:=λv w'=>∃p:MG,v=.tuple #[.agg (ZI (Jo q n) p).toArray,.bool true]/\Zz w.heap.size w' (Jo q n) p/\Q0 [] w w') ?_).mono λe w' ⟨v,he,p,hv,h3⟩=>⟨p,by rw[he,hv],h3⟩
 have hm9:=Y5;have h4:=(Qu.1 hn).2;intro b hb;have s0:Sc w [b] w:=(Sc.start w).add hb;have k1:=Qq (n:=q) (a:=1) (b:=10000) (w:=w) (bs:=[]);have k2:=Qq (n:=(n:Int)) (a:=1) (b:=4) (w:=w) (bs:=[]);rw[hq] at k1;rw[hn] at k2;refine⟨true,k1,true,λ_=>k2,λg=>by simp at g,λ_=>⟨λR5 S9 dE=>⟨_,_,_,_,KI Xe MV n Qo Qo R5,Qi (Zc _ _) dE,λR6 Rk V'=>⟨_,_,_,_,KI J0 Lq n Qo Qo R6,Qi (Zc _ _) V',λRD Rl=>?_⟩⟩,λR5 S9 dE=>⟨_,_,_,_,KI J0 Lq n Qo Qo R5,Qi (Zc _ _) dE,λR6 Rk V'=>⟨_,_,_,_,KI Xe MV n Qo Qo R6,Qi (Zc _ _) V',λRD Rl=>?_⟩⟩⟩⟩
 ·exact⟨_,by simp[ZI,Jo],z42 (bs:=[]) (s0.R7 S9) Rk dE V' Rl rfl⟩
 ·exact⟨_,by simp[ZI,Jo],z2k (s0.R7 S9) Rk dE V' Rl⟩
def z40{base:Nat}(h:Zp 8 base w W m){g:Int}(u0:0<=g)(u1:g<8){G:ZD}{p:MG}(hp:Zz base w G.IL p)(hb:∀x∈YK p,x∉QM 8 m)(es:G.IH=(gi W.IE g).IH){j:Nat}{vs:List Va}(he:YA G (KH (m.ms g.toNat) p)=(YA (gi W.IE g) (m.ms g.toNat)).take j++vs++(YA (gi W.IE g) (m.ms g.toNat)).drop (j+vs.length))(hj:j+vs.length<=14) :
  Zp 8 base (Rw w m.gO (Int.toNat g*14+j) vs) (R3 W g G) (GK m g.toNat (KH (m.ms g.toNat) p)):=
 h.Bt5 u0 u1 (g:=G) (p:=KH (m.ms g.toNat) p) ⟨hp.loc,hp.Ry,by rw[es];exact(h.each u0 u1).shl⟩ (λx hx=>by
  rcases OO x hx with h1|h1
  ·exact .inl (hb x h1)
  ·exact .inr h1) he hj
def Wk.gr{bs:List Nat}{w0:Wo}(h:Wk 8 bs w0 w W m){g:Int}(u0:0<=g)(u1:g<8){G:ZD}{p:MG}(hp:Zz w0.heap.size w G.IL p)(hb:∀x∈YK p,x∉QM 8 m/\x∉bs)(es:G.IH=(gi W.IE g).IH){j:Nat}{vs:List Va}(he:YA G (KH (m.ms g.toNat) p)=(YA (gi W.IE g) (m.ms g.toNat)).take j++vs++(YA (gi W.IE g) (m.ms g.toNat)).drop (j+vs.length))(hj:j+vs.length<=14) :
  Wk 8 bs w0 (YtjinkcmkgnofjaaGreatDoor.Rw w m.gO (Int.toNat g*14+j) vs) (R3 W g G) (GK m g.toNat (KH (m.ms g.toNat) p)):=
 ⟨h.s.call Ag λx hx=>(h.own.lt x hx).1,⟨z40 h.own u0 u1 hp (λx hx=>(hb x hx).1) es he hj,λx hx=>by
  rcases OQ x hx with h1|h1
  ·exact h.nb x h1
  ·rcases OO x h1 with h2|h2
   ·exact(hb x h2).2
   ·exact h.nb x (UB Qo h2)⟩⟩
def Vx{g:Int}{ok:Bool}(h:XV [] w W m)(hl:VB W) :
  Cz Xx #[.agg (Qc W m).toArray,I g,.bool ok] w λe w'=>(Qr W=false/\e=.returned (.tuple #[.agg (Qc Lu z0h).toArray,I 1])/\Q0 [] w w')\/(Qr W/\∃m',e=.returned (.tuple #[.agg (Qc W m').toArray,I (Kw W g ok)])/\Zp 8 w.heap.size w' W m'/\Q0 [] w w'):=by
 refine(CS _ _ _ _ _ _ _ _ _ _ g ok (R:=λv w'=>(Qr W=false/\v=.tuple #[.agg (Qc Lu z0h).toArray,I 1]/\Q0 [] w w')\/(Qr W/\∃m',v=.tuple #[.agg (Qc W m').toArray,I (Kw W g ok)]/\Zp 8 w.heap.size w' W m'/\Q0 [] w w')) ?_).mono λe w' ⟨v,he,h3⟩=>by
  rw[he];rcases h3 with ⟨a,b,c⟩|⟨a,m',b,c⟩
  ·exact .inl ⟨a,by rw[b],c⟩
  ·exact .inr ⟨a,m',by rw[b],c⟩
 intro x hx x1 S9 wr Rk V';refine I3 (Zn (h.ext Rk) hl) ?_;rintro e wv (⟨hW,he,hy⟩|⟨hW,m',he,hM,hy⟩)
 ·exact⟨_,_,_,_,_,_,_,_,_,_,_,he,Qi hy V',λ_ R5 Rl=>.inl ⟨hW,rfl,(Rk.trans hy).fresh Rl λy hm=>.inl (YM hx S9 y hm)⟩,λg=>by simp at g⟩
 have hK:=Wk.begin hx S9 Rk V' hM hy;have sR:((if QO W=true then 0 else 10:Int)==1)=false:=by split <;> rfl
 refine⟨_,_,_,_,_,_,_,_,_,_,_,he,Qi hy V',λg1 R5 Rl=>.inr ⟨hW,m',?_,(hK.step Rl).fin⟩,λg1=>⟨_,Xr hK.rd.g,λg2 R6 Rl=>.inr ⟨hW,m',?_,(hK.step Rl).fin⟩,λg2 RD Rl=>.inr ⟨hW,m',?_,(hK.step Rl).fin⟩⟩⟩
 ·have hb:Kw W g ok=1:=by
   unfold Kw;rw[C'];rw[sR] at g1
   simpa using g1
  rw[hb];rfl
 ·rw[sR] at g1;have g1:¬(ok=false\/g=0):=by simpa using g1
  have hb:Kw W g ok=2:=by unfold Kw;rw[B' g1,C' (by simpa using g2)]
  rw[hb];rfl
 ·rw[sR] at g1;have g1:¬(ok=false\/g=0):=by simpa using g1
  have hb:Kw W g ok=if QO W=true then 0 else 10:=by
   unfold Kw;rw[B' g1,B' (by simpa using g2)]
   cases QO W <;> rfl
  rw[hb];rfl
def FR{g q p:Int}(h:XV [] w W m)(hl:VB W) :
  Cz VO #[.agg (Qc W m).toArray,I g,I q,I p] w λe w'=>∃v,e=.returned v/\QX (Yz W (zlu W g q p) (zym W g q p)) w v w':=by
 refine Fx _ _ _ _ _ _ _ _ _ _ g q p (R:=λv w'=>QX (Yz W (zlu W g q p) (zym W g q p)) w v w') ?_;intro x hx x1 S9;refine⟨_,λ_=>Qq,_,λ_ _=>Qq,λwr Rk V'=>?_⟩;refine I3 (Vx (g:=g) (ok:=zi7 q p) (h.ext Rk) hl) ?_;rintro e wv (⟨hW,he,hy⟩|⟨hW,m',he,hM,hy⟩)
 ·exact⟨_,_,_,_,_,_,_,_,_,_,_,he,Qi hy V',λ_ R5 Rl=>QX.bad hW ((Rk.trans hy).fresh Rl λy hm=>.inl (YM hx S9 y hm)),λg=>by simp at g⟩
 have hK:=Wk.begin hx S9 Rk V' hM hy;refine⟨_,_,_,_,_,_,_,_,_,_,_,he,Qi hy V',λg1 R5 Rl=>QX.no hW (by simpa[zlu] using g1) (hK.step Rl) rfl,λg1=>?_⟩;have hb:zlu W g q p=0:=by simpa[zlu] using g1
 have hr:=hK.rd;obtain⟨hu,hz,hok,AB9,sw,s1⟩:=zqq hW hb;obtain⟨u0,u1,_⟩:=Q2.1 hu;have bU:=sw.a.gl;have sR:=sw.a.c1;have hc2:=sw.a.c2;have hn1:=sw.a.n1;have hn2:=sw.a.n2;have Wn:=hr.g.ix (i:=g) u0 u1;have e5:∀G mm,mm={ m' with ms:=mm.ms }->Qc (R3 W g G) mm=Qc W m':=λG mm hm=>by rw[hm];simp[Qc,R3]
 have eb:Qc W m'=Qc W m':=rfl;refine⟨Wn,_,_,_,_,_,_,_,_,_,_,_,_,_,_,_,_,_,_,_,_,hr.g.cells g u0 u1,λb2 cD=>⟨λg2 R6 Rl fY=>?_,λg2=>?_⟩⟩
 ·have g2:DS q p=false:=by unfold DS;simpa only[ID] using g2
  have hlm:YY q 1 10000/\YY p 1 1000:=by unfold zi7 at hok;rw[g2,Bool.false_or,A'] at hok;exact hok
  have hp:=Qu.1 hlm.2;have fZ:=(hK.add cD).step (Rl.mono λy hy=>Ia _ hy);refine I3 (zd4 (n:=W.IF.length) hlm.1 (Qu.2 ⟨Qo,Qo⟩)) ?_;rintro e1 Rb ⟨pb,kB,hO,cW⟩;refine⟨_,_,_,_,_,_,_,_,_,_,kB,Qi cW fY,λb3 qS=>⟨⟨Qo,Qo⟩,Wn,?_,λRD T' dT=>?_⟩⟩
  ·exact zrw (fZ.R7 cW).own (fZ.R7 cW).nb u0 Qo (j:=0) Qd
  have qR:=(fZ.R7 cW).add qS
  have eH:=(qR.gr u0 Qo (G:=PC W g q p) (p:=pb) (j:=0) (vs:=YA (PC W g q p) (KH (m'.ms g.toNat) pb)) (by rw[zn5 g2];exact hO.mono fZ.base) (λy hy=>?_) zec.2.2.2.1 (by simp[YA]) (by simp[YA])).step (w':=RD) (by
   rw[zn5 g2];exact T'.mono λy hy=>Ia _ hy)
  ·have RA:=QA eH.own s1 Qd Qd eH.base;rw[e5 _ _ rfl] at RA;refine I3 RA ?_;rintro e2 RI ⟨m2,bH,SQ⟩;exact⟨_,_,_,_,_,_,_,_,_,_,bH,eH.kept SQ dT,λRE Su=>QX.ok hW hb ((eH.Ss SQ dT).step Su)⟩
  ·have:=hO.lt y hy;refine⟨λhm=>?_,λhm=>?_⟩
   ·have:=(fZ.own.lt y hm).2;omega
   ·rcases Im.1 hm with h1|h1
    ·have:=fY y h1;omega
    ·have:y=b3:=by simpa using h1
     omega
 ·have g2:DS q p:=by unfold DS;simpa only[I6] using g2
  refine⟨Wn,?_,λRD T' dT=>?_⟩
  ·exact zrw hK.own hK.nb u0 Qo (j:=0) Qd
  have qR:=hK.add cD
  have eH:=(qR.gr u0 Qo (G:=PC W g q p) (p:=zab) (j:=0) (vs:=YA (PC W g q p) (KH (m'.ms g.toNat) zab)) (by rw[zsq g2];exact z2l _ _) (λy hy=>(zu8 y hy).elim) zec.2.2.2.1 (by simp[YA]) (by simp[YA])).step (w':=RD) (by
   rw[zsq g2];exact T'.mono λy hy=>Ia _ hy)
  have RA:=QA eH.own s1 Qd Qd eH.base;rw[e5 _ _ rfl] at RA;refine I3 RA ?_;rintro e2 RI ⟨m2,bH,SQ⟩;exact⟨_,_,_,_,_,_,_,_,_,_,bH,eH.kept SQ dT,λRE Su=>QX.ok hW hb ((eH.Ss SQ dT).step Su)⟩
def zbk.pre{base pb:Nat}{ex:List Nat}{w0 w w':Wo}{W':Q7}{m m':MW}(hx:Q0 [] w0 w)(h:zbk base pb ex w m w' W' m'):zbk base pb ex w0 m w' W' m':=
 ⟨h.own,h.pt,hx.of_nil.trans h.ext,λx hy=>(h.sub x hy).imp id λhz=>IB hx.size hz⟩
def zbk.post{base pb:Nat}{ex:List Nat}{w w' w1:Wo}{W':Q7}{m m':MW}(h:zbk base pb ex w m w' W' m')(hx:Q0 [] w' w1):zbk base pb ex w m w1 W' m':=
 ⟨h.own.WH hx,QP h.pt hx Qs,h.ext.trans hx.of_nil,h.sub⟩
def Mp.grf{base pb:Nat}{bs:List Nat}{w0:Wo}{m0:MW}(h:Mp base pb bs w0 m0 w W m){g:Int}(u0:0<=g)(u1:g<8){G:ZD}(e1:G.IL.locals=(gi W.IE g).IL.locals)(e2:G.IL.Ry=(gi W.IE g).IL.Ry)(e3:G.IH=(gi W.IE g).IH){j:Nat}{vs:List Va}(he:YA G (m.ms g.toNat)=(YA (gi W.IE g) (m.ms g.toNat)).take j++vs++(YA (gi W.IE g) (m.ms g.toNat)).drop (j+vs.length))(hj:j+vs.length<=14) :
  Mp base pb bs w0 m0 (YtjinkcmkgnofjaaGreatDoor.Rw w m.gO (Int.toNat g*14+j) vs) (R3 W g G) m:=
 h.Ss (h.own.Ae8 u0 u1 e1 e2 e3 he hj) Ag (by simp[Qc,R3])
end
def NI(W:Q7)(t:Int):Int:=Yg ((Q8 W t).v-(Qa W (Q8 W t).II (Q8 W t).R1).IM) (Qf (Q8 W t).nice)
def M2(W:Q7)(t g c:Int):PS:={ Q8 W t with II:=g,R1:=c,v:=(Qa W g c).IM+NI W t }
def Uj(W:Q7)(t g c:Int):Q7:=if (Q8 W t).state=1 then Rc (J' W t (M2 W t g c)) c else J' W t (M2 W t g c)
def zea(W:Q7)(t:Int):0<=NI W t/\NI W t<=Qh:=by
 have lc:=ZF ((Q8 W t).v-(Qa W (Q8 W t).II (Q8 W t).R1).IM) (Qf (Q8 W t).nice);have lm:=ZN (Qf (Q8 W t).nice);unfold NI;simp only[Qh];omega
def SF.J'{F K:Int}{W:Q7}(h:SF F K W){t:Int}(t0:0<=t)(t1:t<12){x:PS}(hx:x.state≠0->Q6 W.IE x.II/\0<=x.R1/\x.R1<(W.IF.length:Int))(v0:0<=x.v)(v1:x.v<=K):SF F K (J' W t x):=⟨h.w.J' t0 t1 hx v0 v1,h.f⟩
def SF.Rc{F K:Int}{W:Q7}(h:SF F K W){c:Int}(c0:0<=c)(c1:c<(W.IF.length:Int)):SF F K (Rc W c):=
 ⟨h.w.Rc c0 c1,λk d u a b=>h.f k d u a (by
  have b:d<(((W.IF.set c.toNat (XA (gi W.IF c))).length:Nat):Int):=b
  rwa[E'] at b)⟩
def zmd{F K:Int}{W:Q7}(h:SF F K W)(hk:F+Qh<=K){t g c:Int}(hg:Q6 W.IE g)(c0:0<=c)(c1:c<(W.IF.length:Int)):0<=(M2 W t g c).v/\(M2 W t g c).v<=K:=by
 have hf:=h.f g c hg c0 c1;have hs:=h.w.s g c hg c0 c1;have hl:=zea W t;show 0<=(Qa W g c).IM+NI W t/\(Qa W g c).IM+NI W t<=K;omega
def Bm{F K:Int}{W:Q7}(h:SF F K W)(hk:F+Qh<=K){t g c:Int}(t0:0<=t)(t1:t<12)(hg:Q6 W.IE g)(c0:0<=c)(c1:c<(W.IF.length:Int)):SF F K (J' W t (M2 W t g c))/\SF F K (Uj W t g c):=by
 have hv:=zmd h hk (t:=t) hg c0 c1;have h1:=h.J' t0 t1 (x:=M2 W t g c) (λ_=>⟨hg,c0,c1⟩) hv.1 hv.2;refine⟨h1,?_⟩;unfold Uj;split
 ·exact h1.Rc c0 c1
 ·exact h1
def zq7(W:Q7)(t g c:Int):(Uj W t g c).now=W.now/\(Uj W t g c).IF.length=W.IF.length/\(Uj W t g c).IJ.length=W.IJ.length/\(Uj W t g c).IE=W.IE:=by
 unfold Uj;split
 ·exact⟨rfl,by simp[Rc,RO,J'],by simp[Rc,RO,J'],rfl⟩
 ·exact⟨rfl,rfl,by simp[J'],rfl⟩
def Dt(m:Int):Int:=if Zq m 0=true then 0 else if Zq m 1 then 1 else if Zq m 2 then 2 else if Zq m 3 then 3 else -1
def z1f:∀a:Fin 16,a.val≠0->Zq (a.val:Int) (Dt (a.val:Int)):=by decide +kernel
def B2{m:Int}(h:M1 m)(h0:m≠0):Zq m (Dt m):=by
 obtain⟨f,rfl⟩:=Kd h;exact z1f f λe=>h0 (by rw[e];rfl)
def z5a(gs:List ZD)(g u:Int):M1 (Ta gs g u):=by
 unfold Ta;rw[List.foldl_append];exact zbb _ _
def HE{W:Q7}(ha:WA W)(g mask:Int):M1 (QD W g mask)/\QD W g mask≠0:=by
 unfold QD;split
 ·rename_i h;exact⟨zbb _ _,h⟩
 ·split
  ·rename_i h;refine⟨?_,h⟩;exact z5a _ _ _
  ·exact⟨z27 ha.c2,ha.ups⟩
def D6{W:Q7}(ha:WA W)(g mask:Int):0<=Dt (QD W g mask)/\Dt (QD W g mask)<(W.IF.length:Int):=by
 have h:=HE ha g mask;exact GY ha (B2 h.1 h.2)
def Hj(W:Q7)(t:Int):Bool:=((Q8 W t).state != 0) && !Zq (QD W (Q8 W t).II (Q8 W t).mask) (Q8 W t).R1
def Jr(W:Q7):Nat->Q7
 |0=>W
 |t+1=>if Hj (Jr W t) (t:Int)=true then Uj (Jr W t) (t:Int) (Q8 (Jr W t) (t:Int)).II (Dt (QD (Jr W t) (Q8 (Jr W t) (t:Int)).II (Q8 (Jr W t) (t:Int)).mask)) else Jr W t
def G0(W:Q7):Q7:=Jr W 12
structure AL (W W':Q7):Prop where
 n:W'.now=W.now
 c:W'.IF.length=W.IF.length
 t:W'.IJ.length=W.IJ.length
 g:W'.IE=W.IE
def AL.refl(W:Q7):AL W W:=⟨rfl,rfl,rfl,rfl⟩
def AL.trans{A B C:Q7}(h:AL A B)(k:AL B C):AL A C:=⟨k.n.trans h.n,k.c.trans h.c,k.t.trans h.t,k.g.trans h.g⟩
def AL.put(W:Q7)(t g c:Int):AL W (Uj W t g c):=by
 obtain⟨h1,h2,h3,h4⟩:=zq7 W t g c;exact⟨h1,h2,h3,h4⟩
def zmf{F K:Int}{W:Q7}(h:SF F K W)(hk:F+Qh<=K):∀t:Nat,t<=12->SF F K (Jr W t)/\AL W (Jr W t)
 |0,_=>⟨h,AL.refl _⟩
 |t+1,ht=>by
  obtain⟨a,b⟩:=zmf h hk t Qo;simp only[Jr];split
  ·rename_i hm;unfold Hj at hm;simp only[A',It,ne_eq] at hm;have hg:=a.w.t (t:Int) Qo Qo hm.1;have hf:=D6 a.w.a (Q8 (Jr W t) (t:Int)).II (Q8 (Jr W t) (t:Int)).mask;exact⟨(Bm a hk Qo Qo hg.1 hf.1 hf.2).2,b.trans (AL.put _ _ _ _)⟩
  ·exact⟨a,b⟩
def G1{F K:Int}{W:Q7}(h:SF F K W)(hk:F+Qh<=K):SF F K (G0 W)/\AL W (G0 W):=zmf h hk 12 (I7 _)
def z2c{m:Int}{k:Nat}(h4:k<4)(kD:∀j:Nat,j<k->Zq m (j:Int)=false)(h:Zq m (k:Int)):Dt m=(k:Int):=by
 have h0:=kD 0;have h1:=kD 1;have h2:=kD 2;have:k=0\/k=1\/k=2\/k=3:=Qo;unfold Dt;rcases this with rfl|rfl|rfl|rfl
 ·rw[C' (show Zq m 0=true from h)];rfl
 ·rw[B' (by rw[show Zq m 0=false from h0 Qd];decide),C' (show Zq m 1=true from h)];rfl
 ·rw[B' (by rw[show Zq m 0=false from h0 Qd];decide),B' (by rw[show Zq m 1=false from h1 Qd];decide),C' (show Zq m 2=true from h)];rfl
 ·rw[B' (by rw[show Zq m 0=false from h0 Qd];decide),B' (by rw[show Zq m 1=false from h1 Qd];decide),B' (by rw[show Zq m 2=false from h2 Qd];decide),C' (show Zq m 3=true from h)];rfl
def z2d{m:Int}(kD:∀j:Nat,j<4->Zq m (j:Int)=false):Dt m = -1:=by
 unfold Dt;rw[B' (by rw[show Zq m 0=false from kD 0 Qd];decide),B' (by rw[show Zq m 1=false from kD 1 Qd];decide),B' (by rw[show Zq m 2=false from kD 2 Qd];decide),B' (by rw[show Zq m 3=false from kD 3 Qd];decide)]
section
variable {base:Nat}{W W':Q7}{m:MW}{w:Wo}{bar:Int}
def L7{x:Int}{bs:List Nat}:PX bs U8 #[I x] w (I (Dt x)):=
 NV x λwr hx=>by
  refine X7 4 0 rfl (λk=>k<=4/\∀j:Nat,j<k->Zq x (j:Int)=false) ⟨Qd,λj hj=>Ir hj (Nat.not_lt_zero j)⟩ λk ⟨hk,kD⟩=>⟨λIW=>?_,λRM=>?_⟩
  ·have IW:=Ot IW;refine⟨_,Yu,λg=>?_,λg=>⟨⟨Qo,Qo⟩,QB Qo ⟨Qo,λj hj=>?_⟩⟩⟩
   ·rw[z2c Qo kD g]
   ·by_cases e:j=k
    ·rw[e];exact g
    ·exact kD j Qo
  ·have RM:=Ou RM;have:k=4:=Qo;subst this;rw[z2d kD]
def K9(W:Q7)(t:Int)(x:PS)(m:MW):Qc (J' W t x) m=Qc W m:=by simp[Qc,J']
def Vi{F K:Int}(h:Zp 8 base w W m)(jJ:SF F K W)(hk:F+Qh<=K)(hK:K<=1000000000000000000){t g c:Int}(t0:0<=t)(t1:t<12)(hs:(Q8 W t).state≠0)(hg:Q6 W.IE g)(c0:0<=c)(c1:c<(W.IF.length:Int)) :
  Cz XE #[.agg (Qc W m).toArray,I t,I g,I c] w λe w'=>e=.returned (.agg (Qc W m).toArray)/\Mv 8 base [] w m w' (Uj W t g c) m:=by
 refine(zg5 _ _ _ _ _ _ _ _ _ _ t g c (R:=λv w'=>v=.agg (Qc W m).toArray/\Mv 8 base [] w m w' (Uj W t g c) m) ?_).mono λe w' ⟨v,he,hv,h3⟩=>⟨by rw[he,hv],h3⟩
 intro y hy y1 cW;obtain⟨g0,g1,_⟩:=Q2.1 hg;have jF:=jJ.w.a.t;have bU:=jJ.w.a.gl;have hsl:=jJ.w.a.sl hg;have uG:t<(W.IJ.length:Int):=Qo;obtain⟨hu,d0,d1⟩:=jJ.w.t t t0 t1 hs;obtain⟨q0,q1,_⟩:=Q2.1 hu;have hql:=jJ.w.a.sl hu;have s1:=jJ.w.s g c hg c0 c1;have s2:=jJ.w.s _ _ hu d0 d1;have hv:=jJ.w.tv t t0 t1;have hlr:=zea W t;simp only[Qh] at hlr;have hM:=Mv.two h hy cW;have hr:=(Mv.start h).rd;have Wn:=hr.t.ix QT t0 uG;have SS:=h.AF3 t0 uG (j:=0) (vs:=Xc (M2 W t g c)) (x:=M2 W t g c) (by simp[Xc]) (by simp[Xc]);have e5:Qc (J' W t (M2 W t g c)) m=Qc W m:=K9 _ _ _ _;have e6:Qc (Rc (J' W t (M2 W t g c)) c) m=Qc W m:=(U4 (Nn _ _)).trans e5;refine⟨NI W t,DQ hr t0 uG q0 q1 d0 Qo ⟨by show _<=(Q8 W t).v-(Qa W (Q8 W t).II (Q8 W t).R1).IM;omega,by show (Q8 W t).v-(Qa W (Q8 W t).II (Q8 W t).R1).IM<=_;omega⟩,Wn,_,_,_,_,_,_,_,_,_,hr.t t t0 uG,λb2 cD=>⟨hr.g.ix g0 g1,_,_,_,hr.g.Rn g0 g1,(hr.g.IH g g0 g1).ix YT c0 Qo,(Qa W g c).IM,zm2.f (hr.g.IH g g0 g1) c0 Qo (j:=0) rfl,⟨Qo,Qo⟩,Wn,ztu h Qs t0 uG (j:=0) Qd,λg4 wr hx dT=>?_,λg4 wr hx=>⟨rfl,?_⟩⟩⟩
 ·have g4:(Q8 W t).state=1:=Iz g4;have Wz:=((hM.add cD).Ss SS Hx).step (hx.of_nil);have RA:=ZS Wz.own (W:=J' W t (M2 W t g c)) c0 c1;rw[e5,e6] at RA;refine I3 RA ?_;rintro e wv ⟨kB,SQ⟩;refine⟨_,_,_,_,_,_,_,_,_,_,kB,Wz.kept SQ dT,λR6 T'=>⟨rfl,?_⟩⟩;unfold Uj;rw[C' g4];exact((Wz.call SQ dT).step T').close
 ·have g4:¬(Q8 W t).state=1:=ne_of_beq_false g4;unfold Uj;rw[B' g4];exact((Mv.start h).Ss SS Hx).R7 hx
def JD{F K:Int}(h:Zp 8 base w W m)(jJ:SF F K W)(hk:F+Qh<=K)(hK:K<=1000000000000000000) :
  Cz YI #[.agg (Qc W m).toArray] w λe w'=>e=.returned (.agg (Qc W m).toArray)/\Mv 8 base [] w m w' (G0 W) m:=by
 refine(Ei _ _ _ _ _ _ _ _ _ _ (R:=λv w'=>v=.agg (Qc W m).toArray/\Mv 8 base [] w m w' (G0 W) m) ?_).mono λe w' ⟨v,he,hv,h3⟩=>⟨by rw[he,hv],h3⟩
 intro y hy y1 cW;have jF:=jJ.w.a.t;refine⟨λvs w1=>∃(k:Nat),vs=I (k:Int)::Qc W m/\k<=12/\Mv 8 base [y,y1] w m w1 (Jr W k) m,ZG 12 0,λw1 sJ _=>⟨0,rfl,Qd,(Mv.two h hy cW).R7 sJ⟩,?_⟩;rintro c1 l S8 Si Sp Se Sk Sn Sf Sg Sh RI V' ⟨k,he,lS,hM⟩;obtain⟨hS,hF⟩:=zmf jJ hk k lS;have W8:Jr W (k+1)=if Hj (Jr W k) (k:Int)=true then Uj (Jr W k) (k:Int) (Q8 (Jr W k) (k:Int)).II (Dt (QD (Jr W k) (Q8 (Jr W k) (k:Int)).II (Q8 (Jr W k) (k:Int)).mask)) else Jr W k:=rfl;have sF:k=12->G0 W=Jr W k:=λe=>by rw[e];rfl
 have e0:Qc (Jr W k) m=Qc W m:=by simp only[Qc,hF.n,hF.c,hF.t,hF.g]
 have eC:=hF.c;have eT:=hF.t;simp only[Qc,I4,I5,Iv,true_and,and_true] at he;obtain⟨rfl,rfl,⟨rfl,rfl,rfl⟩,⟨rfl,rfl,rfl⟩,rfl,rfl,rfl⟩:=he;generalize Jr W k=V at hM hS hF W8 sF e0 eC eT;have hr:=hM.rd;refine⟨λIW=>?_,λRM w3 Rl=>⟨rfl,?_⟩⟩
 ·have IW:=Ot IW;have t1:(k:Int)<(V.IJ.length:Int):=Qo;have Wn:Ix m.tO W.IJ.length (k:Int):=by have:=hr.t.ix QT (i:=(k:Int)) Qo t1;rwa[eT] at this
  have next:∀{w9 w8:Wo},Q0 [y,y1] RI w9->Hj V (k:Int)=false->(∃(k':Nat),[I ((k:Int)+1),I W.now,.slice m.cO W.IF.length m.cC,.slice m.tO W.IJ.length m.tC,.slice m.gO W.IE.length m.gC]=I (k':Int)::Qc W m/\k'<=12/\Mv 8 base [y,y1] w m w9 (Jr W k') m)/\ZG 12 0 [I ((k:Int)+1),I W.now,.slice m.cO W.IF.length m.cC,.slice m.tO W.IJ.length m.tC,.slice m.gO W.IE.length m.gC] w9<ZG 12 0 [I (k:Int),I W.now,.slice m.cO W.IF.length m.cC,.slice m.tO W.IJ.length m.tC,.slice m.gO W.IE.length m.gC] w8:=λ{w9 w8} hx hm=>by
   refine⟨⟨k+1,rfl,Qo,?_⟩,?_⟩
   ·rw[W8,B' (by rw[hm];decide)];exact hM.step hx
   ·simp only[ZG,Xt,Ye,Ie];omega
  refine⟨Wn,_,z0d.f hr.t Qo t1 (j:=0) rfl,λg=>⟨⟨Qo,Qo⟩,λRE T' _=>next T' (by unfold Hj;rw[show (Q8 V (k:Int)).state=0 from Iz g];rfl)⟩,λg=>?_⟩;have kE:(Q8 V (k:Int)).state≠0:=ne_of_beq_false g;obtain⟨hu,d0,d1⟩:=hS.w.t (k:Int) Qo Qo kE;have hwh:=Jl (g:=(Q8 V (k:Int)).II) (mask:=(Q8 V (k:Int)).mask) hr hS.w.a.c2 hS.w.a.tree hu;rw[e0] at hwh;have hf:=D6 hS.w.a (Q8 V (k:Int)).II (Q8 V (k:Int)).mask;refine⟨Wn,_,z0d.f hr.t Qo t1 (j:=1) rfl,Wn,_,z0d.f hr.t Qo t1 (j:=4) rfl,_,hwh,Wn,_,z0d.f hr.t Qo t1 (j:=2) rfl,_,Yu,λg2=>⟨Wn,_,z0d.f hr.t Qo t1 (j:=1) rfl,_,L7,λRQ Su fK=>?_⟩,λg2=>⟨⟨Qo,Qo⟩,λRE T' _=>next T' (by unfold Hj;rw[show Zq (QD V (Q8 V (k:Int)).II (Q8 V (k:Int)).mask) (Q8 V (k:Int)).R1=true from (by have h:=g2;rw[I6] at h;exact h)];simp)⟩⟩;have nM:=hM.step Su;have RA:=Vi nM.own hS hk hK (t:=(k:Int)) (g:=(Q8 V (k:Int)).II) (c:=Dt (QD V (Q8 V (k:Int)).II (Q8 V (k:Int)).mask)) Qo Qo kE hu hf.1 hf.2;rw[e0] at RA;refine I3 RA ?_;rintro e1 S3 ⟨kB,eD⟩;refine⟨_,_,_,_,_,_,_,_,_,_,kB,nM.kept eD fK,⟨Qo,Qo⟩,λSj bE _=>⟨⟨k+1,rfl,Qo,?_⟩,?_⟩⟩
  ·have hm:Hj V (k:Int):=by
    unfold Hj;rw[A'];exact⟨by simpa using kE,g2⟩
   rw[W8,C' hm];exact(nM.call eD fK).step bE
  ·simp only[ZG,Xt,Ye,Ie];omega
 ·have RM:=Ou RM;rw[sF Qo];exact(hM.step Rl).close
section
variable {pb:Nat}
end
end
def Lo{W:Q7}(sw:SW Ql W):SF Ql (Ql+Qh) W:=sw.sf.mono (I2 _) (by simp only[Qh];decide)
noncomputable def Dx(W:Q7)(t x:Int):Int:=if M1 x=false\/x=0 then 1 else if Yn W t=false then 2 else if QO W=false then 10 else 0
def zoj(W:Q7)(t x:Int):PS:={ Q8 W t with mask:=x }
def zvj(W:Q7)(t x:Int):Q7:=Qb (G0 (J' W t (zoj W t x)))
def zq2{W:Q7}{t x:Int}(hW:Qr W)(hb:Dx W t x=0):Yn W t/\SF Ql (Ql+Qh) W/\SF Ql (Ql+Qh) (J' W t (zoj W t x)):=by
 have wp:=Qm.1 hW;unfold Dx at hb
 split at hb
 ·cases hb
 ·split at hb
  ·cases hb
  ·rename_i h2
   split at hb
   ·cases hb
   ·rename_i h3;have h1:Yn W t:=by simpa using h2
    have h3:QO W:=by simpa using h3
    have sw:=MS wp (Qm.1 h3);obtain⟨t0,t1,n⟩:=Y7 h1;have hl:=wp.a.t;have hv:=sw.tv t t0 Qo;exact⟨h1,Lo sw,Lo (sw.J' t0 Qo (λ_=>sw.t t t0 Qo n) hv.1 hv.2)⟩
def FG{W:Q7}{m:MW}{F K:Int}(sf:SF F K W)(hk:F+Qh<=K):Qc (G0 W) m=Qc W m:=by
 have hF:=(G1 sf hk).2;simp only[Qc,hF.n,hF.c,hF.t,hF.g]
section
variable {base pb:Nat}{W W':Q7}{m:MW}{w:Wo}{bar:Int}
def zd5{t x:Int}(h:XV [] w W m)(hl:VB W) :
  Cz Pt #[.agg (Qc W m).toArray,I t,I x] w λe w'=>∃v,e=.returned v/\QX (Yz W (Dx W t x) (zvj W t x)) w v w':=by
 refine zc4 _ _ _ _ _ _ _ _ _ _ t x (R:=λv w'=>QX (Yz W (Dx W t x) (zvj W t x)) w v w') ?_;intro y hy y1 cW wr Rk V';refine I3 (Zn (h.ext Rk) hl) ?_;rintro e wv (⟨hW,he,SQ⟩|⟨hW,m',he,hM,SQ⟩)
 ·exact⟨_,_,_,_,_,_,_,_,_,_,_,he,Qi SQ V',false,λg=>by simp at g,λ_ R5 Rl=>QX.bad hW ((Rk.trans SQ).fresh Rl λz hm=>.inl (YM hy cW z hm)),λg=>by simp at g⟩
 have hK:=Wk.begin hy cW Rk V' hM SQ;have hr:=hK.rd;have sR:((if QO W=true then 0 else 10:Int)==1)=false:=by split <;> rfl
 refine⟨_,_,_,_,_,_,_,_,_,_,_,he,Qi SQ V',_,λ_=>Xq,λg R5 Rl=>?_,λg0=>⟨_,JU hr hl.t,λg R6 Rl=>?_,λg=>⟨λg3 RE Rl=>?_,λg3=>?_⟩⟩⟩
 ·rw[sR] at g;have g:M1 x=false\/x=0:=by simpa using g
  have hb:Dx W t x=1:=by unfold Dx;rw[C' g]
  exact QX.no hW (by rw[hb];decide) (hK.step Rl) hb
 ·rw[sR] at g0;have g0:¬(M1 x=false\/x=0):=by simpa using g0
  have g:Yn W t=false:=by simpa using g
  have hb:Dx W t x=2:=by unfold Dx;rw[B' g0,C' g]
  exact QX.no hW (by rw[hb];decide) (hK.step Rl) hb
 ·rw[sR] at g0;have g0:¬(M1 x=false\/x=0):=by simpa using g0
  have g:Yn W t:=by simpa using g
  have bM:¬QO W:=λhr=>by rw[C' hr] at g3;simp at g3
  have hb:Dx W t x=10:=by unfold Dx;rw[B' g0,B' (by rw[g];decide),C' (by simpa using bM)]
  rw[B' bM];exact QX.no hW (by rw[hb];decide) (hK.step Rl) hb
 rw[sR] at g0;have g0:¬(M1 x=false\/x=0):=by simpa using g0
 have g:Yn W t:=by simpa using g
 have bM:QO W:=Iq λhr=>by rw[B' hr] at g3;simp at g3
 have hb:Dx W t x=0:=by unfold Dx;rw[B' g0,B' (by rw[g];decide),B' (by rw[bM];decide)]
 obtain⟨_,sf0,sf⟩:=zq2 hW hb;obtain⟨t0,t1,tn⟩:=Y7 g;have SS:Wk 8 [y,y1] w (Rw wv m'.tO (Int.toNat t*9+4) [I x]) (J' W t (zoj W t x)) m':=hK.Rw (hK.own.AF3 t0 t1 (j:=4) (vs:=[I x]) (x:=zoj W t x) rfl Qs) Hx;refine⟨hr.t.ix QT t0 t1,ztu hK.own hK.nb t0 t1 (j:=4) Qd,λRE T' dT=>?_⟩;have e5:Qc (J' W t (zoj W t x)) m'=Qc W m':=K9 _ _ _ _;have hE:zvj W t x=Qb (G0 (J' W t (zoj W t x))):=rfl;rw[hE];generalize J' W t (zoj W t x)=V at SS sf e5;have eH:=SS.step T';have RA:=JD eH.own sf (I2 _) (by simp only[Qh];decide);rw[e5] at RA;refine I3 RA ?_;rintro e1 Rb ⟨kB,eD⟩;refine⟨_,_,_,_,_,_,_,_,_,_,kB,eH.kept eD dT,λRQ Su fK=>?_⟩;have dZ:=(eH.Ss eD dT).step Su;have aT:=QA dZ.own (G1 sf (I2 _)).1.w (by simp only[Qh];decide) (by simp only[Qh];decide) dZ.base;rw[FG sf (I2 _),e5] at aT;refine I3 aT ?_;rintro e2 RI ⟨m2,bH,iD⟩;exact⟨_,_,_,_,_,_,_,_,_,_,bH,dZ.kept iD fK,λSj bE=>QX.ok hW hb ((dZ.Ss iD fK).step bE)⟩
def zdi(W:Q7)(g x:Int):ZD:={ gi W.IE g with IF:=x }
noncomputable def zlg(W:Q7)(g x:Int):Int:=Kw W g (M1 x&&(x != 0))
def zun(W:Q7)(g x:Int):Q7:=Qb (G0 (R3 W g (zdi W g x)))
def zx1{W:Q7}{g x:Int}(hW:Qr W)(hb:zlg W g x=0):Q6 W.IE g/\QO W/\SF Ql (Ql+Qh) W/\SF Ql (Ql+Qh) (R3 W g (zdi W g x))/\QH W.IE (R3 W g (zdi W g x)).IE:=by
 obtain⟨h1,h2,h3,h4⟩:=za7 hb;have wp:=Qm.1 hW;have sw:=MS wp (Qm.1 h4);obtain⟨u0,u1,hg⟩:=wp.a.u h3;have hl:=wp.a.gl;simp only[A',It,ne_eq] at h1;exact⟨h3,h4,Lo sw,Lo (sw.R3 (x:=zdi W g x) h3 rfl rfl rfl rfl ⟨hg.w1,hg.w2,h1.1,h1.2,hg.s,hg.len,λh=>Ir h h2,hg.none,hg.IL⟩),XZ u0 Qo rfl rfl rfl⟩
def q8{g x:Int}(h:XV [] w W m)(hl:VB W) :
  Cz Ow #[.agg (Qc W m).toArray,I g,I x] w λe w'=>∃v,e=.returned v/\QX (Yz W (zlg W g x) (zun W g x)) w v w':=by
 refine CG _ _ _ _ _ _ _ _ _ _ g x (R:=λv w'=>QX (Yz W (zlg W g x) (zun W g x)) w v w') ?_;intro y hy y1 cW;refine⟨_,Xq,λwr Rk V'=>?_⟩;refine I3 (Vx (g:=g) (ok:=M1 x&&(x != 0)) (h.ext Rk) hl) ?_;rintro e wv (⟨hW,he,SQ⟩|⟨hW,m',he,hM,SQ⟩)
 ·exact⟨_,_,_,_,_,_,_,_,_,_,_,he,Qi SQ V',λ_ R5 Rl=>QX.bad hW ((Rk.trans SQ).fresh Rl λz hm=>.inl (YM hy cW z hm)),λg=>by simp at g⟩
 have hK:=Wk.begin hy cW Rk V' hM SQ;refine⟨_,_,_,_,_,_,_,_,_,_,_,he,Qi SQ V',λg1 R5 Rl=>QX.no hW (by simpa[zlg] using g1) (hK.step Rl) rfl,λg1=>?_⟩;have hb:zlg W g x=0:=by simpa[zlg] using g1
 have hr:=hK.rd;obtain⟨hu,AB9,sf0,sf,hT⟩:=zx1 hW hb;obtain⟨u0,u1,_⟩:=Q2.1 hu;have bU:=sf0.w.a.gl;have SS:Wk 8 [y,y1] w (Rw wv m'.gO (Int.toNat g*14+4) [I x]) (R3 W g (zdi W g x)) m':=hK.Rw (hK.own.Ae8 u0 Qo (g:=zdi W g x) rfl rfl rfl (j:=4) (vs:=[I x]) rfl Qs) Ag;refine⟨hr.g.ix (i:=g) u0 u1,zrw hK.own hK.nb (i:=g) u0 Qo (j:=4) (k:=1) Qd,λRE T' dT=>?_⟩;have e5:Qc (R3 W g (zdi W g x)) m'=Qc W m':=by simp[Qc,R3]
 have hE:zun W g x=Qb (G0 (R3 W g (zdi W g x))):=rfl;rw[hE];generalize R3 W g (zdi W g x)=V at SS sf e5;have eH:=SS.step T';have RA:=JD eH.own sf (I2 _) (by simp only[Qh];decide);rw[e5] at RA;refine I3 RA ?_;rintro e1 Rb ⟨kB,eD⟩;refine⟨_,_,_,_,_,_,_,_,_,_,kB,eH.kept eD dT,λRQ Su fK=>?_⟩;have dZ:=(eH.Ss eD dT).step Su;have aT:=QA dZ.own (G1 sf (I2 _)).1.w (by simp only[Qh];decide) (by simp only[Qh];decide) dZ.base;rw[FG sf (I2 _),e5] at aT;refine I3 aT ?_;rintro e2 RI ⟨m2,bH,iD⟩;exact⟨_,_,_,_,_,_,_,_,_,_,bH,dZ.kept iD fK,λSj bE=>QX.ok hW hb ((dZ.Ss iD fK).step bE)⟩
end
def onC(W:Q7)(c:Int)(j:Nat):Bool:=((Q8 W (j:Int)).state==1)&&((Q8 W (j:Int)).R1==c)
def zme(W:Q7)(c:Int)(j:Nat):Int:=if onC W c j=true then 1 else 0
def zlr(W:Q7)(c:Int)(j:Nat):Int:=if onC W c j=true then (Q8 W (j:Int)).load else 0
def zor(W:Q7)(c:Int):Int:=Js (zme W c) W.IJ.length
def zls(W:Q7)(c:Int):Int:=Js (zlr W c) W.IJ.length
def z17(W:Q7)(a b:Int):Bool:=decide (zls W a<zls W b)||((zls W a==zls W b)&&decide (zor W a<zor W b))
def MM(W:Q7)(m:Int):Nat->Int
 |0 => -1
 |k+1=>if (Zq m (k:Int)&&(decide (MM W m k<0)||z17 W (k:Int) (MM W m k)))=true then (k:Int) else MM W m k
def K4(W:Q7)(m:Int):Int:=MM W m W.IF.length
def zoo{W:Q7}{m:Int}{k:Nat}(h:(Zq m (k:Int)&&(decide (MM W m k<0)||z17 W (k:Int) (MM W m k)))):MM W m (k+1)=(k:Int):=C' h
def zs8{W:Q7}{m:Int}{k:Nat}(h:(Zq m (k:Int)&&(decide (MM W m k<0)||z17 W (k:Int) (MM W m k)))=false):MM W m (k+1)=MM W m k:=B' (by rw[h];decide)
def zfd(W:Q7)(m:Int):∀k:Nat,-1<=MM W m k/\MM W m k<(k:Int)/\(0<=MM W m k->Zq m (MM W m k))
 |0=>⟨I2 _,by show (-1:Int)<0;decide,λh=>by have:(0:Int)<=-1:=h;omega⟩
 |k+1=>by
  have ih:=zfd W m k;simp only[MM];split
  ·rename_i h;simp only[A'] at h;exact⟨Qo,Qo,λ_=>h.1⟩
  ·exact⟨ih.1,Qo,ih.2.2⟩
def zjn{W:Q7}{m:Int}{j:Nat}(h:Zq m (j:Int)):∀k:Nat,j<k->0<=MM W m k
 |0,hk=>Ir hk (Nat.not_lt_zero j)
 |k+1,hk=>by
  by_cases e:j=k
  ·subst e
   by_cases hn:MM W m j<0
   ·rw[zoo (by rw[h,Ih hn];rfl)];omega
   ·simp only[MM];split <;> omega
  ·have:=zjn (W:=W) h k Qo;simp only[MM]
   split <;> omega
def z5b{W:Q7}(ha:WA W){m:Int}(hm:M1 m)(h0:m≠0)(hs:∀c:Int,Zq m c->0<=c/\c<(W.IF.length:Int)):0<=K4 W m/\K4 W m<(W.IF.length:Int)/\Zq m (K4 W m):=by
 have hf:=B2 hm h0;have hr:=hs _ hf;have e:((Dt m).toNat:Int)=Dt m:=Qo;have h1:=zjn (W:=W) (m:=m) (j:=(Dt m).toNat) (by rw[e];exact hf) W.IF.length Qo;have h2:=zfd W m W.IF.length;exact⟨h1,h2.2.1,h2.2.2 h1⟩
def HW{W:Q7}(ha:WA W)(g mask:Int):0<=K4 W (QD W g mask)/\K4 W (QD W g mask)<(W.IF.length:Int)/\Zq (QD W g mask) (K4 W (QD W g mask)):=
 z5b ha (HE ha g mask).1 (HE ha g mask).2 λ_ h=>GY ha h
def Ev(m:Int):Nat->Int
 |0=>0
 |k+1=>if Zq m (k:Int)=true then Ev m k+1 else Ev m k
def zeh(m:Int):∀k:Nat,0<=Ev m k/\Ev m k<=(k:Int)
 |0=>by simp[Ev]
 |k+1=>by
  have:=zeh m k;simp only[Ev]
  split <;> omega
def z68(W:Q7):Prop:=∀t:Int,0<=t->t<12->0<=(Q8 W t).load/\(Q8 W t).load<=8000000
def zyk{W:Q7}(wp:XQ W):z68 W:=λt t0 t1=>by
 rcases wp.t t t0 t1 with h|⟨_,h⟩
 ·rw[h.2];decide
 ·exact⟨h.l1,h.l2⟩
def zra(W:Q7)(c:Int)(j:Nat):0<=zme W c j/\zme W c j<=1:=by unfold zme;split <;> omega
def zrb{W:Q7}(c:Int)(k:Nat):0<=Js (zme W c) k/\Js (zme W c) k<=(k:Int)*1:=VZ (zra W c) k
def zeb{W:Q7}(hl:z68 W)(c:Int):∀k:Nat,k<=12->0<=Js (zlr W c) k/\Js (zlr W c) k<=(k:Int)*8000000
 |0,_=>by simp[Js]
 |k+1,hk=>by
  have ih:=zeb hl c k Qo;have h1:=hl (k:Int) Qo Qo;simp only[Js];have h2:0<=zlr W c k/\zlr W c k<=8000000:=by unfold zlr;split <;> omega
  omega
section
variable {W:Q7}{m:MW}{w:Wo}{bs:List Nat}{p:OA}
def PA{c:Int}(h:XV bs w W m)(jF:W.IJ.length=12):PX bs Jj #[.agg (Qc W m).toArray,I c] w (I (zor W c)):=
 zam _ _ _ _ _ _ _ _ _ _ c λwr hx=>by
  have h:=(h.ext hx).less (cs:=[]) Qs;intro _ _;refine Pc W.IJ.length 0 rfl (λx k=>k<=W.IJ.length/\x=Js (zme W c) k) ⟨Ic _,rfl⟩ λx k ⟨hk,Rk⟩=>⟨λIW=>?_,λRM=>?_⟩
  ·have IW:=Ot IW;have hr:=zrb (W:=W) c k;refine⟨h.t.ix QT Qo IW,_,h.t.f Qo IW (j:=0) rfl,λ_=>h.t.ix QT Qo IW,_,λ_=>h.t.f Qo IW (j:=2) rfl,λg2=>⟨⟨Qo,Qo⟩,⟨Qo,Qo⟩,QN Qo ⟨Qo,?_⟩⟩,λg2=>⟨⟨Qo,Qo⟩,QN Qo ⟨Qo,?_⟩⟩⟩
   ·have g2:onC W c k:=g2;simp only[Js,zme];rw[C' g2,Rk]
   ·have g2:onC W c k=false:=g2;simp only[Js,zme];rw[B' (by rw[g2];decide),Rk,Int.add_zero]
  ·have RM:=Ou RM;have:k=W.IJ.length:=Qo;subst this;rw[Rk];rfl
def Vw{c:Int}(h:XV bs w W m)(jF:W.IJ.length=12)(hl:z68 W):PX bs Xw #[.agg (Qc W m).toArray,I c] w (I (zls W c)):=
 zak _ _ _ _ _ _ _ _ _ _ c λwr hx=>by
  have h:=(h.ext hx).less (cs:=[]) Qs;intro _ _;refine Pc W.IJ.length 0 rfl (λx k=>k<=W.IJ.length/\x=Js (zlr W c) k) ⟨Ic _,rfl⟩ λx k ⟨hk,Rk⟩=>⟨λIW=>?_,λRM=>?_⟩
  ·have IW:=Ot IW;have hr:=zeb hl c k Qo;have uG:=hl (k:Int) Qo Qo;refine⟨h.t.ix QT Qo IW,_,h.t.f Qo IW (j:=0) rfl,λ_=>h.t.ix QT Qo IW,_,λ_=>h.t.f Qo IW (j:=2) rfl,λg2=>⟨h.t.ix QT Qo IW,(Q8 W (k:Int)).load,h.t.f Qo IW (j:=8) rfl,⟨Qo,Qo⟩,⟨Qo,Qo⟩,QN Qo ⟨Qo,?_⟩⟩,λg2=>⟨⟨Qo,Qo⟩,QN Qo ⟨Qo,?_⟩⟩⟩
   ·have g2:onC W c k:=g2;simp only[Js,zlr];rw[C' g2,Rk]
   ·have g2:onC W c k=false:=g2;simp only[Js,zlr];rw[B' (by rw[g2];decide),Rk,Int.add_zero]
  ·have RM:=Ou RM;have:k=W.IJ.length:=Qo;subst this;rw[Rk];rfl
def Gm{x:Int}(h:XV bs w W m)(ha:WA W)(hl:z68 W):PX bs UN #[.agg (Qc W m).toArray,I x] w (I (K4 W x)):=
 zal _ _ _ _ _ _ _ _ _ _ x λwr hx=>by
  have h:=(h.ext hx).less (cs:=[]) Qs;have qT:=ha.c2;have jF:=ha.t;intro _ _;refine Pc W.IF.length 0 rfl (λb k=>k<=W.IF.length/\b=MM W x k) ⟨Ic _,rfl⟩ λb k ⟨hk,hb⟩=>⟨λIW=>?_,λRM=>?_⟩
  ·have IW:=Ot IW;have key:(((decide (b<0))||(decide (zls W (k:Int)<zls W b)))||((zls W (k:Int)==zls W b)&&(decide (zor W (k:Int)<zor W b))))=(decide (MM W x k<0)||z17 W (k:Int) (MM W x k)):=by rw[hb,Bool.or_assoc];rfl
   refine⟨_,Yu,λg=>⟨⟨Qo,Qo⟩,QN Qo ⟨Qo,?_⟩⟩,λg=>⟨_,λ_=>Vw h jF hl,_,λ_=>Vw h jF hl,_,λ_=>Vw h jF hl,_,λ_=>Vw h jF hl,_,λ_ _=>PA h jF,_,λ_ _=>PA h jF,λg2=>⟨⟨Qo,Qo⟩,QN Qo ⟨Qo,?_⟩⟩,λg2=>⟨⟨Qo,Qo⟩,QN Qo ⟨Qo,?_⟩⟩⟩⟩
   ·have g:Zq x (k:Int)=false:=by simpa using g
    rw[hb,zs8 (by rw[g];rfl)]
   ·have g:Zq x (k:Int):=by simpa using g
    rw[zoo (by rw[g,<-key,g2];rfl)]
   ·have g:Zq x (k:Int):=by simpa using g
    rw[hb,zs8 (by rw[g,<-key,g2];rfl)]
  ·have RM:=Ou RM;have:k=W.IF.length:=Qo;subst this;rw[hb];rfl
def NC{x:Int}:PX bs Tw #[I x] w (I (Ev x 4)):=
 NU x λwr hx=>by
  refine Pc 4 0 rfl (λn k=>k<=4/\n=Ev x k) ⟨Qd,rfl⟩ λn k ⟨hk,hn⟩=>⟨λIW=>?_,λRM=>?_⟩
  ·have IW:=Ot IW;have hr:=zeh x k;refine⟨_,Yu,λg=>⟨⟨Qo,Qo⟩,⟨Qo,Qo⟩,QN Qo ⟨Qo,?_⟩⟩,λg=>⟨⟨Qo,Qo⟩,QN Qo ⟨Qo,?_⟩⟩⟩
   ·simp only[Ev];rw[C' g,hn]
   ·simp only[Ev];rw[B' (by rw[g];decide),hn]
  ·have RM:=Ou RM;have:k=4:=Qo;subst this;rw[hn]
end
def zba(n:Int):Int:=if YY n 1 4=true then (if n=1 then 0 else if n=2 then 1 else 2) else 0
def zu2{n:Int}(h:YY n 1 4):(n=1/\zba n=0)\/(n=2/\zba n=1)\/(n=3/\zba n=2)\/(n=4/\zba n=2):=by
 have:=Qu.1 h;have:n=1\/n=2\/n=3\/n=4:=Qo;rcases this with rfl|rfl|rfl|rfl
 ·exact .inl ⟨rfl,Qd⟩
 ·exact .inr (.inl ⟨rfl,Qd⟩)
 ·exact .inr (.inr (.inl ⟨rfl,Qd⟩))
 ·exact .inr (.inr (.inr ⟨rfl,Qd⟩))
def zy0(c lv j:Int):Bool:=Int.fdiv j (2 ^ (min (Int.toNat (lv+1)) 64))==Int.fdiv c (2 ^ (min (Int.toNat (lv+1)) 64))
def zzl(c lv:Int):Nat->Int
 |0=>0
 |k+1=>if zy0 c lv (k:Int)=true then zzl c lv k+Uh k else zzl c lv k
def zzm(c lv:Int):∀k:Nat,k<=4->0<=zzl c lv k/\zzl c lv k<Uh k
 |0,_=>by simp[zzl,Uh]
 |k+1,h=>by
  have ih:=zzm c lv k Qo
  have hb:Uh (k+1)=2*Uh k/\0<=Uh k:=by
   have:k=0\/k=1\/k=2\/k=3:=Qo;rcases this with rfl|rfl|rfl|rfl <;> decide
  simp only[zzl]
  split <;> omega
def Ac(n c lv:Int):Bool:=(YY n 1 4&&YY c 0 (n-1))&&YY lv 0 (zba n-1)
def z6w(n c lv:Int):Int:=if Ac n c lv=true then zzl c lv n.toNat else 0
section
variable {w:Wo}{bs:List Nat}{n c lv:Int}
def z18{n:Int}{k:Nat}(h:YY n 1 4)(hk:(k:Int)<=zba n):(decide ((1*2 ^ (min (Int.toNat (k:Int)) 64):Int)<n)->(k:Int)+1<=zba n)/\(decide ((1*2 ^ (min (Int.toNat (k:Int)) 64):Int)<n)=false->(k:Int)=zba n):=by
 rcases zu2 h with ⟨rfl,e⟩|⟨rfl,e⟩|⟨rfl,e⟩|⟨rfl,e⟩ <;> rw[e] at hk ⊢
 ·have:k=0:=Qo;subst this;decide
 ·have:k=0\/k=1:=Qo;rcases this with rfl|rfl <;> decide
 ·have:k=0\/k=1\/k=2:=Qo;rcases this with rfl|rfl|rfl <;> decide
 ·have:k=0\/k=1\/k=2:=Qo;rcases this with rfl|rfl|rfl <;> decide
def zsu(n:Int):0<=zba n/\zba n<=2:=by
 unfold zba;split
 ·split
  ·omega
  ·split <;> omega
 ·omega
def PM:PX bs J2 #[I n] w (I (zba n)):=
 Dw n λwr hx=>by
  refine⟨_,Qq,λq=>?_,λq=>?_⟩
  ·have q:YY n 1 4=false:=by simpa using q
   have:zba n=0:=B' (by rw[q];decide);rw[this]
  ·have q:YY n 1 4:=by simpa using q
   have hl:=zsu n;refine⟨λvs=>∃k:Nat,vs=[I (k:Int)]/\(k:Int)<=zba n,λvs=>(2-Ye 0 vs).toNat,⟨0,rfl,hl.1⟩,?_⟩;rintro k' ⟨k,he,hk⟩;simp only[I4,I5,true_and,and_true] at he;subst he;have hb:=N4 (k:=k) Qo;have eI:(1*2 ^ (min (Int.toNat (k:Int)) 64):Int)=Uh k:=rfl;obtain⟨s1,s2⟩:=z18 q hk;refine⟨⟨Qo,Qo⟩,⟨Qo,by rw[eI];exact⟨Qo,Qo⟩⟩,λg=>⟨⟨Qo,Qo⟩,⟨k+1,Qs,by have:=s1 g;omega⟩,?_⟩,λg=>by rw[<-s2 g]⟩;have:=s1 g;show (2-((k:Int)+1)).toNat<(2-(k:Int)).toNat;omega
def zvt(h:Ac n c lv):YY n 1 4/\0<=c/\c<n/\0<=lv/\lv<=1:=by
 unfold Ac at h;simp only[A'] at h;have h1:=Qu.1 h.1.2;have h2:=Qu.1 h.2;have:=zsu n;exact⟨h.1.1,h1.1,Qo,h2.1,Qo⟩
def FQ:PX bs VN #[I n,I c,I lv] w (I (z6w n c lv)):=
 Bi n c lv λwr hx=>by
  have hl:=zsu n
  have e:(((!YY n 1 4)||(!YY c 0 (n-1)))||(!YY lv 0 (zba n-1))) = !Ac n c lv:=by
   unfold Ac;rw[Bool.not_and,Bool.not_and]
  refine⟨_,Qq,λq=>?_,_,λ_=>Qq,_,λ_=>PM,λ_=>⟨Qo,Qo⟩,_,λ_=>Qq,λq=>?_,λq=>?_⟩
  ·have q:=Qu.1 (by simpa using q:YY n 1 4);exact⟨Qo,Qo⟩
  ·rw[e] at q;have:z6w n c lv=0:=B' (by simpa using q);rw[this]
  ·rw[e] at q;have q:Ac n c lv:=by simpa using q
   obtain⟨h1,c0,c1,l0,l1⟩:=zvt q;have hn:=Qu.1 h1;obtain⟨N,rfl⟩:∃N:Nat,n=(N:Int):=⟨n.toNat,Qo⟩;have hD:z6w (N:Int) c lv=zzl c lv N:=by unfold z6w;rw[C' q,Ig]
   rw[hD];refine Pc N 0 rfl (λx k=>k<=N/\x=zzl c lv k) ⟨Ic _,rfl⟩ λx k ⟨hk,Rk⟩=>⟨λIW=>?_,λRM=>?_⟩
   ·have IW:=Ot IW;have hb:=N4 (k:=k) Qo;have hs:=zzm c lv k Qo;have eI:(1*2 ^ (min (Int.toNat (k:Int)) 64):Int)=Uh k:=rfl;refine⟨⟨Qo,Qo⟩,⟨Qo,Qo⟩,Qo,⟨Qo,Qo⟩,⟨Qo,Qo⟩,Qo,λhu=>?_,λhu=>?_⟩
    ·rw[eI,Rk];refine⟨⟨Qo,Qo⟩,⟨Qo,Qo,Qo⟩,⟨Qo,Qo⟩,⟨Qo,Qo⟩,QN Qo ⟨Qo,?_⟩⟩;simp only[zzl];rw[C' (show zy0 c lv (k:Int)=true from hu)]
    ·refine⟨⟨Qo,Qo⟩,QN Qo ⟨Qo,?_⟩⟩;rw[Rk];simp only[zzl];rw[B' (by rw[show zy0 c lv (k:Int)=false from hu];decide)]
   ·have RM:=Ou RM;have:k=N:=Qo;subst this;rw[Rk]
end
def zaw(W:Q7)(g:Int):List Int:=QR W.IE g++[0]
def zxn(W:Q7)(g c:Int):Bool:=(zaw W g).any λx=>Xu W x c
def zpe(W:Q7):zaw W 0=[0]:=by unfold zaw;rw[show QR W.IE 0=[] from Zh W.IE 3];rfl
def zpf{W:Q7}(ht:Yr W.IE){g:Int}(hu:Q6 W.IE g)(hz:g≠0):zaw W g=g::zaw W (gi W.IE g).IG:=by
 unfold zaw;rw[Yq ht hu hz,List.cons_append]
def zz9{W:Q7}(ht:Yr W.IE){g:Int}(hu:Q6 W.IE g):∀x∈zaw W g,Q6 W.IE x:=by
 have hr:Q6 W.IE 0:=Q2.2 ⟨Qd,by have:=ht.len;omega,ht.ru⟩;refine MK ht (Q:=λh=>∀x∈zaw W h,Q6 W.IE x) ?_ (λh hu hz ih=>?_) g hu
 ·rw[zpe];intro x hx;have:x=0:=by simpa using hx
  rw[this];exact hr
 ·rw[zpf ht hu hz];intro x hx;rcases Ii.1 hx with rfl|hx
  ·exact hu
  ·exact ih x hx
def zfa(gs:List ZD):∀(f:Nat) (g:Int),(UZ f gs g).length<=f
 |0,_=>I7 _
 |f+1,g=>by
  simp only[UZ];split
  ·simp
  ·have:=zfa gs f (gi gs g).IG;simp;omega
def ztr(W:Q7)(g:Int):(zaw W g).length<=4:=by
 unfold zaw;have:=zfa W.IE 3 g;simp;omega
def V4(W:Q7)(t c:Int):Bool:=
 (!(((((((Q8 W t).state != 1)||((Q8 W t).R1==c))||((gi W.IF (Q8 W t).R1).cur==t))||(!Zf W t))||(!Zq (QD W (Q8 W t).II (Q8 W t).mask) c)))) && !zxn W (Q8 W t).II c
def zty(W:Q7)(b c:Int):Bool:=O1 (λt=>((Q8 W (t:Int)).R1==b)&&V4 W (t:Int) c) 12
def Ar{W:Q7}{t c:Int}(h:V4 W t c):(Q8 W t).state=1/\(Q8 W t).R1≠c:=by
 unfold V4 at h;simp only[A',ID,H',bne_eq_false_iff_eq,beq_eq_false_iff_ne] at h;exact⟨h.1.1.1.1.1,h.1.1.1.1.2⟩
section
variable {W:Q7}{m:MW}{w:Wo}{bs:List Nat}{p:OA}
def zot(W:Q7)(g:Int):List Int:=if g=0 then [] else zaw W (gi W.IE g).IG
def zjq{W:Q7}(ht:Yr W.IE){g:Int}(hu:Q6 W.IE g):g::zot W g=zaw W g:=by
 unfold zot
 by_cases hz:g=0
 ·subst hz;rw[C' rfl,zpe]
 ·rw[B' hz,zpf ht hu hz]
def Gq{t:Int}(h:XV [] w W m)(ht:Yr W.IE)(t0:0<=t)(t1:t<(W.IJ.length:Int))(hu:Q6 W.IE (Q8 W t).II) :
  Cz UQ #[.agg (Qc W m).toArray,I t] w λe w'=>∃o c',e=.returned (.slice o (zaw W (Q8 W t).II).length c')/\UD U2 1 Qg w.heap.size w' o c' (zaw W (Q8 W t).II)/\Q0 [] w w':=by
 refine(CZ _ _ _ _ _ _ _ _ _ _ t (R:=λv w'=>∃o c',v=.slice o (zaw W (Q8 W t).II).length c'/\UD U2 1 Qg w.heap.size w' o c' (zaw W (Q8 W t).II)/\Q0 [] w w') ?_).mono λe w' ⟨v,he,o,c',hv,h1⟩=>⟨o,c',by rw[he,hv],h1⟩
 intro b hb;refine⟨h.t.ix QT t0 t1,_,h.t.f t0 t1 (j:=1) rfl,λb1 wb S9 bY WO hn=>?_⟩;have hlen:=ztr W (Q8 W t).II;have hO0:UD U2 1 Qg w.heap.size wb (some ⟨b1,0,none⟩) 1 [(Q8 W t).II]:=.inr ⟨b1,[],rfl,bY,WO,by simp[U2],Qs⟩;have hbn:∀x∈[b],w.heap.size<=x:=by simpa using hb
 refine⟨λvs w1=>∃(g:Int) (l:List Int) (o:OA) (c':Nat),vs=[I g,.slice o l.length c']/\Q6 W.IE g/\l++zot W g=zaw W (Q8 W t).II/\Sc w [b] w1/\Ob U2 1 Qg w.heap.size [b] w1 o c' l,λvs _=>(dep 3 W.IE (Ye 0 vs)).toNat,
  λwr hx _=>⟨_,[(Q8 W t).II],_,1,rfl,hu,zjq ht hu,(Sc.mk S9 hbn).step hx,⟨hO0.ext hx (by simp[QL];exact λe=>hn (by simp[e])),by simp[QL];exact λe=>hn (by simp[e])⟩⟩,?_⟩
 rintro g oO oL oC w1 dE ⟨g',l,o',c',he,tI,hI,s1,hO⟩;simp only[I4,I5,Iv,true_and,and_true] at he;obtain⟨rfl,rfl,rfl,rfl⟩:=he;have hg:=((h.wide (cs:=[b]) λx hm=>.inr (hbn x hm)).ext s1.ext.of_nil).g
 have hll:l.length<=4:=by
  have:=congrArg List.length hI;simp at this;omega
 refine⟨λhz=>?_,λhz wr hx=>?_⟩
 ·have hz:g≠0:=by simpa using hz
  obtain⟨hp,a,b',d,e,e2,hd⟩:=Y0 ht tI hz;refine⟨hg.ix a b',_,hg.IG a b',λb2 cD R5 Rk V' CF9=>?_⟩;have s2:=s1.put Rk cD;have nG:=hO.put Rk cD;obtain⟨o2,c2,w2,We,uF,hO3,Rl⟩:=nG.AG3 Xe MV (x:=(gi W.IE g).IG) V' s2.ext.size CF9 (z45 _) Qo Qd YX #[false,false];have s3:=s2.call Rl λx hm=>(nG.own.lt x hm).1
  refine⟨_,_,_,w2,We,uF,λR6 T' _=>⟨⟨_,l++[(gi W.IE g).IG],o2,c2,rfl,hp,?_,(s3.step T').sub Qs,(hO3.step T').sub Qs⟩,?_⟩⟩
  ·rw[List.append_assoc,List.singleton_append,zjq ht hp,<-hI];unfold zot;rw[B' hz]
  ·show (dep 3 W.IE (gi W.IE g).IG).toNat<(dep 3 W.IE g).toNat;omega
 ·have hz:g=0:=by simpa using hz
  subst hz
  have hl:l=zaw W (Q8 W t).II:=by
   rw[<-hI];unfold zot;rw[C' rfl,List.append_nil]
  subst hl;exact⟨oO,oC,rfl,(hO.step hx).own,(s1.step hx).ext⟩
def Gn{t c:Int}(h:XV bs w W m)(wp:XQ W)(t0:0<=t)(t1:t<(W.IJ.length:Int))(c0:0<=c)(c1:c<(W.IF.length:Int)):PX bs UO #[.agg (Qc W m).toArray,I t,I c] w (.bool (V4 W t c)):=by
 refine Lk λwr0 sJ=>CT _ _ _ _ _ _ _ _ _ _ t c (R:=λv w'=>v=.bool (V4 W t c)/\Q0 [] wr0 w') ?_
 have h:=(h.ext sJ).less (cs:=[]) Qs;have li:((Q8 W t).state != 1)=false->Q6 W.IE (Q8 W t).II/\0<=(Q8 W t).R1/\(Q8 W t).R1<(W.IF.length:Int):=λhs=>wp.li t0 t1 (by simpa using hs)
 intro b hb;refine⟨h.t.ix QT t0 t1,_,_,_,_,_,_,_,_,_,h.t t t0 t1,λb1 bY=>?_⟩;refine⟨λg=>?_,(gi W.IF (Q8 W t).R1).cur,λg=>?_,Zf W t,λg=>?_,QD W (Q8 W t).II (Q8 W t).mask,λg=>?_,_,λg=>Yu,λg wr hx=>?_,λg R5 S9 dE=>?_⟩
 ·have g:(((Q8 W t).state != 1)||((Q8 W t).R1==c))=false:=g;simp only[H'] at g;have:=li g.1;exact h.c.ix Y1 this.2.1 this.2.2
 ·have g:(((Q8 W t).state != 1)||((Q8 W t).R1==c))=false:=g;simp only[H'] at g;have:=li g.1;exact(h.c _ this.2.1 this.2.2).get 1 _ rfl
 ·exact Vy h wp.a t0 t1 λhs=>wp.li t0 t1 hs
 ·have g:(((((Q8 W t).state != 1)||((Q8 W t).R1==c))||((gi W.IF (Q8 W t).R1).cur==t))||(!Zf W t))=false:=g;simp only[H'] at g;exact Jl h wp.a.c2 wp.a.tree (li g.1.1.1).1
 ·have:V4 W t c=false:=by
   unfold V4;rw[show ((((((Q8 W t).state != 1)||((Q8 W t).R1==c))||((gi W.IF (Q8 W t).R1).cur==t))||(!Zf W t))||(!Zq (QD W (Q8 W t).II (Q8 W t).mask) c))=true from g];rfl
  rw[this];exact⟨rfl,hx⟩
 have g:((((((Q8 W t).state != 1)||((Q8 W t).R1==c))||((gi W.IF (Q8 W t).R1).cur==t))||(!Zf W t))||(!Zq (QD W (Q8 W t).II (Q8 W t).mask) c))=false:=g;have eC:V4 W t c = !zxn W (Q8 W t).II c:=by unfold V4;rw[g];rfl
 simp only[H'] at g;obtain⟨hu,_,_⟩:=li g.1.1.1.1;rw[eC]
 have hbn:∀x∈[b,b1],wr0.heap.size<=x:=by
  intro x hm;simp only[Ii,List.not_mem_nil,or_false] at hm;rcases hm with rfl|rfl
  ·exact hb
  ·exact bY
 refine(Gq (h.ext S9) wp.a.tree t0 t1 hu).mono λe w2 ⟨o,c',he,hO,Rk⟩=>⟨_,_,_,he,Qi Rk dE,?_⟩
 have DD3:=ztr W (Q8 W t).II;have s2:Sc wr0 [b,b1] w2:=⟨S9.trans Rk,hbn⟩;have nG:Ob U2 1 Qg R5.heap.size [b,b1] w2 o c' (zaw W (Q8 W t).II):=Ob.of hO dE
 refine Jm (zaw W (Q8 W t).II).length 0 rfl (λk w3=>k<=(zaw W (Q8 W t).II).length/\Sc wr0 [b,b1] w3/\Ob U2 1 Qg R5.heap.size [b,b1] w3 o c' (zaw W (Q8 W t).II)/\∀j:Nat,j<k->Xu W (gi (zaw W (Q8 W t).II) (j:Int)) c=false)
  (λw3 Rl _=>⟨Ic _,s2.step Rl,nG.step Rl,λj hj=>Ir hj (Nat.not_lt_zero j)⟩) λk w3 _ ⟨hk,s3,hO3,hI⟩=>⟨λIW=>?_,λRM wr hx=>?_⟩
 ·have IW:=Ot IW;have hR:=hO3.rd Xe.len;have hgm:=zqd (l:=zaw W (Q8 W t).II) (i:=(k:Int)) Qo IW;have hW3:=(h.wide (cs:=[b,b1]) λx hm=>.inr (hbn x hm)).ext s3.ext.of_nil;refine⟨hR.ix XU Qo IW,_,hR (k:Int) Qo IW,_,LK hW3 wp.a (zz9 wp.a.tree hu _ hgm) c0 c1,λgd wr hx=>⟨?_,(s3.step hx).ext⟩,λgd=>⟨⟨Qo,Qo⟩,λwr hx _=>Qw Qo ⟨Qo,s3.step hx,hO3.step hx,λj hj=>?_⟩⟩⟩
  ·have:zxn W (Q8 W t).II c:=List.any_eq_true.2 ⟨_,hgm,gd⟩;rw[this];rfl
  ·by_cases gG:j<k
   ·exact hI j gG
   ·have:j=k:=Qo;subst this;exact gd
 ·have RM:=Ou RM;have hkn:k=(zaw W (Q8 W t).II).length:=Qo
  have:zxn W (Q8 W t).II c=false:=by
   cases hd:zxn W (Q8 W t).II c with
   |false=>rfl
   |true=>
    obtain⟨x,hx,hdx⟩:=List.any_eq_true.1 hd;obtain⟨j,hj,hjx⟩:=List.getElem_of_mem hx;have:=hI j Qo;rw[Ju hj,hjx,hdx] at this;cases this
  rw[this];exact⟨rfl,(s3.step hx).ext⟩
end
end Go.Proofs.YtjinkcmkgnofjaaGreatDoor
