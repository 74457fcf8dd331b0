/- Part 12 of what the law FnEither needs. -/
import Derived.Test.YtjinkcmkgnofjaaGreatDoorFnEitherPk
import Derived.Laws.BytesArg
set_option linter.all false
set_option maxRecDepth 100000
set_option maxHeartbeats 8000000
namespace Go.Proofs.YtjinkcmkgnofjaaGreatDoor
open Go.RowKit
def zjt{α:Type}[Inhabited α]{l:List α}{i:Int}(h0:0<=i)(h1:i<(l.length:Int)):l.set i.toNat (gi l i)=l:=by
 obtain⟨k,rfl⟩:=Int.eq_ofNat_of_zero_le h0;rw[Jq Qo,Ig,List.set_getElem_self]
def z7l(G:Zb)(K:Int):Int:=K+1+1+1+1+1+1+1+1+1+1+1+1*(G.IM.locals.length:Int)+1*(G.IM.RE.length:Int)+5*(G.IH.length:Int)
def gK(gs:List Zb)(k:Int):Nat->Int
 |0=>k
 |i+1=>z7l (gi gs (i:Int)) (gK gs k i)
section
variable {n base:Nat}{W:Q7}{m:MW}{w w':Wo}{G G':Zb}{i:Int}
end
def kC(W:Q7):Int:=1+5*(W.IF.length:Int)
def kT(W:Q7):Int:=kC W+9*(W.IJ.length:Int)
def mK(W:Q7):Int:=gK W.IE (kT W) W.IE.length
section
variable {n base:Nat}{W:Q7}{m:MW}{w w':Wo}{bs:List Nat}
end
def Bp:MQ:=⟨0,0,0,0,0,0,0,0,0⟩
def Z1(W:Q7)(t:Int):Q7:=if (gi W.IF (Q8 W t).R2).cur=t then Rb W (Q8 W t).R2 else W
noncomputable def Oa(W:Q7)(t:Int):Int:=if Yd W t=false then 2 else if QO W=false then 10 else 0
def Fw(W:Q7)(t:Int):Q7:=Qf (J' (Z1 W t) t Bp)
def zn3{K:Int}{W:Q7}(h:SW K W){t:Int}(t0:0<=t)(t1:t<12)(n:(Q8 W t).state≠0):SW K (Z1 W t):=by
 unfold Z1;split
 ·exact h.Rb (h.t t t0 t1 n).2.1 (h.t t t0 t1 n).2.2
 ·exact h
def zyd(W:Q7)(t:Int):(Z1 W t).IE=W.IE:=by unfold Z1;split <;> rfl
def zaz{W:Q7}{t:Int}(hW:Qp W)(hb:Oa W t=0):Yd W t/\QO W/\SW Qn W/\SW Qn (J' W t Bp)/\SW Qn (J' (Z1 W t) t Bp):=by
 have wp:=Qm.1 hW;unfold Oa at hb
 split at hb
 ·cases hb
 ·rename_i h1
  split at hb
  ·cases hb
  ·rename_i h3;have h1:Yd W t:=by simpa using h1
   have h3:QO W:=by simpa using h3
   have sw:=MK wp (Qm.1 h3);obtain⟨t0,t1,n⟩:=ZY h1;have hl:=wp.a.t;exact⟨h1,h3,sw,sw.J' t0 Qo (λh=>Ir rfl h) Qd Qd,(zn3 sw t0 Qo n).J' t0 Qo (λh=>Ir rfl h) Qd Qd⟩
section
variable {W:Q7}{m:MW}{w:Wo}{bar:Int}
def CX{t:Int}(h:J6 [] w W m)(hl:UV W) :
  Cz Oq #[.agg (Qa W m).toArray,I t] w λe w'=>∃v,e=.returned v/\QV (Y7 W (Oa W t) (Fw W t)) w v w':=by
 refine Cy _ _ _ _ _ _ _ _ _ _ t (R:=λv w'=>QV (Y7 W (Oa W t) (Fw W t)) w v w') ?_;intro x hx x1 Sn wr Rg We;refine I3 (Zi (h.ext Rg) hl) ?_;rintro e wv (⟨hW,he,hy⟩|⟨hW,m',he,hM,hy⟩)
 ·exact⟨_,_,_,_,_,_,_,_,_,_,_,he,Qg hy We,λ_ R6 Rl=>QV.bad hW ((Rg.trans hy).fresh Rl λy hm=>.inl (YF hx Sn y hm)),λg=>by simp at g⟩
 have hK:=Wk.begin hx Sn Rg We hM hy;have hr:=hK.rd;refine⟨_,_,_,_,_,_,_,_,_,_,_,he,Qg hy We,λg=>by split at g <;> simp at g,λ_=>⟨_,JP hr hl.t,λg R7 Rl=>?_,λg=>?_⟩⟩
 ·have g:Yd W t=false:=by simpa using g
  have hb:Oa W t=2:=by unfold Oa;rw[C' g]
  exact QV.no hW (by rw[hb];decide) (hK.step Rl) hb
 have g:Yd W t:=by simpa using g
 obtain⟨t0,t1,tn⟩:=ZY g;have Wx:=hr.t.ix QT t0 t1;refine⟨λg3 RN Rl=>?_,λg3=>?_⟩
 ·have cA:¬QO W:=λhr=>by rw[C' hr] at g3;simp at g3
  have hb:Oa W t=10:=by unfold Oa;rw[B' (by rw[g];decide),C' (by simpa using cA)]
  rw[B' cA];exact QV.no hW (by rw[hb];decide) (hK.step Rl) hb
 have cA:QO W:=Iq λhr=>by rw[B' hr] at g3;simp at g3
 have hb:Oa W t=0:=by unfold Oa;rw[B' (by rw[g];decide),B' (by rw[cA];decide)]
 obtain⟨_,_,sw,sw1,sw2⟩:=zaz hW hb;obtain⟨_,c0,c1⟩:=sw.t t t0 (by have:=sw.a.t;omega) tn;have T':Zj 8 w.heap.size (Rx wv m'.tO (Int.toNat t*9) (X4 Bp)) (J' W t Bp) m':=hK.own.AP2 t0 t1 (j:=0) (vs:=X4 Bp) (x:=Bp) rfl Qd;have hKs:=hK.Rx T' Hv;have e5:∀mm,Qa (J' W t Bp) mm=Qa W mm:=λmm=>by simp[Qa,J']
 refine⟨Wx,_,hr.t.f t0 t1 (j:=2) rfl,Wx,zts hK.own hK.nb t0 t1 (j:=0) Qd,hr.c.ix Y9 c0 c1,_,hKs.rd.c.f c0 c1 (j:=1) rfl,λg4 S5 Sx gQ=>?_,λg4 S5 Sx gQ=>?_⟩
 ·have g4:(gi (J' W t Bp).IF (Q8 W t).R2).cur=t:=by simpa using g4
  have hE:Fw W t=Qf (Rb (J' W t Bp) (Q8 W t).R2):=by unfold Fw Z1;rw[C' (show (gi W.IF (Q8 W t).R2).cur=t from g4)];rfl
  rw[hE];have eI:=hKs.step Sx;have RI:=ZM eI.own c0 c1;rw[e5] at RI;refine I3 RI ?_;rintro e1 Rc ⟨qC,dY⟩;refine⟨_,_,_,_,_,_,_,_,_,_,qC,eI.kept dY gQ,λSu bM hs6=>?_⟩;have hK6:=(eI.Sv dY gQ).step bM;refine I3 (QB hK6.own (sw1.Rb c0 c1) Qd Qd hK6.base) ?_;rintro e2 RO ⟨m1,bS,SX⟩;exact⟨_,_,_,_,_,_,_,_,_,_,bS,hK6.kept SX hs6,λSA gL=>QV.ok hW hb ((hK6.Sv SX hs6).step gL)⟩
 ·have g4:¬(gi (J' W t Bp).IF (Q8 W t).R2).cur=t:=by simpa using g4
  have hE:Fw W t=Qf (J' W t Bp):=by unfold Fw Z1;rw[B' (show ¬(gi W.IF (Q8 W t).R2).cur=t from g4)]
  rw[hE];have eI:=hKs.step Sx;have RI:=QB eI.own sw1 Qd Qd eI.base;rw[e5] at RI;refine I3 RI ?_;rintro e2 RO ⟨m1,bS,SX⟩;exact⟨_,_,_,_,_,_,_,_,_,_,bS,eI.kept SX gQ,λSA gL=>QV.ok hW hb ((eI.Sv SX gQ).step gL)⟩
end
abbrev K8(W:Q7)(t n:Int):Int:=(Qb W (Q8 W t).II (Q8 W t).R2).IL+Y6 ((Q8 W t).v-(Qb W (Q8 W t).II (Q8 W t).R2).IL) (Qh n)
def XE(W:Q7)(t n:Int):MQ:={ Q8 W t with nice:=n,v:=if (Q8 W t).state=1 then K8 W t n else (Q8 W t).v }
noncomputable def Pc(W:Q7)(t n:Int):Int:=if Qh n=0 then 1 else Oa W t
def L2(W:Q7)(t n:Int):Q7:=Qf (if (Q8 W t).state=1 then Z1 (J' W t (XE W t n)) t else J' W t (XE W t n))
def zs0{W:Q7}{t n:Int}(h:(Q8 W t).state=1):XE W t n={ Q8 W t with nice:=n,v:=K8 W t n }:=by unfold XE;rw[C' h]
def zsz{W:Q7}{t n:Int}(h:¬(Q8 W t).state=1):XE W t n={ Q8 W t with nice:=n }:=by unfold XE;rw[B' h]
def HA{W:Q7}{t:Int}{x:MQ}(t0:0<=t)(t1:t<(W.IJ.length:Int)):Q8 (J' W t x) t=x:=by
 show gi (W.IJ.set t.toNat x) t=x;rw[QE _ _ t0 t1 t0,C' rfl]
def set_set{W:Q7}{t:Int}{x y:MQ}:J' (J' W t x) t y=J' W t y:=by simp[J']
abbrev K1:Int:=Qn+Qi
structure z5l (W:Q7) (t n:Int):Prop where
 th:Yd W t=true
 room:QO W=true
 sw:SW Qn W
 f:(Q8 W t).state=1->0<=(Qb W (Q8 W t).II (Q8 W t).R2).IL/\(Qb W (Q8 W t).II (Q8 W t).R2).IL<=Qn/\0<=K8 W t n/\K8 W t n<=K1
 s1:SW K1 (J' W t (XE W t n))
 s2:SW K1 (Z1 (J' W t (XE W t n)) t)
def zl2{W:Q7}{t n:Int}(hW:Qp W)(hb:Pc W t n=0):z5l W t n:=by
 have hw:¬Qh n=0:=λh=>by unfold Pc at hb;rw[C' h] at hb;cases hb
 have hb:Oa W t=0:=by unfold Pc at hb;rwa[B' hw] at hb
 obtain⟨h1,h3,sw,_,_⟩:=zaz hW hb;obtain⟨t0,t1,tn⟩:=ZY h1;have hl:=sw.a.t;have hg:=sw.t t t0 Qo tn;have hv:=sw.tv t t0 Qo;have hf:=sw.s _ _ hg.1 hg.2.1 hg.2.2;have lc:=ZB ((Q8 W t).v-(Qb W (Q8 W t).II (Q8 W t).R2).IL) (Qh n);have lm:=ZH (Qh n);have f:0<=K8 W t n/\K8 W t n<=K1:=by unfold K8;simp only[K1,Qi];omega
 have f1:0<=(XE W t n).v/\(XE W t n).v<=K1:=by
  unfold XE
  dsimp only
  split
  ·exact f
  ·simp only[K1,Qi];omega
 have s1:SW K1 (J' W t (XE W t n)):=(sw.mono Qd).J' t0 Qo (λ_=>hg) f1.1 f1.2;exact⟨h1,h3,sw,λ_=>⟨hf.1,hf.2.1,f⟩,s1,zn3 s1 t0 Qo (by rw[HA t0 t1];exact tn)⟩
section
variable {W:Q7}{m:MW}{w:Wo}{bar:Int}
def DJ{bs:List Nat}{t:Int}(h:J6 bs w W m)(t0:0<=t)(t1:t<(W.IJ.length:Int))(g0:0<=(Q8 W t).II)(g1:(Q8 W t).II<(W.IE.length:Int))(c0:0<=(Q8 W t).R2)(c1:(Q8 W t).R2<((gi W.IE (Q8 W t).II).IH.length:Int))(hr:Qq .i64 ((Q8 W t).v-(Qb W (Q8 W t).II (Q8 W t).R2).IL)) :
  PX bs Ts #[.agg (Qa W m).toArray,I t] w (I (Y6 ((Q8 W t).v-(Qb W (Q8 W t).II (Q8 W t).R2).IL) (Qh (Q8 W t).nice))):=
 zh6 _ _ _ _ _ _ _ _ _ _ t λwr hx=>by
  have h:=(h.ext hx).less (cs:=[]) Qs;intro b hb;exact⟨h.t.ix QT t0 t1,_,_,_,_,_,_,_,_,_,h.t t t0 t1,λb1 dG=>⟨h.g.ix g0 g1,_,_,_,h.g.Rn g0 g1,(h.g.IH _ g0 g1).ix YM c0 c1,_,(h.g.IH _ g0 g1).f c0 c1 (j:=0) rfl,hr,_,Y1,_,Kx,rfl⟩⟩
def CZ{t n:Int}(h:J6 [] w W m)(hl:UV W) :
  Cz Ow #[.agg (Qa W m).toArray,I t,I n] w λe w'=>∃v,e=.returned v/\QV (Y7 W (Pc W t n) (L2 W t n)) w v w':=by
 refine CC _ _ _ _ _ _ _ _ _ _ t n (R:=λv w'=>QV (Y7 W (Pc W t n) (L2 W t n)) w v w') ?_;intro x hx x1 Sn wr Rg We;refine I3 (Zi (h.ext Rg) hl) ?_;rintro e wv (⟨hW,he,hy⟩|⟨hW,m',he,hM,hy⟩)
 ·exact⟨_,_,_,_,_,_,_,_,_,_,_,he,Qg hy We,0,λg=>by simp at g,λ_ R6 Rl=>QV.bad hW ((Rg.trans hy).fresh Rl λy hm=>.inl (YF hx Sn y hm)),λg=>by simp at g⟩
 have hK:=Wk.begin hx Sn Rg We hM hy;have hr:=hK.rd;have hc1:((if QO W=true then 0 else 10:Int)==1)=false:=by split <;> rfl
 refine⟨_,_,_,_,_,_,_,_,_,_,_,he,Qg hy We,_,λ_=>Y1 (n:=n),λg R6 Rl=>?_,λg0=>⟨_,JP hr hl.t,λg R7 Rl=>?_,λg=>?_⟩⟩
 ·rw[hc1] at g;have g:Qh n=0:=by simpa using g
  have hb:Pc W t n=1:=by unfold Pc;rw[C' g]
  exact QV.no hW (by rw[hb];decide) (hK.step Rl) hb
 ·rw[hc1] at g0;have g0:¬Qh n=0:=by simpa using g0
  have g:Yd W t=false:=by simpa using g
  have hb:Pc W t n=2:=by unfold Pc Oa;rw[B' g0,C' g]
  exact QV.no hW (by rw[hb];decide) (hK.step Rl) hb
 rw[hc1] at g0;have gw:¬Qh n=0:=by simpa using g0
 have g:Yd W t:=by simpa using g
 obtain⟨t0,t1,tn⟩:=ZY g;have Wx:=hr.t.ix QT t0 t1;refine⟨λg3 RN Rl=>?_,λg3=>?_⟩
 ·have cA:¬QO W:=λhr=>by rw[C' hr] at g3;simp at g3
  have hb:Pc W t n=10:=by unfold Pc Oa;rw[B' gw,B' (by rw[g];decide),C' (by simpa using cA)]
  rw[B' cA];exact QV.no hW (by rw[hb];decide) (hK.step Rl) hb
 have cA:QO W:=Iq λhr=>by rw[B' hr] at g3;simp at g3
 have hb:Pc W t n=0:=by unfold Pc Oa;rw[B' gw,B' (by rw[g];decide),B' (by rw[cA];decide)]
 have hN:=zl2 hW hb;have sw:=hN.sw;have qT:=sw.a.t;obtain⟨hu,c0,c1⟩:=sw.t t t0 Qo tn;obtain⟨q0,q1,_⟩:=Q5.1 hu;have hsl:=sw.a.sl hu;have gP:Wk 8 [x,x1] w (Rx wv m'.tO (Int.toNat t*9) (X4 { Q8 W t with nice:=n })) (J' W t { Q8 W t with nice:=n }) m':=hK.Rx (hK.own.AP2 t0 t1 (j:=0) (vs:=X4 { Q8 W t with nice:=n }) (x:={ Q8 W t with nice:=n }) rfl (by show 0+9<=9;decide)) Hv;have e5:∀x mm,Qa (J' W t x) mm=Qa W mm:=λx mm=>by simp[Qa,J']
 refine⟨Wx,_,_,_,_,_,_,_,_,_,hr.t t t0 t1,λb2 cH=>⟨Wx,zts hK.own hK.nb t0 t1 (j:=0) Qd,λg4=>?_,λg4 WK qU hs9=>?_⟩⟩
 ·have g4:(Q8 W t).state=1:=by simpa[Q8] using g4
  have hT:=zs0 (n:=n) g4;obtain⟨f0,f1,v0,v1⟩:=hN.f g4;have hv:=sw.tv t t0 Qo;have hh:Qn=50000000000000000:=rfl;have hk:K1=50000034686091440:=rfl;have hr2:=gP.rd;have etk:Q8 (J' W t { Q8 W t with nice:=n }) t={ Q8 W t with nice:=n }:=HA t0 t1;have t1':t<((J' W t { Q8 W t with nice:=n }).IJ.length:Int):=by simpa[J'] using t1
  have Ch4:=DJ (t:=t) hr2 t0 t1' (by rw[etk];exact q0) (by rw[etk];exact q1) (by rw[etk];exact c0) (by rw[etk];show (Q8 W t).R2<(((gi W.IE (Q8 W t).II).IH.length:Nat):Int);omega) (by rw[etk];exact⟨by show _<=(Q8 W t).v-(Qb W (Q8 W t).II (Q8 W t).R2).IL;omega,by show (Q8 W t).v-(Qb W (Q8 W t).II (Q8 W t).R2).IL<=_;omega⟩);rw[etk,e5] at Ch4;have lc:=ZB ((Q8 W t).v-(Qb W (Q8 W t).II (Q8 W t).R2).IL) (Qh n);have lm:=ZH (Qh n);have T':Zj 8 w.heap.size (Rx (Rx wv m'.tO (Int.toNat t*9) (X4 { Q8 W t with nice:=n })) m'.tO (Int.toNat t*9) (X4 { Q8 W t with nice:=n,v:=K8 W t n })) (J' (J' W t { Q8 W t with nice:=n }) t { Q8 W t with nice:=n,v:=K8 W t n }) m':=gP.own.AP2 t0 t1' (j:=0) (vs:=X4 { Q8 W t with nice:=n,v:=K8 W t n }) (x:={ Q8 W t with nice:=n,v:=K8 W t n }) (by rw[show gi (J' W t { Q8 W t with nice:=n }).IJ t={ Q8 W t with nice:=n } from etk];rfl) (by show 0+9<=9;decide);rw[set_set,<-hT] at T';have wD:Wk 8 ([x,x1]++[b2]) w _ (J' W t (XE W t n)) m':=(hK.add cH).Rx T' (Hv.trans Hv)
  have vM:∀vs0 vs:List Va,X4 { Q8 W t with nice:=n }=vs0->X4 (XE W t n)=vs->Wk 8 ([x,x1]++[b2]) w (Rx (Rx wv m'.tO (Int.toNat t*9) vs0) m'.tO (Int.toNat t*9) vs) (J' W t (XE W t n)) m':=λvs0 vs h0 h1=>by
   subst h0;subst h1;rw[hT] at wD ⊢;exact wD
  have CT6:∀y∈[x,x1],y∈[x,x1]++[b2]:=λy hy=>Ia _ hy
  have Cd3:Wk 8 [x,x1] w _ (J' W t (XE W t n)) m':=wD.sub CT6;have C71:Q1 [x,x1] (Rx wv m'.tO (Int.toNat t*9) (X4 { Q8 W t with nice:=n })) (m'.ms (Q8 W t).II.toNat).sO (Int.toNat (Q8 W t).R2*5+0) [I (Qb W (Q8 W t).II (Q8 W t).R2).IL]:=(hr2.g.IH _ q0 q1).f c0 (by show (Q8 W t).R2<(((gi W.IE (Q8 W t).II).IH.length:Nat):Int);omega) (j:=0) rfl;have ecp:(Q8 (J' W t (XE W t n)) t).R2=(Q8 W t).R2:=by rw[HA t0 t1];rfl
  refine⟨hr.g.ix q0 q1,_,_,_,hr2.g.Rn q0 q1,(hr2.g.IH _ q0 q1).ix YM c0 (by show (Q8 W t).R2<(((gi W.IE (Q8 W t).II).IH.length:Nat):Int);omega),(Qb W (Q8 W t).II (Q8 W t).R2).IL,C71,Y6 ((Q8 W t).v-(Qb W (Q8 W t).II (Q8 W t).R2).IL) (Qh n),Ch4,⟨?_,?_⟩,Wx,zts gP.own gP.nb t0 t1' (j:=0) Qd,hr.c.ix Y9 c0 c1,(gi W.IF (Q8 W t).R2).cur,?_,λg5 RN W8 dX=>?_,λg5 SA gL hs7=>?_⟩
  ·show _<=K8 W t n;omega
  ·show K8 W t n<=_;omega
  ·rw[hT] at Cd3;exact Cd3.rd.c.f c0 c1 (j:=1) rfl
  ·have g5:(gi W.IF (Q8 W t).R2).cur=t:=by simpa using g5
   have hE:L2 W t n=Qf (Rb (J' W t (XE W t n)) (Q8 W t).R2):=by unfold L2 Z1;rw[C' g4,ecp,C' (show (gi (J' W t (XE W t n)).IF (Q8 W t).R2).cur=t from g5)]
   rw[hE];have eI:=(vM _ _ (by rfl) (by rw[hT];rfl)).step (W8.mono CT6);have RI:=ZM eI.own c0 c1;rw[e5] at RI;refine I3 RI ?_;rintro e1 Rc ⟨qC,dY⟩;refine⟨_,_,_,_,_,_,_,_,_,_,qC,eI.kept dY dX,λSu bM hs6=>?_⟩;have hK6:=(eI.Sv dY dX).step bM;refine I3 (QB hK6.own (hN.s1.Rb c0 c1) Qd Qd hK6.base) ?_;rintro e2 RO ⟨m1,bS,SX⟩;exact⟨_,_,_,_,_,_,_,_,_,_,bS,hK6.kept SX hs6,λSA gL=>QV.ok hW hb ((hK6.Sv SX hs6).step gL)⟩
  ·have g5:¬(gi W.IF (Q8 W t).R2).cur=t:=by simpa using g5
   have hE:L2 W t n=Qf (J' W t (XE W t n)):=by unfold L2 Z1;rw[C' g4,ecp,B' (show ¬(gi (J' W t (XE W t n)).IF (Q8 W t).R2).cur=t from g5)]
   rw[hE];have eI:=(vM _ _ (by rfl) (by rw[hT];rfl)).step (gL.mono CT6);have RI:=QB eI.own hN.s1 Qd Qd eI.base;rw[e5] at RI;refine I3 RI ?_;rintro e2 RO ⟨m1,bS,SX⟩;exact⟨_,_,_,_,_,_,_,_,_,_,bS,eI.kept SX hs7,λSA gL=>QV.ok hW hb ((eI.Sv SX hs7).step gL)⟩
 ·have g4:¬(Q8 W t).state=1:=by simpa[Q8] using g4
  have hE:L2 W t n=Qf (J' W t (XE W t n)):=by unfold L2;rw[B' g4]
  have eR:=hN.s1;rw[hE,zsz g4];rw[zsz g4] at eR;have wD:Wk 8 ([x,x1]++[b2]) w _ (J' W t { Q8 W t with nice:=n }) m':=(hK.add cH).Rx gP.own Hv;have eI:=wD.step (qU.mono λy hy=>Ia _ hy);have RI:=QB eI.own eR Qd Qd eI.base;rw[e5] at RI;refine I3 RI ?_;rintro e2 RO ⟨m1,bS,SX⟩;exact⟨_,_,_,_,_,_,_,_,_,_,bS,eI.kept SX hs9,λSA gL=>QV.ok hW hb ((eI.Sv SX hs9).step gL)⟩
end
noncomputable def Kq(W:Q7)(g:Int)(ok:Bool):Int:=if ok=false\/g=0 then 1 else if Q6 W.IE g=false then 2 else if QO W=false then 10 else 0
def za3{W:Q7}{g:Int}{ok:Bool}(h:Kq W g ok=0):ok/\g≠0/\Q6 W.IE g/\QO W:=by
 unfold Kq at h
 split at h
 ·cases h
 ·rename_i h1
  split at h
  ·cases h
  ·rename_i h2
   split at h
   ·cases h
   ·rename_i h3;exact⟨by cases ok <;> simp_all,λe=>h1 (.inr e),by simpa using h2,by simpa using h3⟩
def z2v:Ue:=⟨0,0,0,[],[]⟩
def Jj(q:Int)(n:Nat):Ue:=⟨q,q,0,List.replicate n 0,List.replicate n false⟩
def DM(q p:Int):Bool:=q==0&&p==0
def zi3(q p:Int):Bool:=DM q p||(YT q 1 10000&&YT p 1 1000)
def Px(W:Q7)(g q p:Int):Zb:=if DM q p=true then { gi W.IE g with period:=0,next:=0,IM:=z2v } else { gi W.IE g with period:=p,next:=W.now+p,IM:=Jj q W.IF.length }
noncomputable def zls(W:Q7)(g q p:Int):Int:=Kq W g (zi3 q p)
def zyf(W:Q7)(g q p:Int):Q7:=Qf (R1 W g (Px W g q p))
def A4(n:Nat):∀k:Nat,k<=n->Vi (List.replicate n (0:Int)) k=0
 |0,_=>rfl
 |k+1,hk=>by
  simp only[Vi];rw[A4 n k Qo,Mj _ _ Qo Qo];rfl
def zu2{q:Int}{n:Nat}(q1:1<=q)(q2:q<=10000)(n1:1<=n)(n2:n<=4):OY (Jj q n):=by
 refine⟨q1,q2,by simpa[Jj] using n1,by simpa[Jj] using n2,by simp[Jj],by simp only[Jj];omega,I2 _,by simp[Jj],by simp only[Jj];omega,λc c0 c1=>?_,?_⟩
 ·simp only[Jj,List.length_replicate] at c1 ⊢;rw[Mj _ _ c0 c1,Mj _ _ c0 c1];exact⟨I2 _,Qo,λh=>by cases h⟩
 ·simp only[Jj,List.length_replicate];rw[A4 n n (I7 _)];omega
def zd5{W:Q7}{g q p:Int}:(Px W g q p).IW=(gi W.IE g).IW/\(Px W g q p).IG=(gi W.IE g).IG/\(Px W g q p).name=(gi W.IE g).name/\(Px W g q p).IH=(gi W.IE g).IH/\(Px W g q p).R3=(gi W.IE g).R3/\(Px W g q p).IF=(gi W.IE g).IF/\(Px W g q p).sum=(gi W.IE g).sum:=by
 unfold Px;split <;> exact⟨rfl,rfl,rfl,rfl,rfl,rfl,rfl⟩
def SW.R1{K:Int}{W:Q7}(h:SW K W){g:Int}{x:Zb}(hu:Q6 W.IE g)(u:x.IW=(gi W.IE g).IW)(p:x.IG=(gi W.IE g).IG)(n:x.name=(gi W.IE g).name)(s:x.IH=(gi W.IE g).IH)(hx:zpj W g x):SW K (R1 W g x):=by
 obtain⟨u0,u1,ut⟩:=Q5.1 hu;have hl:=h.a.gl;have hT:=XT (x:=x) u0 u1 u p n
 have es:∀k c:Int,0<=k->Qb (YtjinkcmkgnofjaaGreatDoor.R1 W g x) k c=Qb W k c:=λk c k0=>by
  unfold Qb;rw[Yt u0 u1 k0];split
  ·rename_i e;subst e;rw[s]
  ·rfl
 refine⟨h.a.set u0 Qo u p n (λhn=>by rw[u,ut] at hn;cases hn) λ_=>hx,λt a b n=>by rw[hT.cD];exact h.t t a b n,h.tv,λk c uk a b=>?_,h.cu⟩;rw[hT.cD] at uk;rw[es k c (Q5.1 uk).1];exact h.s k c uk a b
def zqm{W:Q7}{g q p:Int}(hW:Qp W)(hb:zls W g q p=0):Q6 W.IE g/\g≠0/\zi3 q p/\QO W/\SW Qn W/\SW Qn (R1 W g (Px W g q p)):=by
 obtain⟨h1,h2,h3,h4⟩:=za3 hb;have wp:=Qm.1 hW;have sw:=MK wp (Qm.1 h4);obtain⟨u0,u1,hg⟩:=wp.a.u h3;have hl:=zd5 (W:=W) (g:=g) (q:=q) (p:=p);have hc1:=wp.a.c1;have hc2:=wp.a.c2;refine⟨h3,h2,h1,h4,sw,sw.R1 h3 hl.1 hl.2.1 hl.2.2.1 hl.2.2.2.1 ⟨by rw[hl.2.2.2.2.1];exact hg.w1,by rw[hl.2.2.2.2.1];exact hg.w2,by rw[hl.2.2.2.2.2.1];exact hg.m,by rw[hl.2.2.2.2.2.1];exact hg.m0,by rw[hl.2.2.2.2.2.2];exact hg.s,by rw[hl.2.2.2.1];exact hg.len,λh=>Ir h h2,λhq=>?_,λhq=>?_⟩⟩
 ·unfold Px at hq ⊢;split
  ·exact⟨show TF z2v=true by decide,rfl,rfl⟩
  ·rename_i hn;rw[B' hn] at hq;unfold zi3 at h1;rw[show DM q p=false by simpa using hn,Bool.false_or,A'] at h1;have:=Qv.1 h1.1;have:q=0:=hq;omega
 ·unfold Px at hq ⊢;split
  ·rename_i hn;rw[C' hn] at hq;exact Ir rfl hq
  ·rename_i hn;unfold zi3 at h1;rw[show DM q p=false by simpa using hn,Bool.false_or,A'] at h1;have h5:=Qv.1 h1.1;have h6:=Qv.1 h1.2;exact⟨zu2 h5.1 h5.2 hc1 hc2,by simp[Jj],h6.1,h6.2,by show W.now<W.now+p;omega,by show W.now+p-W.now<=p;omega⟩
def zsp{W:Q7}{g q p:Int}(h:DM q p):Px W g q p={ gi W.IE g with period:=0,next:=0,IM:=z2v }:=by unfold Px;rw[C' h]
def zn4{W:Q7}{g q p:Int}(h:DM q p=false):Px W g q p={ gi W.IE g with period:=p,next:=W.now+p,IM:=Jj q W.IF.length }:=by unfold Px;rw[B' (by rw[h];decide)]
def y9:MG:=⟨none,0,none,0,none,0⟩
def z14(base:Nat)(w:Wo):Zv base w z2v y9:=⟨.inl ⟨rfl,rfl,rfl⟩,.inl ⟨rfl,rfl,rfl⟩⟩
def zu5:∀x∈YD y9,False:=λx hx=>by simp[YD,y9,QL] at hx
section
variable {W W':Q7}{m:MW}{w:Wo}{bar:Int}
def z4k{b:Nat}{bs:List Nat}{w w1 w2 w3:Wo}{q:Int}{n:Nat}(s:Sc w [b] w1)(h2:Q0 [b] (w1.alloc (.cells ((List.replicate n (0:Int)).flatMap JW).toArray Qc)) w2)(eR:∀y∈[b],y<w1.heap.size)(We:∀y∈[b],y<w2.heap.size)(h3:Q0 [b] (w2.alloc (.cells ((List.replicate n false).flatMap MT).toArray Zw)) w3)(_:bs=[]) :
  Zv w.heap.size w3 (Jj q n) ⟨some ⟨w1.heap.size,0,none⟩,n,some ⟨w2.heap.size,0,none⟩,n,none,0⟩/\Q0 [] w w3:=by
 have hL0:Ob JW 1 Qc w1.heap.size [b] _ (some ⟨w1.heap.size,0,none⟩) n (List.replicate n (0:Int)):=Ob.of (Vg (enc:=JW) X6.len Qc n (0:Int) w1) eR;have s1:=(s.R5 (Z9 w1 (.cells ((List.replicate n (0:Int)).flatMap JW).toArray Qc))).step h2;have hL1:=((hL0.step h2).R5 (Z9 w2 (.cells ((List.replicate n false).flatMap MT).toArray Zw))).step h3;have hD0:Ob MT 1 Zw w2.heap.size [b] _ (some ⟨w2.heap.size,0,none⟩) n (List.replicate n false):=Ob.of (Vg (enc:=MT) XX.len Zw n false w2) We;have hD1:=hD0.step h3;have s2:=(s1.R5 (Z9 w2 (.cells ((List.replicate n false).flatMap MT).toArray Zw))).step h3;exact⟨⟨hL1.own.mono s.ext.size,hD1.own.mono s1.ext.size⟩,s2.ext⟩
def z13{b:Nat}{w w1 w2 w3:Wo}{q:Int}{n:Nat}(s:Sc w [b] w1)(h2:Q0 [b] (w1.alloc (.cells ((List.replicate n false).flatMap MT).toArray Zw)) w2)(eR:∀y∈[b],y<w1.heap.size)(We:∀y∈[b],y<w2.heap.size)(h3:Q0 [b] (w2.alloc (.cells ((List.replicate n (0:Int)).flatMap JW).toArray Qc)) w3) :
  Zv w.heap.size w3 (Jj q n) ⟨some ⟨w2.heap.size,0,none⟩,n,some ⟨w1.heap.size,0,none⟩,n,none,0⟩/\Q0 [] w w3:=by
 have hL0:Ob MT 1 Zw w1.heap.size [b] _ (some ⟨w1.heap.size,0,none⟩) n (List.replicate n false):=Ob.of (Vg (enc:=MT) XX.len Zw n false w1) eR;have s1:=(s.R5 (Z9 w1 (.cells ((List.replicate n false).flatMap MT).toArray Zw))).step h2;have hL1:=((hL0.step h2).R5 (Z9 w2 (.cells ((List.replicate n (0:Int)).flatMap JW).toArray Qc))).step h3;have hD0:Ob JW 1 Qc w2.heap.size [b] _ (some ⟨w2.heap.size,0,none⟩) n (List.replicate n (0:Int)):=Ob.of (Vg (enc:=JW) X6.len Qc n (0:Int) w2) We;have hD1:=hD0.step h3;have s2:=(s1.R5 (Z9 w2 (.cells ((List.replicate n (0:Int)).flatMap JW).toArray Qc))).step h3;exact⟨⟨hD1.own.mono s1.ext.size,hL1.own.mono s.ext.size⟩,s2.ext⟩
def zdx{q:Int}{n:Nat}(hq:YT q 1 10000)(hn:YT (n:Int) 1 4) :
  Cz Pm #[I q,I (n:Int)] w λe w'=>∃p:MG,e=.returned (.tuple #[.agg (ZD (Jj q n) p).toArray,.bool true])/\Zv w.heap.size w' (Jj q n) p/\Q0 [] w w':=by
 refine(zct q (n:Int) (R:=λv w'=>∃p:MG,v=.tuple #[.agg (ZD (Jj q n) p).toArray,.bool true]/\Zv w.heap.size w' (Jj q n) p/\Q0 [] w w') ?_).mono λe w' ⟨v,he,p,hv,h3⟩=>⟨p,by rw[he,hv],h3⟩
 have hm9:=ZW;have h4:=(Qv.1 hn).2;intro b hb;have s0:Sc w [b] w:=(Sc.start w).add hb;have k1:=Qt (n:=q) (a:=1) (b:=10000) (w:=w) (bs:=[]);have k2:=Qt (n:=(n:Int)) (a:=1) (b:=4) (w:=w) (bs:=[]);rw[hq] at k1;rw[hn] at k2;refine⟨true,k1,true,λ_=>k2,λg=>by simp at g,λ_=>⟨λR6 Sn eR=>⟨_,_,_,_,KA X6 MN n Qo Qo R6,Qg (Z9 _ _) eR,λR7 Rg We=>⟨_,_,_,_,KA XX Li n Qo Qo R7,Qg (Z9 _ _) We,λRD Rl=>?_⟩⟩,λR6 Sn eR=>⟨_,_,_,_,KA XX Li n Qo Qo R6,Qg (Z9 _ _) eR,λR7 Rg We=>⟨_,_,_,_,KA X6 MN n Qo Qo R7,Qg (Z9 _ _) We,λRD Rl=>?_⟩⟩⟩⟩
 ·exact⟨_,by simp[ZD,Jj],z4k (bs:=[]) (s0.R5 Sn) Rg eR We Rl rfl⟩
 ·exact⟨_,by simp[ZD,Jj],z13 (s0.R5 Sn) Rg eR We Rl⟩
def z4i{base:Nat}(h:Zj 8 base w W m){g:Int}(u0:0<=g)(u1:g<8){G:Zb}{p:MG}(hp:Zv base w G.IM p)(hb:∀x∈YD p,x∉QN 8 m)(es:G.IH=(gi W.IE g).IH){j:Nat}{vs:List Va}(he:Yq G (Kz (m.ms g.toNat) p)=(Yq (gi W.IE g) (m.ms g.toNat)).take j++vs++(Yq (gi W.IE g) (m.ms g.toNat)).drop (j+vs.length))(hj:j+vs.length<=14) :
  Zj 8 base (Rx w m.gO (Int.toNat g*14+j) vs) (R1 W g G) (GB m g.toNat (Kz (m.ms g.toNat) p)):=
 h.B53 u0 u1 (g:=G) (p:=Kz (m.ms g.toNat) p) ⟨hp.loc,hp.RE,by rw[es];exact(h.each u0 u1).shl⟩ (λx hx=>by
  rcases OK x hx with h1|h1
  ·exact .inl (hb x h1)
  ·exact .inr h1) he hj
def Wk.gr{bs:List Nat}{w0:Wo}(h:Wk 8 bs w0 w W m){g:Int}(u0:0<=g)(u1:g<8){G:Zb}{p:MG}(hp:Zv w0.heap.size w G.IM p)(hb:∀x∈YD p,x∉QN 8 m/\x∉bs)(es:G.IH=(gi W.IE g).IH){j:Nat}{vs:List Va}(he:Yq G (Kz (m.ms g.toNat) p)=(Yq (gi W.IE g) (m.ms g.toNat)).take j++vs++(Yq (gi W.IE g) (m.ms g.toNat)).drop (j+vs.length))(hj:j+vs.length<=14) :
  Wk 8 bs w0 (YtjinkcmkgnofjaaGreatDoor.Rx w m.gO (Int.toNat g*14+j) vs) (R1 W g G) (GB m g.toNat (Kz (m.ms g.toNat) p)):=
 ⟨h.s.call A3 λx hx=>(h.own.lt x hx).1,⟨z4i h.own u0 u1 hp (λx hx=>(hb x hx).1) es he hj,λx hx=>by
  rcases OM x hx with h1|h1
  ·exact h.nb x h1
  ·rcases OK x h1 with h2|h2
   ·exact(hb x h2).2
   ·exact h.nb x (Uv Qo h2)⟩⟩
def Vv{g:Int}{ok:Bool}(h:J6 [] w W m)(hl:UV W) :
  Cz Xs #[.agg (Qa W m).toArray,I g,.bool ok] w λe w'=>(Qp W=false/\e=.returned (.tuple #[.agg (Qa Ll z0d).toArray,I 1])/\Q0 [] w w')\/(Qp W/\∃m',e=.returned (.tuple #[.agg (Qa W m').toArray,I (Kq W g ok)])/\Zj 8 w.heap.size w' W m'/\Q0 [] w w'):=by
 refine(CJ _ _ _ _ _ _ _ _ _ _ g ok (R:=λv w'=>(Qp W=false/\v=.tuple #[.agg (Qa Ll z0d).toArray,I 1]/\Q0 [] w w')\/(Qp W/\∃m',v=.tuple #[.agg (Qa W m').toArray,I (Kq W g ok)]/\Zj 8 w.heap.size w' W m'/\Q0 [] w w')) ?_).mono λe w' ⟨v,he,h3⟩=>by
  rw[he];rcases h3 with ⟨a,b,c⟩|⟨a,m',b,c⟩
  ·exact .inl ⟨a,by rw[b],c⟩
  ·exact .inr ⟨a,m',by rw[b],c⟩
 intro x hx x1 Sn wr Rg We;refine I3 (Zi (h.ext Rg) hl) ?_;rintro e wv (⟨hW,he,hy⟩|⟨hW,m',he,hM,hy⟩)
 ·exact⟨_,_,_,_,_,_,_,_,_,_,_,he,Qg hy We,λ_ R6 Rl=>.inl ⟨hW,rfl,(Rg.trans hy).fresh Rl λy hm=>.inl (YF hx Sn y hm)⟩,λg=>by simp at g⟩
 have hK:=Wk.begin hx Sn Rg We hM hy;have hc1:((if QO W=true then 0 else 10:Int)==1)=false:=by split <;> rfl
 refine⟨_,_,_,_,_,_,_,_,_,_,_,he,Qg hy We,λg1 R6 Rl=>.inr ⟨hW,m',?_,(hK.step Rl).fin⟩,λg1=>⟨_,Xo hK.rd.g,λg2 R7 Rl=>.inr ⟨hW,m',?_,(hK.step Rl).fin⟩,λg2 RD Rl=>.inr ⟨hW,m',?_,(hK.step Rl).fin⟩⟩⟩
 ·have hb:Kq W g ok=1:=by
   unfold Kq;rw[C'];rw[hc1] at g1
   simpa using g1
  rw[hb];rfl
 ·rw[hc1] at g1;have g1:¬(ok=false\/g=0):=by simpa using g1
  have hb:Kq W g ok=2:=by unfold Kq;rw[B' g1,C' (by simpa using g2)]
  rw[hb];rfl
 ·rw[hc1] at g1;have g1:¬(ok=false\/g=0):=by simpa using g1
  have hb:Kq W g ok=if QO W=true then 0 else 10:=by
   unfold Kq;rw[B' g1,B' (by simpa using g2)]
   cases QO W <;> rfl
  rw[hb];rfl
def FG{g q p:Int}(h:J6 [] w W m)(hl:UV W) :
  Cz VM #[.agg (Qa W m).toArray,I g,I q,I p] w λe w'=>∃v,e=.returned v/\QV (Y7 W (zls W g q p) (zyf W g q p)) w v w':=by
 refine Fl _ _ _ _ _ _ _ _ _ _ g q p (R:=λv w'=>QV (Y7 W (zls W g q p) (zyf W g q p)) w v w') ?_;intro x hx x1 Sn;refine⟨_,λ_=>Qt,_,λ_ _=>Qt,λwr Rg We=>?_⟩;refine I3 (Vv (g:=g) (ok:=zi3 q p) (h.ext Rg) hl) ?_;rintro e wv (⟨hW,he,hy⟩|⟨hW,m',he,hM,hy⟩)
 ·exact⟨_,_,_,_,_,_,_,_,_,_,_,he,Qg hy We,λ_ R6 Rl=>QV.bad hW ((Rg.trans hy).fresh Rl λy hm=>.inl (YF hx Sn y hm)),λg=>by simp at g⟩
 have hK:=Wk.begin hx Sn Rg We hM hy;refine⟨_,_,_,_,_,_,_,_,_,_,_,he,Qg hy We,λg1 R6 Rl=>QV.no hW (by simpa[zls] using g1) (hK.step Rl) rfl,λg1=>?_⟩;have hb:zls W g q p=0:=by simpa[zls] using g1
 have hr:=hK.rd;obtain⟨hu,hz,hok,AM4,sw,s1⟩:=zqm hW hb;obtain⟨u0,u1,_⟩:=Q5.1 hu;have cZ:=sw.a.gl;have hc1:=sw.a.c1;have hc2:=sw.a.c2;have hn1:=sw.a.n1;have hn2:=sw.a.n2;have Wx:=hr.g.ix (i:=g) u0 u1;have e5:∀G mm,mm={ m' with ms:=mm.ms }->Qa (R1 W g G) mm=Qa W m':=λG mm hm=>by rw[hm];simp[Qa,R1]
 have eb:Qa W m'=Qa W m':=rfl;refine⟨Wx,_,_,_,_,_,_,_,_,_,_,_,_,_,_,_,_,_,_,_,_,hr.g.cells g u0 u1,λb2 cH=>⟨λg2 R7 Rl jS=>?_,λg2=>?_⟩⟩
 ·have g2:DM q p=false:=by unfold DM;simpa only[ID] using g2
  have hlm:YT q 1 10000/\YT p 1 1000:=by unfold zi3 at hok;rw[g2,Bool.false_or,A'] at hok;exact hok
  have hp:=Qv.1 hlm.2;have gP:=(hK.add cH).step (Rl.mono λy hy=>Ia _ hy);refine I3 (zdx (n:=W.IF.length) hlm.1 (Qv.2 ⟨Qo,Qo⟩)) ?_;rintro e1 Rc ⟨pb,qC,hO,dY⟩;refine⟨_,_,_,_,_,_,_,_,_,_,qC,Qg dY jS,λb3 wM=>⟨⟨Qo,Qo⟩,Wx,?_,λRD W8 dX=>?_⟩⟩
  ·exact zru (gP.R5 dY).own (gP.R5 dY).nb u0 Qo (j:=0) Qd
  have wD:=(gP.R5 dY).add wM
  have gI:=(wD.gr u0 Qo (G:=Px W g q p) (p:=pb) (j:=0) (vs:=Yq (Px W g q p) (Kz (m'.ms g.toNat) pb)) (by rw[zn4 g2];exact hO.mono gP.base) (λy hy=>?_) zd5.2.2.2.1 (by simp[Yq]) (by simp[Yq])).step (w':=RD) (by
   rw[zn4 g2];exact W8.mono λy hy=>Ia _ hy)
  ·have RI:=QB gI.own s1 Qd Qd gI.base;rw[e5 _ _ rfl] at RI;refine I3 RI ?_;rintro e2 RO ⟨m2,bS,SX⟩;exact⟨_,_,_,_,_,_,_,_,_,_,bS,gI.kept SX dX,λRN Sx=>QV.ok hW hb ((gI.Sv SX dX).step Sx)⟩
  ·have:=hO.lt y hy;refine⟨λhm=>?_,λhm=>?_⟩
   ·have:=(gP.own.lt y hm).2;omega
   ·rcases Im.1 hm with h1|h1
    ·have:=jS y h1;omega
    ·have:y=b3:=by simpa using h1
     omega
 ·have g2:DM q p:=by unfold DM;simpa only[I6] using g2
  refine⟨Wx,?_,λRD W8 dX=>?_⟩
  ·exact zru hK.own hK.nb u0 Qo (j:=0) Qd
  have wD:=hK.add cH
  have gI:=(wD.gr u0 Qo (G:=Px W g q p) (p:=y9) (j:=0) (vs:=Yq (Px W g q p) (Kz (m'.ms g.toNat) y9)) (by rw[zsp g2];exact z14 _ _) (λy hy=>(zu5 y hy).elim) zd5.2.2.2.1 (by simp[Yq]) (by simp[Yq])).step (w':=RD) (by
   rw[zsp g2];exact W8.mono λy hy=>Ia _ hy)
  have RI:=QB gI.own s1 Qd Qd gI.base;rw[e5 _ _ rfl] at RI;refine I3 RI ?_;rintro e2 RO ⟨m2,bS,SX⟩;exact⟨_,_,_,_,_,_,_,_,_,_,bS,gI.kept SX dX,λRN Sx=>QV.ok hW hb ((gI.Sv SX dX).step Sx)⟩
def zbh.pre{base pb:Nat}{ex:List Nat}{w0 w w':Wo}{W':Q7}{m m':MW}(hx:Q0 [] w0 w)(h:zbh base pb ex w m w' W' m'):zbh base pb ex w0 m w' W' m':=
 ⟨h.own,h.pt,hx.of_nil.trans h.ext,λx hy=>(h.sub x hy).imp id λhz=>IB hx.size hz⟩
def zbh.post{base pb:Nat}{ex:List Nat}{w w' w1:Wo}{W':Q7}{m m':MW}(h:zbh base pb ex w m w' W' m')(hx:Q0 [] w' w1):zbh base pb ex w m w1 W' m':=
 ⟨h.own.WR hx,QR h.pt hx Qs,h.ext.trans hx.of_nil,h.sub⟩
def Mp.grf{base pb:Nat}{bs:List Nat}{w0:Wo}{m0:MW}(h:Mp base pb bs w0 m0 w W m){g:Int}(u0:0<=g)(u1:g<8){G:Zb}(e1:G.IM.locals=(gi W.IE g).IM.locals)(e2:G.IM.RE=(gi W.IE g).IM.RE)(e3:G.IH=(gi W.IE g).IH){j:Nat}{vs:List Va}(he:Yq G (m.ms g.toNat)=(Yq (gi W.IE g) (m.ms g.toNat)).take j++vs++(Yq (gi W.IE g) (m.ms g.toNat)).drop (j+vs.length))(hj:j+vs.length<=14) :
  Mp base pb bs w0 m0 (YtjinkcmkgnofjaaGreatDoor.Rx w m.gO (Int.toNat g*14+j) vs) (R1 W g G) m:=
 h.Sv (h.own.As2 u0 u1 e1 e2 e3 he hj) A3 (by simp[Qa,R1])
end
def NA(W:Q7)(t:Int):Int:=Y6 ((Q8 W t).v-(Qb W (Q8 W t).II (Q8 W t).R2).IL) (Qh (Q8 W t).nice)
def PM(W:Q7)(t g c:Int):MQ:={ Q8 W t with II:=g,R2:=c,v:=(Qb W g c).IL+NA W t }
def Ud(W:Q7)(t g c:Int):Q7:=if (Q8 W t).state=1 then Rb (J' W t (PM W t g c)) c else J' W t (PM W t g c)
def zd3(W:Q7)(t:Int):0<=NA W t/\NA W t<=Qi:=by
 have lc:=ZB ((Q8 W t).v-(Qb W (Q8 W t).II (Q8 W t).R2).IL) (Qh (Q8 W t).nice);have lm:=ZH (Qh (Q8 W t).nice);unfold NA;simp only[Qi];omega
def SF.J'{F K:Int}{W:Q7}(h:SF F K W){t:Int}(t0:0<=t)(t1:t<12){x:MQ}(hx:x.state≠0->Q6 W.IE x.II/\0<=x.R2/\x.R2<(W.IF.length:Int))(v0:0<=x.v)(v1:x.v<=K):SF F K (J' W t x):=⟨h.w.J' t0 t1 hx v0 v1,h.f⟩
def SF.Rb{F K:Int}{W:Q7}(h:SF F K W){c:Int}(c0:0<=c)(c1:c<(W.IF.length:Int)):SF F K (Rb W c):=
 ⟨h.w.Rb c0 c1,λk d u a b=>h.f k d u a (by
  have b:d<(((W.IF.set c.toNat (Xv (gi W.IF c))).length:Nat):Int):=b
  rwa[E'] at b)⟩
def zmb{F K:Int}{W:Q7}(h:SF F K W)(hk:F+Qi<=K){t g c:Int}(hg:Q6 W.IE g)(c0:0<=c)(c1:c<(W.IF.length:Int)):0<=(PM W t g c).v/\(PM W t g c).v<=K:=by
 have hf:=h.f g c hg c0 c1;have hs:=h.w.s g c hg c0 c1;have hl:=zd3 W t;show 0<=(Qb W g c).IL+NA W t/\(Qb W g c).IL+NA W t<=K;omega
def B8{F K:Int}{W:Q7}(h:SF F K W)(hk:F+Qi<=K){t g c:Int}(t0:0<=t)(t1:t<12)(hg:Q6 W.IE g)(c0:0<=c)(c1:c<(W.IF.length:Int)):SF F K (J' W t (PM W t g c))/\SF F K (Ud W t g c):=by
 have hv:=zmb h hk (t:=t) hg c0 c1;have h1:=h.J' t0 t1 (x:=PM W t g c) (λ_=>⟨hg,c0,c1⟩) hv.1 hv.2;refine⟨h1,?_⟩;unfold Ud;split
 ·exact h1.Rb c0 c1
 ·exact h1
def zq2(W:Q7)(t g c:Int):(Ud W t g c).now=W.now/\(Ud W t g c).IF.length=W.IF.length/\(Ud W t g c).IJ.length=W.IJ.length/\(Ud W t g c).IE=W.IE:=by
 unfold Ud;split
 ·exact⟨rfl,by simp[Rb,RM,J'],by simp[Rb,RM,J'],rfl⟩
 ·exact⟨rfl,rfl,by simp[J'],rfl⟩
def Dl(m:Int):Int:=if Zk m 0=true then 0 else if Zk m 1 then 1 else if Zk m 2 then 2 else if Zk m 3 then 3 else -1
def z07:∀a:Fin 16,a.val≠0->Zk (a.val:Int) (Dl (a.val:Int)):=by decide +kernel
def FQ{m:Int}(h:PK m)(h0:m≠0):Zk m (Dl m):=by
 obtain⟨f,rfl⟩:=K6 h;exact z07 f λe=>h0 (by rw[e];rfl)
def z4t(gs:List Zb)(g u:Int):PK (T5 gs g u):=by
 unfold T5;rw[List.foldl_append];exact za6 _ _
def HE{W:Q7}(ha:WA W)(g mask:Int):PK (QF W g mask)/\QF W g mask≠0:=by
 unfold QF;split
 ·rename_i h;exact⟨za6 _ _,h⟩
 ·split
  ·rename_i h;refine⟨?_,h⟩;exact z4t _ _ _
  ·exact⟨z2r ha.c2,ha.ups⟩
def D1{W:Q7}(ha:WA W)(g mask:Int):0<=Dl (QF W g mask)/\Dl (QF W g mask)<(W.IF.length:Int):=by
 have h:=HE ha g mask;exact GS ha (FQ h.1 h.2)
def Hg(W:Q7)(t:Int):Bool:=((Q8 W t).state != 0) && !Zk (QF W (Q8 W t).II (Q8 W t).mask) (Q8 W t).R2
def Jn(W:Q7):Nat->Q7
 |0=>W
 |t+1=>if Hg (Jn W t) (t:Int)=true then Ud (Jn W t) (t:Int) (Q8 (Jn W t) (t:Int)).II (Dl (QF (Jn W t) (Q8 (Jn W t) (t:Int)).II (Q8 (Jn W t) (t:Int)).mask)) else Jn W t
def LS(W:Q7):Q7:=Jn W 12
structure Az (W W':Q7):Prop where
 n:W'.now=W.now
 c:W'.IF.length=W.IF.length
 t:W'.IJ.length=W.IJ.length
 g:W'.IE=W.IE
def Az.refl(W:Q7):Az W W:=⟨rfl,rfl,rfl,rfl⟩
def Az.trans{A B C:Q7}(h:Az A B)(k:Az B C):Az A C:=⟨k.n.trans h.n,k.c.trans h.c,k.t.trans h.t,k.g.trans h.g⟩
def Az.put(W:Q7)(t g c:Int):Az W (Ud W t g c):=by
 obtain⟨h1,h2,h3,h4⟩:=zq2 W t g c;exact⟨h1,h2,h3,h4⟩
def zmd{F K:Int}{W:Q7}(h:SF F K W)(hk:F+Qi<=K):∀t:Nat,t<=12->SF F K (Jn W t)/\Az W (Jn W t)
 |0,_=>⟨h,Az.refl _⟩
 |t+1,ht=>by
  obtain⟨a,b⟩:=zmd h hk t Qo;simp only[Jn];split
  ·rename_i hm;unfold Hg at hm;simp only[A',It,ne_eq] at hm;have hg:=a.w.t (t:Int) Qo Qo hm.1;have hf:=D1 a.w.a (Q8 (Jn W t) (t:Int)).II (Q8 (Jn W t) (t:Int)).mask;exact⟨(B8 a hk Qo Qo hg.1 hf.1 hf.2).2,b.trans (Az.put _ _ _ _)⟩
  ·exact⟨a,b⟩
def LU{F K:Int}{W:Q7}(h:SF F K W)(hk:F+Qi<=K):SF F K (LS W)/\Az W (LS W):=zmd h hk 12 (I7 _)
def z1w{m:Int}{k:Nat}(h4:k<4)(rF:∀j:Nat,j<k->Zk m (j:Int)=false)(h:Zk m (k:Int)):Dl m=(k:Int):=by
 have h0:=rF 0;have h1:=rF 1;have h2:=rF 2;have:k=0\/k=1\/k=2\/k=3:=Qo;unfold Dl;rcases this with rfl|rfl|rfl|rfl
 ·rw[C' (show Zk m 0=true from h)];rfl
 ·rw[B' (by rw[show Zk m 0=false from h0 Qd];decide),C' (show Zk m 1=true from h)];rfl
 ·rw[B' (by rw[show Zk m 0=false from h0 Qd];decide),B' (by rw[show Zk m 1=false from h1 Qd];decide),C' (show Zk m 2=true from h)];rfl
 ·rw[B' (by rw[show Zk m 0=false from h0 Qd];decide),B' (by rw[show Zk m 1=false from h1 Qd];decide),B' (by rw[show Zk m 2=false from h2 Qd];decide),C' (show Zk m 3=true from h)];rfl
def z1x{m:Int}(rF:∀j:Nat,j<4->Zk m (j:Int)=false):Dl m = -1:=by
 unfold Dl;rw[B' (by rw[show Zk m 0=false from rF 0 Qd];decide),B' (by rw[show Zk m 1=false from rF 1 Qd];decide),B' (by rw[show Zk m 2=false from rF 2 Qd];decide),B' (by rw[show Zk m 3=false from rF 3 Qd];decide)]
section
variable {base:Nat}{W W':Q7}{m:MW}{w:Wo}{bar:Int}
def KS{x:Int}{bs:List Nat}:PX bs U3 #[I x] w (I (Dl x)):=
 NO x λwr hx=>by
  refine YU 4 0 rfl (λk=>k<=4/\∀j:Nat,j<k->Zk x (j:Int)=false) ⟨Qd,λj hj=>Ir hj (Nat.not_lt_zero j)⟩ λk ⟨hk,rF⟩=>⟨λIV=>?_,λRW=>?_⟩
  ·have IV:=Ot IV;refine⟨_,Yk,λg=>?_,λg=>⟨⟨Qo,Qo⟩,Qy Qo ⟨Qo,λj hj=>?_⟩⟩⟩
   ·rw[z1w Qo rF g]
   ·by_cases e:j=k
    ·rw[e];exact g
    ·exact rF j Qo
  ·have RW:=Ou RW;have:k=4:=Qo;subst this;rw[z1x rF]
def K0(W:Q7)(t:Int)(x:MQ)(m:MW):Qa (J' W t x) m=Qa W m:=by simp[Qa,J']
def Vf{F K:Int}(h:Zj 8 base w W m)(rP:SF F K W)(hk:F+Qi<=K)(hK:K<=1000000000000000000){t g c:Int}(t0:0<=t)(t1:t<12)(hs:(Q8 W t).state≠0)(hg:Q6 W.IE g)(c0:0<=c)(c1:c<(W.IF.length:Int)) :
  Cz XA #[.agg (Qa W m).toArray,I t,I g,I c] w λe w'=>e=.returned (.agg (Qa W m).toArray)/\Mv 8 base [] w m w' (Ud W t g c) m:=by
 refine(zg3 _ _ _ _ _ _ _ _ _ _ t g c (R:=λv w'=>v=.agg (Qa W m).toArray/\Mv 8 base [] w m w' (Ud W t g c) m) ?_).mono λe w' ⟨v,he,hv,h3⟩=>⟨by rw[he,hv],h3⟩
 intro y hy y1 dY;obtain⟨g0,g1,_⟩:=Q5.1 hg;have qT:=rP.w.a.t;have cZ:=rP.w.a.gl;have hsl:=rP.w.a.sl hg;have hl1:t<(W.IJ.length:Int):=Qo;obtain⟨hu,d0,d1⟩:=rP.w.t t t0 t1 hs;obtain⟨q0,q1,_⟩:=Q5.1 hu;have hql:=rP.w.a.sl hu;have s1:=rP.w.s g c hg c0 c1;have s2:=rP.w.s _ _ hu d0 d1;have hv:=rP.w.tv t t0 t1;have hlr:=zd3 W t;simp only[Qi] at hlr;have hM:=Mv.two h hy dY;have hr:=(Mv.start h).rd;have Wx:=hr.t.ix QT t0 hl1;have T':=h.AP2 t0 hl1 (j:=0) (vs:=X4 (PM W t g c)) (x:=PM W t g c) (by simp[X4]) (by simp[X4]);have e5:Qa (J' W t (PM W t g c)) m=Qa W m:=K0 _ _ _ _;have e6:Qa (Rb (J' W t (PM W t g c)) c) m=Qa W m:=(JZ (Nf _ _)).trans e5;refine⟨NA W t,DJ hr t0 hl1 q0 q1 d0 Qo ⟨by show _<=(Q8 W t).v-(Qb W (Q8 W t).II (Q8 W t).R2).IL;omega,by show (Q8 W t).v-(Qb W (Q8 W t).II (Q8 W t).R2).IL<=_;omega⟩,Wx,_,_,_,_,_,_,_,_,_,hr.t t t0 hl1,λb2 cH=>⟨hr.g.ix g0 g1,_,_,_,hr.g.Rn g0 g1,(hr.g.IH g g0 g1).ix YM c0 Qo,(Qb W g c).IL,zm0.f (hr.g.IH g g0 g1) c0 Qo (j:=0) rfl,⟨Qo,Qo⟩,Wx,zts h Qs t0 hl1 (j:=0) Qd,λg4 wr hx dX=>?_,λg4 wr hx=>⟨rfl,?_⟩⟩⟩
 ·have g4:(Q8 W t).state=1:=Iz g4;have WM:=((hM.add cH).Sv T' Hv).step (hx.of_nil);have RI:=ZM WM.own (W:=J' W t (PM W t g c)) c0 c1;rw[e5,e6] at RI;refine I3 RI ?_;rintro e wv ⟨qC,SX⟩;refine⟨_,_,_,_,_,_,_,_,_,_,qC,WM.kept SX dX,λR7 W8=>⟨rfl,?_⟩⟩;unfold Ud;rw[C' g4];exact((WM.call SX dX).step W8).close
 ·have g4:¬(Q8 W t).state=1:=ne_of_beq_false g4;unfold Ud;rw[B' g4];exact((Mv.start h).Sv T' Hv).R5 hx
def JA{F K:Int}(h:Zj 8 base w W m)(rP:SF F K W)(hk:F+Qi<=K)(hK:K<=1000000000000000000) :
  Cz Yy #[.agg (Qa W m).toArray] w λe w'=>e=.returned (.agg (Qa W m).toArray)/\Mv 8 base [] w m w' (LS W) m:=by
 refine(Eb _ _ _ _ _ _ _ _ _ _ (R:=λv w'=>v=.agg (Qa W m).toArray/\Mv 8 base [] w m w' (LS W) m) ?_).mono λe w' ⟨v,he,hv,h3⟩=>⟨by rw[he,hv],h3⟩
 intro y hy y1 dY;have qT:=rP.w.a.t;refine⟨λvs w1=>∃(k:Nat),vs=I (k:Int)::Qa W m/\k<=12/\Mv 8 base [y,y1] w m w1 (Jn W k) m,Zp 12 0,λw1 hx0 _=>⟨0,rfl,Qd,(Mv.two h hy dY).R5 hx0⟩,?_⟩;rintro c1 l RA Rz RQ RF RL RP RG RH RJ RO We ⟨k,he,rD,hM⟩;obtain⟨hS,hF⟩:=zmd rP hk k rD;have Wg:Jn W (k+1)=if Hg (Jn W k) (k:Int)=true then Ud (Jn W k) (k:Int) (Q8 (Jn W k) (k:Int)).II (Dl (QF (Jn W k) (Q8 (Jn W k) (k:Int)).II (Q8 (Jn W k) (k:Int)).mask)) else Jn W k:=rfl;have AA5:k=12->LS W=Jn W k:=λe=>by rw[e];rfl
 have e0:Qa (Jn W k) m=Qa W m:=by simp only[Qa,hF.n,hF.c,hF.t,hF.g]
 have eC:=hF.c;have eT:=hF.t;simp only[Qa,I4,I5,Iv,true_and,and_true] at he;obtain⟨rfl,rfl,⟨rfl,rfl,rfl⟩,⟨rfl,rfl,rfl⟩,rfl,rfl,rfl⟩:=he;generalize Jn W k=V at hM hS hF Wg AA5 e0 eC eT;have hr:=hM.rd;refine⟨λIV=>?_,λRW w3 Rl=>⟨rfl,?_⟩⟩
 ·have IV:=Ot IV;have t1:(k:Int)<(V.IJ.length:Int):=Qo;have Wx:Ix m.tO W.IJ.length (k:Int):=by have:=hr.t.ix QT (i:=(k:Int)) Qo t1;rwa[eT] at this
  have next:∀{w9 w8:Wo},Q0 [y,y1] RO w9->Hg V (k:Int)=false->(∃(k':Nat),[I ((k:Int)+1),I W.now,.slice m.cO W.IF.length m.cC,.slice m.tO W.IJ.length m.tC,.slice m.gO W.IE.length m.gC]=I (k':Int)::Qa W m/\k'<=12/\Mv 8 base [y,y1] w m w9 (Jn W k') m)/\Zp 12 0 [I ((k:Int)+1),I W.now,.slice m.cO W.IF.length m.cC,.slice m.tO W.IJ.length m.tC,.slice m.gO W.IE.length m.gC] w9<Zp 12 0 [I (k:Int),I W.now,.slice m.cO W.IF.length m.cC,.slice m.tO W.IJ.length m.tC,.slice m.gO W.IE.length m.gC] w8:=λ{w9 w8} hx hm=>by
   refine⟨⟨k+1,rfl,Qo,?_⟩,?_⟩
   ·rw[Wg,B' (by rw[hm];decide)];exact hM.step hx
   ·simp only[Zp,Xp,Y4,Ie];omega
  refine⟨Wx,_,zz8.f hr.t Qo t1 (j:=0) rfl,λg=>⟨⟨Qo,Qo⟩,λRN W8 _=>next W8 (by unfold Hg;rw[show (Q8 V (k:Int)).state=0 from Iz g];rfl)⟩,λg=>?_⟩;have vM:(Q8 V (k:Int)).state≠0:=ne_of_beq_false g;obtain⟨hu,d0,d1⟩:=hS.w.t (k:Int) Qo Qo vM;have hwh:=Jg (g:=(Q8 V (k:Int)).II) (mask:=(Q8 V (k:Int)).mask) hr hS.w.a.c2 hS.w.a.tree hu;rw[e0] at hwh;have hf:=D1 hS.w.a (Q8 V (k:Int)).II (Q8 V (k:Int)).mask;refine⟨Wx,_,zz8.f hr.t Qo t1 (j:=1) rfl,Wx,_,zz8.f hr.t Qo t1 (j:=4) rfl,_,hwh,Wx,_,zz8.f hr.t Qo t1 (j:=2) rfl,_,Yk,λg2=>⟨Wx,_,zz8.f hr.t Qo t1 (j:=1) rfl,_,KS,λS5 Sx gQ=>?_⟩,λg2=>⟨⟨Qo,Qo⟩,λRN W8 _=>next W8 (by unfold Hg;rw[show Zk (QF V (Q8 V (k:Int)).II (Q8 V (k:Int)).mask) (Q8 V (k:Int)).R2=true from (by have h:=g2;rw[I6] at h;exact h)];simp)⟩⟩;have tV:=hM.step Sx;have RI:=Vf tV.own hS hk hK (t:=(k:Int)) (g:=(Q8 V (k:Int)).II) (c:=Dl (QF V (Q8 V (k:Int)).II (Q8 V (k:Int)).mask)) Qo Qo vM hu hf.1 hf.2;rw[e0] at RI;refine I3 RI ?_;rintro e1 Si ⟨qC,fU⟩;refine⟨_,_,_,_,_,_,_,_,_,_,qC,tV.kept fU gQ,⟨Qo,Qo⟩,λSu bM _=>⟨⟨k+1,rfl,Qo,?_⟩,?_⟩⟩
  ·have hm:Hg V (k:Int):=by
    unfold Hg;rw[A'];exact⟨by simpa using vM,g2⟩
   rw[Wg,C' hm];exact(tV.call fU gQ).step bM
  ·simp only[Zp,Xp,Y4,Ie];omega
 ·have RW:=Ou RW;rw[AA5 Qo];exact(hM.step Rl).close
section
variable {pb:Nat}
end
end
def Lg{W:Q7}(sw:SW Qn W):SF Qn (Qn+Qi) W:=sw.sf.mono (I2 _) (by simp only[Qi];decide)
noncomputable def Ds(W:Q7)(t x:Int):Int:=if PK x=false\/x=0 then 1 else if Yd W t=false then 2 else if QO W=false then 10 else 0
def zoi(W:Q7)(t x:Int):MQ:={ Q8 W t with mask:=x }
def zve(W:Q7)(t x:Int):Q7:=Qf (LS (J' W t (zoi W t x)))
def zqx{W:Q7}{t x:Int}(hW:Qp W)(hb:Ds W t x=0):Yd W t/\SF Qn (Qn+Qi) W/\SF Qn (Qn+Qi) (J' W t (zoi W t x)):=by
 have wp:=Qm.1 hW;unfold Ds at hb
 split at hb
 ·cases hb
 ·split at hb
  ·cases hb
  ·rename_i h2
   split at hb
   ·cases hb
   ·rename_i h3;have h1:Yd W t:=by simpa using h2
    have h3:QO W:=by simpa using h3
    have sw:=MK wp (Qm.1 h3);obtain⟨t0,t1,n⟩:=ZY h1;have hl:=wp.a.t;have hv:=sw.tv t t0 Qo;exact⟨h1,Lg sw,Lg (sw.J' t0 Qo (λ_=>sw.t t t0 Qo n) hv.1 hv.2)⟩
def Fv{W:Q7}{m:MW}{F K:Int}(sf:SF F K W)(hk:F+Qi<=K):Qa (LS W) m=Qa W m:=by
 have hF:=(LU sf hk).2;simp only[Qa,hF.n,hF.c,hF.t,hF.g]
section
variable {base pb:Nat}{W W':Q7}{m:MW}{w:Wo}{bar:Int}
def zdz{t x:Int}(h:J6 [] w W m)(hl:UV W) :
  Cz Po #[.agg (Qa W m).toArray,I t,I x] w λe w'=>∃v,e=.returned v/\QV (Y7 W (Ds W t x) (zve W t x)) w v w':=by
 refine zcv _ _ _ _ _ _ _ _ _ _ t x (R:=λv w'=>QV (Y7 W (Ds W t x) (zve W t x)) w v w') ?_;intro y hy y1 dY wr Rg We;refine I3 (Zi (h.ext Rg) hl) ?_;rintro e wv (⟨hW,he,SX⟩|⟨hW,m',he,hM,SX⟩)
 ·exact⟨_,_,_,_,_,_,_,_,_,_,_,he,Qg SX We,false,λg=>by simp at g,λ_ R6 Rl=>QV.bad hW ((Rg.trans SX).fresh Rl λz hm=>.inl (YF hy dY z hm)),λg=>by simp at g⟩
 have hK:=Wk.begin hy dY Rg We hM SX;have hr:=hK.rd;have hc1:((if QO W=true then 0 else 10:Int)==1)=false:=by split <;> rfl
 refine⟨_,_,_,_,_,_,_,_,_,_,_,he,Qg SX We,_,λ_=>Xn,λg R6 Rl=>?_,λg0=>⟨_,JP hr hl.t,λg R7 Rl=>?_,λg=>⟨λg3 RN Rl=>?_,λg3=>?_⟩⟩⟩
 ·rw[hc1] at g;have g:PK x=false\/x=0:=by simpa using g
  have hb:Ds W t x=1:=by unfold Ds;rw[C' g]
  exact QV.no hW (by rw[hb];decide) (hK.step Rl) hb
 ·rw[hc1] at g0;have g0:¬(PK x=false\/x=0):=by simpa using g0
  have g:Yd W t=false:=by simpa using g
  have hb:Ds W t x=2:=by unfold Ds;rw[B' g0,C' g]
  exact QV.no hW (by rw[hb];decide) (hK.step Rl) hb
 ·rw[hc1] at g0;have g0:¬(PK x=false\/x=0):=by simpa using g0
  have g:Yd W t:=by simpa using g
  have cA:¬QO W:=λhr=>by rw[C' hr] at g3;simp at g3
  have hb:Ds W t x=10:=by unfold Ds;rw[B' g0,B' (by rw[g];decide),C' (by simpa using cA)]
  rw[B' cA];exact QV.no hW (by rw[hb];decide) (hK.step Rl) hb
 rw[hc1] at g0;have g0:¬(PK x=false\/x=0):=by simpa using g0
 have g:Yd W t:=by simpa using g
 have cA:QO W:=Iq λhr=>by rw[B' hr] at g3;simp at g3
 have hb:Ds W t x=0:=by unfold Ds;rw[B' g0,B' (by rw[g];decide),B' (by rw[cA];decide)]
 obtain⟨_,sf0,sf⟩:=zqx hW hb;obtain⟨t0,t1,tn⟩:=ZY g;have T':Wk 8 [y,y1] w (Rx wv m'.tO (Int.toNat t*9+4) [I x]) (J' W t (zoi W t x)) m':=hK.Rx (hK.own.AP2 t0 t1 (j:=4) (vs:=[I x]) (x:=zoi W t x) rfl Qs) Hv;refine⟨hr.t.ix QT t0 t1,zts hK.own hK.nb t0 t1 (j:=4) Qd,λRN W8 dX=>?_⟩;have e5:Qa (J' W t (zoi W t x)) m'=Qa W m':=K0 _ _ _ _;have hE:zve W t x=Qf (LS (J' W t (zoi W t x))):=rfl;rw[hE];generalize J' W t (zoi W t x)=V at T' sf e5;have gI:=T'.step W8;have RI:=JA gI.own sf (I2 _) (by simp only[Qi];decide);rw[e5] at RI;refine I3 RI ?_;rintro e1 Rc ⟨qC,fU⟩;refine⟨_,_,_,_,_,_,_,_,_,_,qC,gI.kept fU dX,λS5 Sx gQ=>?_⟩;have eI:=(gI.Sv fU dX).step Sx;have bF:=QB eI.own (LU sf (I2 _)).1.w (by simp only[Qi];decide) (by simp only[Qi];decide) eI.base;rw[Fv sf (I2 _),e5] at bF;refine I3 bF ?_;rintro e2 RO ⟨m2,bS,jX⟩;exact⟨_,_,_,_,_,_,_,_,_,_,bS,eI.kept jX gQ,λSu bM=>QV.ok hW hb ((eI.Sv jX gQ).step bM)⟩
def zc8(W:Q7)(g x:Int):Zb:={ gi W.IE g with IF:=x }
noncomputable def zle(W:Q7)(g x:Int):Int:=Kq W g (PK x&&(x != 0))
def zuk(W:Q7)(g x:Int):Q7:=Qf (LS (R1 W g (zc8 W g x)))
def zxs{W:Q7}{g x:Int}(hW:Qp W)(hb:zle W g x=0):Q6 W.IE g/\QO W/\SF Qn (Qn+Qi) W/\SF Qn (Qn+Qi) (R1 W g (zc8 W g x))/\QZ W.IE (R1 W g (zc8 W g x)).IE:=by
 obtain⟨h1,h2,h3,h4⟩:=za3 hb;have wp:=Qm.1 hW;have sw:=MK wp (Qm.1 h4);obtain⟨u0,u1,hg⟩:=wp.a.u h3;have hl:=wp.a.gl;simp only[A',It,ne_eq] at h1;exact⟨h3,h4,Lg sw,Lg (sw.R1 (x:=zc8 W g x) h3 rfl rfl rfl rfl ⟨hg.w1,hg.w2,h1.1,h1.2,hg.s,hg.len,λh=>Ir h h2,hg.none,hg.IM⟩),XT u0 Qo rfl rfl rfl⟩
def CU{g x:Int}(h:J6 [] w W m)(hl:UV W) :
  Cz Oo #[.agg (Qa W m).toArray,I g,I x] w λe w'=>∃v,e=.returned v/\QV (Y7 W (zle W g x) (zuk W g x)) w v w':=by
 refine Cx _ _ _ _ _ _ _ _ _ _ g x (R:=λv w'=>QV (Y7 W (zle W g x) (zuk W g x)) w v w') ?_;intro y hy y1 dY;refine⟨_,Xn,λwr Rg We=>?_⟩;refine I3 (Vv (g:=g) (ok:=PK x&&(x != 0)) (h.ext Rg) hl) ?_;rintro e wv (⟨hW,he,SX⟩|⟨hW,m',he,hM,SX⟩)
 ·exact⟨_,_,_,_,_,_,_,_,_,_,_,he,Qg SX We,λ_ R6 Rl=>QV.bad hW ((Rg.trans SX).fresh Rl λz hm=>.inl (YF hy dY z hm)),λg=>by simp at g⟩
 have hK:=Wk.begin hy dY Rg We hM SX;refine⟨_,_,_,_,_,_,_,_,_,_,_,he,Qg SX We,λg1 R6 Rl=>QV.no hW (by simpa[zle] using g1) (hK.step Rl) rfl,λg1=>?_⟩;have hb:zle W g x=0:=by simpa[zle] using g1
 have hr:=hK.rd;obtain⟨hu,AM4,sf0,sf,hT⟩:=zxs hW hb;obtain⟨u0,u1,_⟩:=Q5.1 hu;have cZ:=sf0.w.a.gl;have T':Wk 8 [y,y1] w (Rx wv m'.gO (Int.toNat g*14+4) [I x]) (R1 W g (zc8 W g x)) m':=hK.Rx (hK.own.As2 u0 Qo (g:=zc8 W g x) rfl rfl rfl (j:=4) (vs:=[I x]) rfl Qs) A3;refine⟨hr.g.ix (i:=g) u0 u1,zru hK.own hK.nb (i:=g) u0 Qo (j:=4) (k:=1) Qd,λRN W8 dX=>?_⟩;have e5:Qa (R1 W g (zc8 W g x)) m'=Qa W m':=by simp[Qa,R1]
 have hE:zuk W g x=Qf (LS (R1 W g (zc8 W g x))):=rfl;rw[hE];generalize R1 W g (zc8 W g x)=V at T' sf e5;have gI:=T'.step W8;have RI:=JA gI.own sf (I2 _) (by simp only[Qi];decide);rw[e5] at RI;refine I3 RI ?_;rintro e1 Rc ⟨qC,fU⟩;refine⟨_,_,_,_,_,_,_,_,_,_,qC,gI.kept fU dX,λS5 Sx gQ=>?_⟩;have eI:=(gI.Sv fU dX).step Sx;have bF:=QB eI.own (LU sf (I2 _)).1.w (by simp only[Qi];decide) (by simp only[Qi];decide) eI.base;rw[Fv sf (I2 _),e5] at bF;refine I3 bF ?_;rintro e2 RO ⟨m2,bS,jX⟩;exact⟨_,_,_,_,_,_,_,_,_,_,bS,eI.kept jX gQ,λSu bM=>QV.ok hW hb ((eI.Sv jX gQ).step bM)⟩
end
def z5e(W:Q7)(c:Int)(j:Nat):Bool:=((Q8 W (j:Int)).state==1)&&((Q8 W (j:Int)).R2==c)
def zmc(W:Q7)(c:Int)(j:Nat):Int:=if z5e W c j=true then 1 else 0
def zlp(W:Q7)(c:Int)(j:Nat):Int:=if z5e W c j=true then (Q8 W (j:Int)).load else 0
def zoq(W:Q7)(c:Int):Int:=Jo (zmc W c) W.IJ.length
def zlq(W:Q7)(c:Int):Int:=Jo (zlp W c) W.IJ.length
def z1s(W:Q7)(a b:Int):Bool:=decide (zlq W a<zlq W b)||((zlq W a==zlq W b)&&decide (zoq W a<zoq W b))
def MA(W:Q7)(m:Int):Nat->Int
 |0 => -1
 |k+1=>if (Zk m (k:Int)&&(decide (MA W m k<0)||z1s W (k:Int) (MA W m k)))=true then (k:Int) else MA W m k
def MV(W:Q7)(m:Int):Int:=MA W m W.IF.length
def zon{W:Q7}{m:Int}{k:Nat}(h:(Zk m (k:Int)&&(decide (MA W m k<0)||z1s W (k:Int) (MA W m k)))):MA W m (k+1)=(k:Int):=C' h
def zs5{W:Q7}{m:Int}{k:Nat}(h:(Zk m (k:Int)&&(decide (MA W m k<0)||z1s W (k:Int) (MA W m k)))=false):MA W m (k+1)=MA W m k:=B' (by rw[h];decide)
def ze6(W:Q7)(m:Int):∀k:Nat,-1<=MA W m k/\MA W m k<(k:Int)/\(0<=MA W m k->Zk m (MA W m k))
 |0=>⟨I2 _,by show (-1:Int)<0;decide,λh=>by have:(0:Int)<=-1:=h;omega⟩
 |k+1=>by
  have ih:=ze6 W m k;simp only[MA];split
  ·rename_i h;simp only[A'] at h;exact⟨Qo,Qo,λ_=>h.1⟩
  ·exact⟨ih.1,Qo,ih.2.2⟩
def zjj{W:Q7}{m:Int}{j:Nat}(h:Zk m (j:Int)):∀k:Nat,j<k->0<=MA W m k
 |0,hk=>Ir hk (Nat.not_lt_zero j)
 |k+1,hk=>by
  by_cases e:j=k
  ·subst e
   by_cases hn:MA W m j<0
   ·rw[zon (by rw[h,Ih hn];rfl)];omega
   ·simp only[MA];split <;> omega
  ·have:=zjj (W:=W) h k Qo;simp only[MA]
   split <;> omega
def z4u{W:Q7}(ha:WA W){m:Int}(hm:PK m)(h0:m≠0)(hs:∀c:Int,Zk m c->0<=c/\c<(W.IF.length:Int)):0<=MV W m/\MV W m<(W.IF.length:Int)/\Zk m (MV W m):=by
 have hf:=FQ hm h0;have hr:=hs _ hf;have e:((Dl m).toNat:Int)=Dl m:=Qo;have h1:=zjj (W:=W) (m:=m) (j:=(Dl m).toNat) (by rw[e];exact hf) W.IF.length Qo;have h2:=ze6 W m W.IF.length;exact⟨h1,h2.2.1,h2.2.2 h1⟩
def HS{W:Q7}(ha:WA W)(g mask:Int):0<=MV W (QF W g mask)/\MV W (QF W g mask)<(W.IF.length:Int)/\Zk (QF W g mask) (MV W (QF W g mask)):=
 z4u ha (HE ha g mask).1 (HE ha g mask).2 λ_ h=>GS ha h
def Eo(m:Int):Nat->Int
 |0=>0
 |k+1=>if Zk m (k:Int)=true then Eo m k+1 else Eo m k
def zea(m:Int):∀k:Nat,0<=Eo m k/\Eo m k<=(k:Int)
 |0=>by simp[Eo]
 |k+1=>by
  have:=zea m k;simp only[Eo]
  split <;> omega
def z6o(W:Q7):Prop:=∀t:Int,0<=t->t<12->0<=(Q8 W t).load/\(Q8 W t).load<=8000000
def zyc{W:Q7}(wp:XV W):z6o W:=λt t0 t1=>by
 rcases wp.t t t0 t1 with h|⟨_,h⟩
 ·rw[h.2];decide
 ·exact⟨h.l1,h.l2⟩
def zq4(W:Q7)(c:Int)(j:Nat):0<=zmc W c j/\zmc W c j<=1:=by unfold zmc;split <;> omega
def zq5{W:Q7}(c:Int)(k:Nat):0<=Jo (zmc W c) k/\Jo (zmc W c) k<=(k:Int)*1:=VW (zq4 W c) k
def zd4{W:Q7}(hl:z6o W)(c:Int):∀k:Nat,k<=12->0<=Jo (zlp W c) k/\Jo (zlp W c) k<=(k:Int)*8000000
 |0,_=>by simp[Jo]
 |k+1,hk=>by
  have ih:=zd4 hl c k Qo;have h1:=hl (k:Int) Qo Qo;simp only[Jo];have h2:0<=zlp W c k/\zlp W c k<=8000000:=by unfold zlp;split <;> omega
  omega
section
variable {W:Q7}{m:MW}{w:Wo}{bs:List Nat}{p:OA}
def Pv{c:Int}(h:J6 bs w W m)(qT:W.IJ.length=12):PX bs Jd #[.agg (Qa W m).toArray,I c] w (I (zoq W c)):=
 zag _ _ _ _ _ _ _ _ _ _ c λwr hx=>by
  have h:=(h.ext hx).less (cs:=[]) Qs;intro _ _;refine P9 W.IJ.length 0 rfl (λx k=>k<=W.IJ.length/\x=Jo (zmc W c) k) ⟨Ic _,rfl⟩ λx k ⟨hk,Rg⟩=>⟨λIV=>?_,λRW=>?_⟩
  ·have IV:=Ot IV;have hr:=zq5 (W:=W) c k;refine⟨h.t.ix QT Qo IV,_,h.t.f Qo IV (j:=0) rfl,λ_=>h.t.ix QT Qo IV,_,λ_=>h.t.f Qo IV (j:=2) rfl,λg2=>⟨⟨Qo,Qo⟩,⟨Qo,Qo⟩,QP Qo ⟨Qo,?_⟩⟩,λg2=>⟨⟨Qo,Qo⟩,QP Qo ⟨Qo,?_⟩⟩⟩
   ·have g2:z5e W c k:=g2;simp only[Jo,zmc];rw[C' g2,Rg]
   ·have g2:z5e W c k=false:=g2;simp only[Jo,zmc];rw[B' (by rw[g2];decide),Rg,Int.add_zero]
  ·have RW:=Ou RW;have:k=W.IJ.length:=Qo;subst this;rw[Rg];rfl
def Vu{c:Int}(h:J6 bs w W m)(qT:W.IJ.length=12)(hl:z6o W):PX bs Xr #[.agg (Qa W m).toArray,I c] w (I (zlq W c)):=
 zae _ _ _ _ _ _ _ _ _ _ c λwr hx=>by
  have h:=(h.ext hx).less (cs:=[]) Qs;intro _ _;refine P9 W.IJ.length 0 rfl (λx k=>k<=W.IJ.length/\x=Jo (zlp W c) k) ⟨Ic _,rfl⟩ λx k ⟨hk,Rg⟩=>⟨λIV=>?_,λRW=>?_⟩
  ·have IV:=Ot IV;have hr:=zd4 hl c k Qo;have hl1:=hl (k:Int) Qo Qo;refine⟨h.t.ix QT Qo IV,_,h.t.f Qo IV (j:=0) rfl,λ_=>h.t.ix QT Qo IV,_,λ_=>h.t.f Qo IV (j:=2) rfl,λg2=>⟨h.t.ix QT Qo IV,(Q8 W (k:Int)).load,h.t.f Qo IV (j:=8) rfl,⟨Qo,Qo⟩,⟨Qo,Qo⟩,QP Qo ⟨Qo,?_⟩⟩,λg2=>⟨⟨Qo,Qo⟩,QP Qo ⟨Qo,?_⟩⟩⟩
   ·have g2:z5e W c k:=g2;simp only[Jo,zlp];rw[C' g2,Rg]
   ·have g2:z5e W c k=false:=g2;simp only[Jo,zlp];rw[B' (by rw[g2];decide),Rg,Int.add_zero]
  ·have RW:=Ou RW;have:k=W.IJ.length:=Qo;subst this;rw[Rg];rfl
def Gc{x:Int}(h:J6 bs w W m)(ha:WA W)(hl:z6o W):PX bs UI #[.agg (Qa W m).toArray,I x] w (I (MV W x)):=
 zaf _ _ _ _ _ _ _ _ _ _ x λwr hx=>by
  have h:=(h.ext hx).less (cs:=[]) Qs;have hcl:=ha.c2;have qT:=ha.t;intro _ _;refine P9 W.IF.length 0 rfl (λb k=>k<=W.IF.length/\b=MA W x k) ⟨Ic _,rfl⟩ λb k ⟨hk,hb⟩=>⟨λIV=>?_,λRW=>?_⟩
  ·have IV:=Ot IV;have key:(((decide (b<0))||(decide (zlq W (k:Int)<zlq W b)))||((zlq W (k:Int)==zlq W b)&&(decide (zoq W (k:Int)<zoq W b))))=(decide (MA W x k<0)||z1s W (k:Int) (MA W x k)):=by rw[hb,Bool.or_assoc];rfl
   refine⟨_,Yk,λg=>⟨⟨Qo,Qo⟩,QP Qo ⟨Qo,?_⟩⟩,λg=>⟨_,λ_=>Vu h qT hl,_,λ_=>Vu h qT hl,_,λ_=>Vu h qT hl,_,λ_=>Vu h qT hl,_,λ_ _=>Pv h qT,_,λ_ _=>Pv h qT,λg2=>⟨⟨Qo,Qo⟩,QP Qo ⟨Qo,?_⟩⟩,λg2=>⟨⟨Qo,Qo⟩,QP Qo ⟨Qo,?_⟩⟩⟩⟩
   ·have g:Zk x (k:Int)=false:=by simpa using g
    rw[hb,zs5 (by rw[g];rfl)]
   ·have g:Zk x (k:Int):=by simpa using g
    rw[zon (by rw[g,<-key,g2];rfl)]
   ·have g:Zk x (k:Int):=by simpa using g
    rw[hb,zs5 (by rw[g,<-key,g2];rfl)]
  ·have RW:=Ou RW;have:k=W.IF.length:=Qo;subst this;rw[hb];rfl
def Nu{x:Int}:PX bs Tm #[I x] w (I (Eo x 4)):=
 NN x λwr hx=>by
  refine P9 4 0 rfl (λn k=>k<=4/\n=Eo x k) ⟨Qd,rfl⟩ λn k ⟨hk,hn⟩=>⟨λIV=>?_,λRW=>?_⟩
  ·have IV:=Ot IV;have hr:=zea x k;refine⟨_,Yk,λg=>⟨⟨Qo,Qo⟩,⟨Qo,Qo⟩,QP Qo ⟨Qo,?_⟩⟩,λg=>⟨⟨Qo,Qo⟩,QP Qo ⟨Qo,?_⟩⟩⟩
   ·simp only[Eo];rw[C' g,hn]
   ·simp only[Eo];rw[B' (by rw[g];decide),hn]
  ·have RW:=Ou RW;have:k=4:=Qo;subst this;rw[hn]
end
def za5(n:Int):Int:=if YT n 1 4=true then (if n=1 then 0 else if n=2 then 1 else 2) else 0
def zuy{n:Int}(h:YT n 1 4):(n=1/\za5 n=0)\/(n=2/\za5 n=1)\/(n=3/\za5 n=2)\/(n=4/\za5 n=2):=by
 have:=Qv.1 h;have:n=1\/n=2\/n=3\/n=4:=Qo;rcases this with rfl|rfl|rfl|rfl
 ·exact .inl ⟨rfl,Qd⟩
 ·exact .inr (.inl ⟨rfl,Qd⟩)
 ·exact .inr (.inr (.inl ⟨rfl,Qd⟩))
 ·exact .inr (.inr (.inr ⟨rfl,Qd⟩))
def zyt(c lv j:Int):Bool:=Int.fdiv j (2 ^ (min (Int.toNat (lv+1)) 64))==Int.fdiv c (2 ^ (min (Int.toNat (lv+1)) 64))
def zzh(c lv:Int):Nat->Int
 |0=>0
 |k+1=>if zyt c lv (k:Int)=true then zzh c lv k+Uc k else zzh c lv k
def zzi(c lv:Int):∀k:Nat,k<=4->0<=zzh c lv k/\zzh c lv k<Uc k
 |0,_=>by simp[zzh,Uc]
 |k+1,h=>by
  have ih:=zzi c lv k Qo
  have hb:Uc (k+1)=2*Uc k/\0<=Uc k:=by
   have:k=0\/k=1\/k=2\/k=3:=Qo;rcases this with rfl|rfl|rfl|rfl <;> decide
  simp only[zzh]
  split <;> omega
def NZ(n c lv:Int):Bool:=(YT n 1 4&&YT c 0 (n-1))&&YT lv 0 (za5 n-1)
def z6d(n c lv:Int):Int:=if NZ n c lv=true then zzh c lv n.toNat else 0
section
variable {w:Wo}{bs:List Nat}{n c lv:Int}
def z1t{n:Int}{k:Nat}(h:YT n 1 4)(hk:(k:Int)<=za5 n):(decide ((1*2 ^ (min (Int.toNat (k:Int)) 64):Int)<n)->(k:Int)+1<=za5 n)/\(decide ((1*2 ^ (min (Int.toNat (k:Int)) 64):Int)<n)=false->(k:Int)=za5 n):=by
 rcases zuy h with ⟨rfl,e⟩|⟨rfl,e⟩|⟨rfl,e⟩|⟨rfl,e⟩ <;> rw[e] at hk ⊢
 ·have:k=0:=Qo;subst this;decide
 ·have:k=0\/k=1:=Qo;rcases this with rfl|rfl <;> decide
 ·have:k=0\/k=1\/k=2:=Qo;rcases this with rfl|rfl|rfl <;> decide
 ·have:k=0\/k=1\/k=2:=Qo;rcases this with rfl|rfl|rfl <;> decide
def zst(n:Int):0<=za5 n/\za5 n<=2:=by
 unfold za5;split
 ·split
  ·omega
  ·split <;> omega
 ·omega
def PD:PX bs XZ #[I n] w (I (za5 n)):=
 Dq n λwr hx=>by
  refine⟨_,Qt,λq=>?_,λq=>?_⟩
  ·have q:YT n 1 4=false:=by simpa using q
   have:za5 n=0:=B' (by rw[q];decide);rw[this]
  ·have q:YT n 1 4:=by simpa using q
   have hl:=zst n;refine⟨λvs=>∃k:Nat,vs=[I (k:Int)]/\(k:Int)<=za5 n,λvs=>(2-Y4 0 vs).toNat,⟨0,rfl,hl.1⟩,?_⟩;rintro k' ⟨k,he,hk⟩;simp only[I4,I5,true_and,and_true] at he;subst he;have hb:=BS (k:=k) Qo;have gJ:(1*2 ^ (min (Int.toNat (k:Int)) 64):Int)=Uc k:=rfl;obtain⟨s1,s2⟩:=z1t q hk;refine⟨⟨Qo,Qo⟩,⟨Qo,by rw[gJ];exact⟨Qo,Qo⟩⟩,λg=>⟨⟨Qo,Qo⟩,⟨k+1,Qs,by have:=s1 g;omega⟩,?_⟩,λg=>by rw[<-s2 g]⟩;have:=s1 g;show (2-((k:Int)+1)).toNat<(2-(k:Int)).toNat;omega
def zvo(h:NZ n c lv):YT n 1 4/\0<=c/\c<n/\0<=lv/\lv<=1:=by
 unfold NZ at h;simp only[A'] at h;have h1:=Qv.1 h.1.2;have h2:=Qv.1 h.2;have:=zst n;exact⟨h.1.1,h1.1,Qo,h2.1,Qo⟩
def FF:PX bs VL #[I n,I c,I lv] w (I (z6d n c lv)):=
 B4 n c lv λwr hx=>by
  have hl:=zst n
  have e:(((!YT n 1 4)||(!YT c 0 (n-1)))||(!YT lv 0 (za5 n-1))) = !NZ n c lv:=by
   unfold NZ;rw[Bool.not_and,Bool.not_and]
  refine⟨_,Qt,λq=>?_,_,λ_=>Qt,_,λ_=>PD,λ_=>⟨Qo,Qo⟩,_,λ_=>Qt,λq=>?_,λq=>?_⟩
  ·have q:=Qv.1 (by simpa using q:YT n 1 4);exact⟨Qo,Qo⟩
  ·rw[e] at q;have:z6d n c lv=0:=B' (by simpa using q);rw[this]
  ·rw[e] at q;have q:NZ n c lv:=by simpa using q
   obtain⟨h1,c0,c1,l0,l1⟩:=zvo q;have hn:=Qv.1 h1;obtain⟨N,rfl⟩:∃N:Nat,n=(N:Int):=⟨n.toNat,Qo⟩;have hD:z6d (N:Int) c lv=zzh c lv N:=by unfold z6d;rw[C' q,Ig]
   rw[hD];refine P9 N 0 rfl (λx k=>k<=N/\x=zzh c lv k) ⟨Ic _,rfl⟩ λx k ⟨hk,Rg⟩=>⟨λIV=>?_,λRW=>?_⟩
   ·have IV:=Ot IV;have hb:=BS (k:=k) Qo;have hs:=zzi c lv k Qo;have gJ:(1*2 ^ (min (Int.toNat (k:Int)) 64):Int)=Uc k:=rfl;refine⟨⟨Qo,Qo⟩,⟨Qo,Qo⟩,Qo,⟨Qo,Qo⟩,⟨Qo,Qo⟩,Qo,λhu=>?_,λhu=>?_⟩
    ·rw[gJ,Rg];refine⟨⟨Qo,Qo⟩,⟨Qo,Qo,Qo⟩,⟨Qo,Qo⟩,⟨Qo,Qo⟩,QP Qo ⟨Qo,?_⟩⟩;simp only[zzh];rw[C' (show zyt c lv (k:Int)=true from hu)]
    ·refine⟨⟨Qo,Qo⟩,QP Qo ⟨Qo,?_⟩⟩;rw[Rg];simp only[zzh];rw[B' (by rw[show zyt c lv (k:Int)=false from hu];decide)]
   ·have RW:=Ou RW;have:k=N:=Qo;subst this;rw[Rg]
end
def zaq(W:Q7)(g:Int):List Int:=QM W.IE g++[0]
def zxe(W:Q7)(g c:Int):Bool:=(zaq W g).any λx=>Jm W x c
def zpc(W:Q7):zaq W 0=[0]:=by unfold zaq;rw[show QM W.IE 0=[] from Zc W.IE 3];rfl
def zpd{W:Q7}(ht:Yh W.IE){g:Int}(hu:Q6 W.IE g)(hz:g≠0):zaq W g=g::zaq W (gi W.IE g).IG:=by
 unfold zaq;rw[Yg ht hu hz,List.cons_append]
def zz2{W:Q7}(ht:Yh W.IE){g:Int}(hu:Q6 W.IE g):∀x∈zaq W g,Q6 W.IE x:=by
 have hr:Q6 W.IE 0:=Q5.2 ⟨Qd,by have:=ht.len;omega,ht.ru⟩;refine My ht (Q:=λh=>∀x∈zaq W h,Q6 W.IE x) ?_ (λh hu hz ih=>?_) g hu
 ·rw[zpc];intro x hx;have:x=0:=by simpa using hx
  rw[this];exact hr
 ·rw[zpd ht hu hz];intro x hx;rcases Ii.1 hx with rfl|hx
  ·exact hu
  ·exact ih x hx
def ze3(gs:List Zb):∀(f:Nat) (g:Int),(US f gs g).length<=f
 |0,_=>I7 _
 |f+1,g=>by
  simp only[US];split
  ·simp
  ·have:=ze3 gs f (gi gs g).IG;simp;omega
def ztp(W:Q7)(g:Int):(zaq W g).length<=4:=by
 unfold zaq;have:=ze3 W.IE 3 g;simp;omega
def UY(W:Q7)(t c:Int):Bool:=
 (!(((((((Q8 W t).state != 1)||((Q8 W t).R2==c))||((gi W.IF (Q8 W t).R2).cur==t))||(!Zq W t))||(!Zk (QF W (Q8 W t).II (Q8 W t).mask) c)))) && !zxe W (Q8 W t).II c
def ztx(W:Q7)(b c:Int):Bool:=TV (λt=>((Q8 W (t:Int)).R2==b)&&UY W (t:Int) c) 12
def Ah{W:Q7}{t c:Int}(h:UY W t c):(Q8 W t).state=1/\(Q8 W t).R2≠c:=by
 unfold UY at h;simp only[A',ID,H',bne_eq_false_iff_eq,beq_eq_false_iff_ne] at h;exact⟨h.1.1.1.1.1,h.1.1.1.1.2⟩
section
variable {W:Q7}{m:MW}{w:Wo}{bs:List Nat}{p:OA}
def zos(W:Q7)(g:Int):List Int:=if g=0 then [] else zaq W (gi W.IE g).IG
def zjm{W:Q7}(ht:Yh W.IE){g:Int}(hu:Q6 W.IE g):g::zos W g=zaq W g:=by
 unfold zos
 by_cases hz:g=0
 ·subst hz;rw[C' rfl,zpc]
 ·rw[B' hz,zpd ht hu hz]
def Gf{t:Int}(h:J6 [] w W m)(ht:Yh W.IE)(t0:0<=t)(t1:t<(W.IJ.length:Int))(hu:Q6 W.IE (Q8 W t).II) :
  Cz UL #[.agg (Qa W m).toArray,I t] w λe w'=>∃o c',e=.returned (.slice o (zaq W (Q8 W t).II).length c')/\Uy JW 1 Qc w.heap.size w' o c' (zaq W (Q8 W t).II)/\Q0 [] w w':=by
 refine(CP _ _ _ _ _ _ _ _ _ _ t (R:=λv w'=>∃o c',v=.slice o (zaq W (Q8 W t).II).length c'/\Uy JW 1 Qc w.heap.size w' o c' (zaq W (Q8 W t).II)/\Q0 [] w w') ?_).mono λe w' ⟨v,he,o,c',hv,h1⟩=>⟨o,c',by rw[he,hv],h1⟩
 intro b hb;refine⟨h.t.ix QT t0 t1,_,h.t.f t0 t1 (j:=1) rfl,λb1 wb Sn dG WY hn=>?_⟩;have hlen:=ztp W (Q8 W t).II;have hO0:Uy JW 1 Qc w.heap.size wb (some ⟨b1,0,none⟩) 1 [(Q8 W t).II]:=.inr ⟨b1,[],rfl,dG,WY,by simp[JW],Qs⟩;have hbn:∀x∈[b],w.heap.size<=x:=by simpa using hb
 refine⟨λvs w1=>∃(g:Int) (l:List Int) (o:OA) (c':Nat),vs=[I g,.slice o l.length c']/\Q6 W.IE g/\l++zos W g=zaq W (Q8 W t).II/\Sc w [b] w1/\Ob JW 1 Qc w.heap.size [b] w1 o c' l,λvs _=>(dep 3 W.IE (Y4 0 vs)).toNat,
  λwr hx _=>⟨_,[(Q8 W t).II],_,1,rfl,hu,zjm ht hu,(Sc.mk Sn hbn).step hx,⟨hO0.ext hx (by simp[QL];exact λe=>hn (by simp[e])),by simp[QL];exact λe=>hn (by simp[e])⟩⟩,?_⟩
 rintro g oO oL oC w1 eR ⟨g',l,o',c',he,hug,hI,s1,hO⟩;simp only[I4,I5,Iv,true_and,and_true] at he;obtain⟨rfl,rfl,rfl,rfl⟩:=he;have hg:=((h.wide (cs:=[b]) λx hm=>.inr (hbn x hm)).ext s1.ext.of_nil).g
 have hll:l.length<=4:=by
  have:=congrArg List.length hI;simp at this;omega
 refine⟨λhz=>?_,λhz wr hx=>?_⟩
 ·have hz:g≠0:=by simpa using hz
  obtain⟨hp,a,b',d,e,e2,hd⟩:=Y3 ht hug hz;refine⟨hg.ix a b',_,hg.IG a b',λb2 cH R6 Rg We CP1=>?_⟩;have s2:=s1.put Rg cH;have vB:=hO.put Rg cH;obtain⟨o2,c2,w2,Wn,hk2,hO3,Rl⟩:=vB.AQ6 X6 MN (x:=(gi W.IE g).IG) We s2.ext.size CP1 (z4o _) Qo Qd YR #[false,false];have s3:=s2.call Rl λx hm=>(vB.own.lt x hm).1
  refine⟨_,_,_,w2,Wn,hk2,λR7 W8 _=>⟨⟨_,l++[(gi W.IE g).IG],o2,c2,rfl,hp,?_,(s3.step W8).sub Qs,(hO3.step W8).sub Qs⟩,?_⟩⟩
  ·rw[List.append_assoc,List.singleton_append,zjm ht hp,<-hI];unfold zos;rw[B' hz]
  ·show (dep 3 W.IE (gi W.IE g).IG).toNat<(dep 3 W.IE g).toNat;omega
 ·have hz:g=0:=by simpa using hz
  subst hz
  have hl:l=zaq W (Q8 W t).II:=by
   rw[<-hI];unfold zos;rw[C' rfl,List.append_nil]
  subst hl;exact⟨oO,oC,rfl,(hO.step hx).own,(s1.step hx).ext⟩
def Gd{t c:Int}(h:J6 bs w W m)(wp:XV W)(t0:0<=t)(t1:t<(W.IJ.length:Int))(c0:0<=c)(c1:c<(W.IF.length:Int)):PX bs UJ #[.agg (Qa W m).toArray,I t,I c] w (.bool (UY W t c)):=by
 refine L7 λwr0 hx0=>CL _ _ _ _ _ _ _ _ _ _ t c (R:=λv w'=>v=.bool (UY W t c)/\Q0 [] wr0 w') ?_
 have h:=(h.ext hx0).less (cs:=[]) Qs;have li:((Q8 W t).state != 1)=false->Q6 W.IE (Q8 W t).II/\0<=(Q8 W t).R2/\(Q8 W t).R2<(W.IF.length:Int):=λhs=>wp.li t0 t1 (by simpa using hs)
 intro b hb;refine⟨h.t.ix QT t0 t1,_,_,_,_,_,_,_,_,_,h.t t t0 t1,λb1 dG=>?_⟩;refine⟨λg=>?_,(gi W.IF (Q8 W t).R2).cur,λg=>?_,Zq W t,λg=>?_,QF W (Q8 W t).II (Q8 W t).mask,λg=>?_,_,λg=>Yk,λg wr hx=>?_,λg R6 Sn eR=>?_⟩
 ·have g:(((Q8 W t).state != 1)||((Q8 W t).R2==c))=false:=g;simp only[H'] at g;have:=li g.1;exact h.c.ix Y9 this.2.1 this.2.2
 ·have g:(((Q8 W t).state != 1)||((Q8 W t).R2==c))=false:=g;simp only[H'] at g;have:=li g.1;exact(h.c _ this.2.1 this.2.2).get 1 _ rfl
 ·exact Vw h wp.a t0 t1 λhs=>wp.li t0 t1 hs
 ·have g:(((((Q8 W t).state != 1)||((Q8 W t).R2==c))||((gi W.IF (Q8 W t).R2).cur==t))||(!Zq W t))=false:=g;simp only[H'] at g;exact Jg h wp.a.c2 wp.a.tree (li g.1.1.1).1
 ·have:UY W t c=false:=by
   unfold UY;rw[show ((((((Q8 W t).state != 1)||((Q8 W t).R2==c))||((gi W.IF (Q8 W t).R2).cur==t))||(!Zq W t))||(!Zk (QF W (Q8 W t).II (Q8 W t).mask) c))=true from g];rfl
  rw[this];exact⟨rfl,hx⟩
 have g:((((((Q8 W t).state != 1)||((Q8 W t).R2==c))||((gi W.IF (Q8 W t).R2).cur==t))||(!Zq W t))||(!Zk (QF W (Q8 W t).II (Q8 W t).mask) c))=false:=g;have eC:UY W t c = !zxe W (Q8 W t).II c:=by unfold UY;rw[g];rfl
 simp only[H'] at g;obtain⟨hu,_,_⟩:=li g.1.1.1.1;rw[eC]
 have hbn:∀x∈[b,b1],wr0.heap.size<=x:=by
  intro x hm;simp only[Ii,List.not_mem_nil,or_false] at hm;rcases hm with rfl|rfl
  ·exact hb
  ·exact dG
 refine(Gf (h.ext Sn) wp.a.tree t0 t1 hu).mono λe w2 ⟨o,c',he,hO,Rg⟩=>⟨_,_,_,he,Qg Rg eR,?_⟩
 have DP1:=ztp W (Q8 W t).II;have s2:Sc wr0 [b,b1] w2:=⟨Sn.trans Rg,hbn⟩;have vB:Ob JW 1 Qc R6.heap.size [b,b1] w2 o c' (zaq W (Q8 W t).II):=Ob.of hO eR
 refine Jh (zaq W (Q8 W t).II).length 0 rfl (λk w3=>k<=(zaq W (Q8 W t).II).length/\Sc wr0 [b,b1] w3/\Ob JW 1 Qc R6.heap.size [b,b1] w3 o c' (zaq W (Q8 W t).II)/\∀j:Nat,j<k->Jm W (gi (zaq W (Q8 W t).II) (j:Int)) c=false)
  (λw3 Rl _=>⟨Ic _,s2.step Rl,vB.step Rl,λj hj=>Ir hj (Nat.not_lt_zero j)⟩) λk w3 _ ⟨hk,s3,hO3,hI⟩=>⟨λIV=>?_,λRW wr hx=>?_⟩
 ·have IV:=Ot IV;have hR:=hO3.rd X6.len;have hgm:=zqb (l:=zaq W (Q8 W t).II) (i:=(k:Int)) Qo IV;have hW3:=(h.wide (cs:=[b,b1]) λx hm=>.inr (hbn x hm)).ext s3.ext.of_nil;refine⟨hR.ix XP Qo IV,_,hR (k:Int) Qo IV,_,LD hW3 wp.a (zz2 wp.a.tree hu _ hgm) c0 c1,λgd wr hx=>⟨?_,(s3.step hx).ext⟩,λgd=>⟨⟨Qo,Qo⟩,λwr hx _=>Qx Qo ⟨Qo,s3.step hx,hO3.step hx,λj hj=>?_⟩⟩⟩
  ·have:zxe W (Q8 W t).II c:=List.any_eq_true.2 ⟨_,hgm,gd⟩;rw[this];rfl
  ·by_cases jD:j<k
   ·exact hI j jD
   ·have:j=k:=Qo;subst this;exact gd
 ·have RW:=Ou RW;have hkn:k=(zaq W (Q8 W t).II).length:=Qo
  have:zxe W (Q8 W t).II c=false:=by
   cases hd:zxe W (Q8 W t).II c with
   |false=>rfl
   |true=>
    obtain⟨x,hx,hdx⟩:=List.any_eq_true.1 hd;obtain⟨j,hj,hjx⟩:=List.getElem_of_mem hx;have:=hI j Qo;rw[Jq hj,hjx,hdx] at this;cases this
  rw[this];exact⟨rfl,(s3.step hx).ext⟩
end
end Go.Proofs.YtjinkcmkgnofjaaGreatDoor
