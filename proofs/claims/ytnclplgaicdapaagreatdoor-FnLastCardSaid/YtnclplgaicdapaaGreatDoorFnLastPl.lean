/- Part 12 of what the law FnLast needs. -/
import Derived.Test.YtnclplgaicdapaaGreatDoorFnLastPk
import Derived.Laws.BytesArg
set_option linter.unusedVariables false
set_option linter.unusedSimpArgs false
set_option maxRecDepth 100000
set_option maxHeartbeats 8000000
namespace Go.Proofs.YtnclplgaicdapaaGreatDoor
open Go.RowKit
theorem zta{α:Type}[Inhabited α]{l:List α}{i:Int}(h0:0<=i)(h1:i<(l.length:Int)):l.set i.toNat (gi l i)=l:=by
 obtain⟨k,rfl⟩:=Int.eq_ofNat_of_zero_le h0;rw[U8 Qo,Ih,List.set_getElem_self]
def z3p(G:ZN)(K:Int):Int:=K+1+1+1+1+1+1+1+1+1+1+1+1*(G.IN.locals.length:Int)+1*(G.IN.Ry.length:Int)+5*(G.IF.length:Int)
def gK(gs:List ZN)(k:Int):Nat->Int
 | 0=>k
 | i+1=>z3p (gi gs (i:Int)) (gK gs k i)
section
variable {n base:Nat}{W:Q7}{m:MW}{w w':Wo}{G G':ZN}{i:Int}
end
def kC(W:Q7):Int:=1+5*(W.IE.length:Int)
def kT(W:Q7):Int:=kC W+9*(W.tasks.length:Int)
def mK(W:Q7):Int:=gK W.ID (kT W) W.ID.length
section
variable {n base:Nat}{W:Q7}{m:MW}{w w':Wo}{bs:List Nat}
end
def CR:MC:=⟨0,0,0,0,0,0,0,0,0⟩
def Z4(W:Q7)(t:Int):Q7:=if (gi W.IE (Q8 W t).M').cur=t then RD W (Q8 W t).M' else W
noncomputable def OZ(W:Q7)(t:Int):Int:=if Yj W t=false then 2 else if QO W=false then 10 else 0
def NT(W:Q7)(t:Int):Q7:=Qg (IU (Z4 W t) t CR)
theorem zlx{K:Int}{W:Q7}(h:SW K W){t:Int}(t0:0<=t)(t1:t<12)(n:(Q8 W t).state≠0):SW K (Z4 W t):=by
 unfold Z4;split
 ·exact h.RD (h.t t t0 t1 n).2.1 (h.t t t0 t1 n).2.2
 ·exact h
theorem zjf{W:Q7}{t:Int}(hW:Qy W=true)(hb:OZ W t=0):Yj W t=true/\QO W=true/\SW Qn W/\SW Qn (IU W t CR)/\SW Qn (IU (Z4 W t) t CR):=by
 have wp:=Qj.1 hW;unfold OZ at hb
 split at hb
 ·cases hb
 ·rename_i h1
  split at hb
  ·cases hb
  ·rename_i h3;have h1:Yj W t=true:=by simpa using h1
   have h3:QO W=true:=by simpa using h3
   have sw:=Mq wp (Qj.1 h3);obtain⟨t0,t1,n⟩:=X0 h1;have hl:=wp.a.t;exact⟨h1,h3,sw,sw.IU t0 Qo (λh=>Is rfl h) Qd Qd,(zlx sw t0 Qo n).IU t0 Qo (λh=>Is rfl h) Qd Qd⟩
section
variable {W:Q7}{m:MW}{w:Wo}{bar:Int}
theorem Cc{t:Int}(h:Xl [] w W m)(hl:Xz W) :
  Cz O2 #[.agg (Qa W m).toArray,I t] w λe w'=>∃v,e=.returned v/\QP (YK W (OZ W t) (NT W t)) w v w':=by
 refine AP _ _ _ _ _ _ _ _ _ _ t (R:=λv w'=>QP (YK W (OZ W t) (NT W t)) w v w') ?_;intro x hx x1 S4 wr R3 Wc;refine I4 (Zh (h.ext R3) hl) ?_;rintro e wv (⟨hW,he,hy⟩ | ⟨hW,m',he,hM,hy⟩)
 ·exact⟨_,_,_,_,_,_,_,_,_,_,_,he,Qe hy Wc,λ_ J' Ra=>QP.bad hW ((R3.trans hy).fresh Ra λy hm=>.inl (Yw hx S4 y hm)),λg=>by simp at g⟩
 have hK:=Wk.begin hx S4 R3 Wc hM hy;have hr:=hK.rd;refine⟨_,_,_,_,_,_,_,_,_,_,_,he,Qe hy Wc,λg=>by split at g <;> simp at g,λ_=>⟨_,JS hr hl.t,λg O' Ra=>?_,λg=>?_⟩⟩
 ·have g:Yj W t=false:=by simpa using g
  have hb:OZ W t=2:=by unfold OZ; rw[E' g]
  exact QP.no hW (by rw[hb]; decide) (hK.step Ra) hb
 have g:Yj W t=true:=by simpa using g
 obtain⟨t0,t1,tn⟩:=X0 g;have Wg:=hr.t.ix QM t0 t1;refine⟨λg3 RC Ra=>?_,λg3=>?_⟩
 ·have bU:¬QO W=true:=λhr=>by rw[E' hr] at g3; simp at g3
  have hb:OZ W t=10:=by unfold OZ; rw[C' (by rw[g]; decide),E' (by simpa using bU)]
  rw[C' bU];exact QP.no hW (by rw[hb]; decide) (hK.step Ra) hb
 have bU:QO W=true:=Ir λhr=>by rw[C' hr] at g3; simp at g3
 have hb:OZ W t=0:=by unfold OZ; rw[C' (by rw[g]; decide),C' (by rw[bU]; decide)]
 obtain⟨_,_,sw,sw1,sw2⟩:=zjf hW hb;obtain⟨_,c0,c1⟩:=sw.t t t0 (by have:=sw.a.t; omega) tn;have SY:Zj 8 w.heap.size (R8 wv m'.tO (Int.toNat t*9) (Xa CR)) (IU W t CR) m':=hK.own.vV t0 t1 (j:=0) (vs:=Xa CR) (x:=CR) rfl Qd;have hKs:=hK.R8 SY L8;have e5:∀mm,Qa (IU W t CR) mm=Qa W mm:=λmm=>by simp[Qa,IU]
 refine⟨Wg,_,hr.t.f t0 t1 (j:=2) rfl,Wg,zgv hK.own hK.nb t0 t1 (j:=0) Qd,hr.c.ix ZT c0 c1,_,hKs.rd.c.f c0 c1 (j:=1) rfl,λg4 RQ Sw lV=>?_,λg4 RQ Sw lV=>?_⟩
 ·have g4:(gi (IU W t CR).IE (Q8 W t).M').cur=t:=by simpa using g4
  have hE:NT W t=Qg (RD (IU W t CR) (Q8 W t).M'):=by unfold NT Z4; rw[E' (show (gi W.IE (Q8 W t).M').cur=t from g4)]; rfl
  rw[hE];have dR:=hKs.step Sw;have Rt:=ZA dR.own c0 c1;rw[e5] at Rt;refine I4 Rt ?_;rintro e1 R4 ⟨gW,cX⟩;refine⟨_,_,_,_,_,_,_,_,_,_,gW,dR.kept cX lV,λSh bJ hs6=>?_⟩;have tB:=(dR.SA cX lV).step bJ;refine I4 (Qv tB.own (sw1.RD c0 c1) Qd Qd tB.base) ?_;rintro e2 Rr ⟨m1,aE,SJ⟩;exact⟨_,_,_,_,_,_,_,_,_,_,aE,tB.kept SJ hs6,λSz nN=>QP.ok hW hb ((tB.SA SJ hs6).step nN)⟩
 ·have g4:¬(gi (IU W t CR).IE (Q8 W t).M').cur=t:=by simpa using g4
  have hE:NT W t=Qg (IU W t CR):=by unfold NT Z4; rw[C' (show ¬(gi W.IE (Q8 W t).M').cur=t from g4)]
  rw[hE];have dR:=hKs.step Sw;have Rt:=Qv dR.own sw1 Qd Qd dR.base;rw[e5] at Rt;refine I4 Rt ?_;rintro e2 Rr ⟨m1,aE,SJ⟩;exact⟨_,_,_,_,_,_,_,_,_,_,aE,dR.kept SJ lV,λSz nN=>QP.ok hW hb ((dR.SA SJ lV).step nN)⟩
end
abbrev Kx(W:Q7)(t n:Int):Int:=(Qc W (Q8 W t).group (Q8 W t).M').floor+Yh ((Q8 W t).v-(Qc W (Q8 W t).group (Q8 W t).M').floor) (Qf n)
def Jm(W:Q7)(t n:Int):MC:={ Q8 W t with nice:=n,v:=if (Q8 W t).state=1 then Kx W t n else (Q8 W t).v }
noncomputable def Pw(W:Q7)(t n:Int):Int:=if Qf n=0 then 1 else OZ W t
def GI(W:Q7)(t n:Int):Q7:=Qg (if (Q8 W t).state=1 then Z4 (IU W t (Jm W t n)) t else IU W t (Jm W t n))
theorem zqr{W:Q7}{t n:Int}(h:(Q8 W t).state=1):Jm W t n={ Q8 W t with nice:=n,v:=Kx W t n }:=by unfold Jm; rw[E' h]
theorem zqq{W:Q7}{t n:Int}(h:¬(Q8 W t).state=1):Jm W t n={ Q8 W t with nice:=n }:=by unfold Jm; rw[C' h]
theorem L9{W:Q7}{t:Int}{x:MC}(t0:0<=t)(t1:t<(W.tasks.length:Int)):Q8 (IU W t x) t=x:=by
 show gi (W.tasks.set t.toNat x) t=x;rw[QI _ _ t0 t1 t0,E' rfl]
theorem set_set{W:Q7}{t:Int}{x y:MC}:IU (IU W t x) t y=IU W t y:=by simp[IU]
abbrev K1:Int:=Qn+Qi
structure z14 (W:Q7) (t n:Int):Prop where
 th:Yj W t=true
 room:QO W=true
 sw:SW Qn W
 f:(Q8 W t).state=1->0<=(Qc W (Q8 W t).group (Q8 W t).M').floor/\(Qc W (Q8 W t).group (Q8 W t).M').floor<=Qn/\0<=Kx W t n/\Kx W t n<=K1
 s1:SW K1 (IU W t (Jm W t n))
 s2:SW K1 (Z4 (IU W t (Jm W t n)) t)
theorem zqs{W:Q7}{t n:Int}(hW:Qy W=true)(hb:Pw W t n=0):z14 W t n:=by
 have hw:¬Qf n=0:=λh=>by unfold Pw at hb; rw[E' h] at hb; cases hb
 have hb:OZ W t=0:=by unfold Pw at hb; rwa[C' hw] at hb
 obtain⟨h1,h3,sw,_,_⟩:=zjf hW hb;obtain⟨t0,t1,tn⟩:=X0 h1;have hl:=sw.a.t;have hg:=sw.t t t0 Qo tn;have hv:=sw.tv t t0 Qo;have hf:=sw.s _ _ hg.1 hg.2.1 hg.2.2;have lc:=ZU ((Q8 W t).v-(Qc W (Q8 W t).group (Q8 W t).M').floor) (Qf n);have lm:=ZQ (Qf n);have f:0<=Kx W t n/\Kx W t n<=K1:=by unfold Kx; simp only[K1,Qi]; omega
 have f1:0<=(Jm W t n).v/\(Jm W t n).v<=K1:=by
  unfold Jm
  dsimp only
  split
  ·exact f
  ·simp only[K1,Qi]; omega
 have s1:SW K1 (IU W t (Jm W t n)):=(sw.mono Qd).IU t0 Qo (λ_=>hg) f1.1 f1.2;exact⟨h1,h3,sw,λ_=>⟨hf.1,hf.2.1,f⟩,s1,zlx s1 t0 Qo (by rw[L9 t0 t1]; exact tn)⟩
section
variable {W:Q7}{m:MW}{w:Wo}{bar:Int}
theorem D9{bs:List Nat}{t:Int}(h:Xl bs w W m)(t0:0<=t)(t1:t<(W.tasks.length:Int))(g0:0<=(Q8 W t).group)(g1:(Q8 W t).group<(W.ID.length:Int))(c0:0<=(Q8 W t).M')(c1:(Q8 W t).M'<((gi W.ID (Q8 W t).group).IF.length:Int))(hr:Ql .i64 ((Q8 W t).v-(Qc W (Q8 W t).group (Q8 W t).M').floor)) :
  PX bs Ti #[.agg (Qa W m).toArray,I t] w (I (Yh ((Q8 W t).v-(Qc W (Q8 W t).group (Q8 W t).M').floor) (Qf (Q8 W t).nice))):=
 zgg _ _ _ _ _ _ _ _ _ _ t λwr hx=>by
  have h:=(h.ext hx).less (cs:=[]) Qs;intro b hb;exact⟨h.t.ix QM t0 t1,_,_,_,_,_,_,_,_,_,h.t t t0 t1,λb1 fD=>⟨h.g.ix g0 g1,_,_,_,h.g.RE g0 g1,(h.g.IF _ g0 g1).ix ZZ c0 c1,_,(h.g.IF _ g0 g1).f c0 c1 (j:=0) rfl,hr,_,ZP,_,K9,rfl⟩⟩
theorem Ce{t n:Int}(h:Xl [] w W m)(hl:Xz W) :
  Cz O4 #[.agg (Qa W m).toArray,I t,I n] w λe w'=>∃v,e=.returned v/\QP (YK W (Pw W t n) (GI W t n)) w v w':=by
 refine AT _ _ _ _ _ _ _ _ _ _ t n (R:=λv w'=>QP (YK W (Pw W t n) (GI W t n)) w v w') ?_;intro x hx x1 S4 wr R3 Wc;refine I4 (Zh (h.ext R3) hl) ?_;rintro e wv (⟨hW,he,hy⟩ | ⟨hW,m',he,hM,hy⟩)
 ·exact⟨_,_,_,_,_,_,_,_,_,_,_,he,Qe hy Wc,0,λg=>by simp at g,λ_ J' Ra=>QP.bad hW ((R3.trans hy).fresh Ra λy hm=>.inl (Yw hx S4 y hm)),λg=>by simp at g⟩
 have hK:=Wk.begin hx S4 R3 Wc hM hy;have hr:=hK.rd;have wA:((if QO W=true then 0 else 10:Int)==1)=false:=by split <;> rfl
 refine⟨_,_,_,_,_,_,_,_,_,_,_,he,Qe hy Wc,_,λ_=>ZP (n:=n),λg J' Ra=>?_,λg0=>⟨_,JS hr hl.t,λg O' Ra=>?_,λg=>?_⟩⟩
 ·rw[wA] at g;have g:Qf n=0:=by simpa using g
  have hb:Pw W t n=1:=by unfold Pw; rw[E' g]
  exact QP.no hW (by rw[hb]; decide) (hK.step Ra) hb
 ·rw[wA] at g0;have g0:¬Qf n=0:=by simpa using g0
  have g:Yj W t=false:=by simpa using g
  have hb:Pw W t n=2:=by unfold Pw OZ; rw[C' g0,E' g]
  exact QP.no hW (by rw[hb]; decide) (hK.step Ra) hb
 rw[wA] at g0;have gw:¬Qf n=0:=by simpa using g0
 have g:Yj W t=true:=by simpa using g
 obtain⟨t0,t1,tn⟩:=X0 g;have Wg:=hr.t.ix QM t0 t1;refine⟨λg3 RC Ra=>?_,λg3=>?_⟩
 ·have bU:¬QO W=true:=λhr=>by rw[E' hr] at g3; simp at g3
  have hb:Pw W t n=10:=by unfold Pw OZ; rw[C' gw,C' (by rw[g]; decide),E' (by simpa using bU)]
  rw[C' bU];exact QP.no hW (by rw[hb]; decide) (hK.step Ra) hb
 have bU:QO W=true:=Ir λhr=>by rw[C' hr] at g3; simp at g3
 have hb:Pw W t n=0:=by unfold Pw OZ; rw[C' gw,C' (by rw[g]; decide),C' (by rw[bU]; decide)]
 have hN:=zqs hW hb;have sw:=hN.sw;have kG:=sw.a.t;obtain⟨hu,c0,c1⟩:=sw.t t t0 Qo tn;obtain⟨q0,q1,_⟩:=Q5.1 hu;have hsl:=sw.a.sl hu;have gV:Wk 8 [x,x1] w (R8 wv m'.tO (Int.toNat t*9) (Xa { Q8 W t with nice:=n })) (IU W t { Q8 W t with nice:=n }) m':=hK.R8 (hK.own.vV t0 t1 (j:=0) (vs:=Xa { Q8 W t with nice:=n }) (x:={ Q8 W t with nice:=n }) rfl (by show 0+9<=9; decide)) L8;have e5:∀x mm,Qa (IU W t x) mm=Qa W mm:=λx mm=>by simp[Qa,IU]
 refine⟨Wg,_,_,_,_,_,_,_,_,_,hr.t t t0 t1,λb2 dJ=>⟨Wg,zgv hK.own hK.nb t0 t1 (j:=0) Qd,λg4=>?_,λg4 WQ mF hs9=>?_⟩⟩
 ·have g4:(Q8 W t).state=1:=by simpa[Q8] using g4
  have hT:=zqr (n:=n) g4;obtain⟨f0,f1,v0,v1⟩:=hN.f g4;have hv:=sw.tv t t0 Qo;have hh:Qn=50000000000000000:=rfl;have hk:K1=50000034686091440:=rfl;have uN:=gV.rd;have etk:Q8 (IU W t { Q8 W t with nice:=n }) t={ Q8 W t with nice:=n }:=L9 t0 t1;have t1':t<((IU W t { Q8 W t with nice:=n }).tasks.length:Int):=by simpa[IU] using t1
  have Cc3:=D9 (t:=t) uN t0 t1' (by rw[etk]; exact q0) (by rw[etk]; exact q1) (by rw[etk]; exact c0) (by rw[etk]; show (Q8 W t).M'<(((gi W.ID (Q8 W t).group).IF.length:Nat):Int); omega) (by rw[etk]; exact⟨by show _<=(Q8 W t).v-(Qc W (Q8 W t).group (Q8 W t).M').floor; omega,by show (Q8 W t).v-(Qc W (Q8 W t).group (Q8 W t).M').floor<=_; omega⟩);rw[etk,e5] at Cc3;have lc:=ZU ((Q8 W t).v-(Qc W (Q8 W t).group (Q8 W t).M').floor) (Qf n);have lm:=ZQ (Qf n);have SY:Zj 8 w.heap.size (R8 (R8 wv m'.tO (Int.toNat t*9) (Xa { Q8 W t with nice:=n })) m'.tO (Int.toNat t*9) (Xa { Q8 W t with nice:=n,v:=Kx W t n })) (IU (IU W t { Q8 W t with nice:=n }) t { Q8 W t with nice:=n,v:=Kx W t n }) m':=gV.own.vV t0 t1' (j:=0) (vs:=Xa { Q8 W t with nice:=n,v:=Kx W t n }) (x:={ Q8 W t with nice:=n,v:=Kx W t n }) (by rw[show gi (IU W t { Q8 W t with nice:=n }).tasks t={ Q8 W t with nice:=n } from etk]; rfl) (by show 0+9<=9; decide);rw[set_set,<-hT] at SY;have oJ:Wk 8 ([x,x1]++[b2]) w _ (IU W t (Jm W t n)) m':=(hK.add dJ).R8 SY (L8.trans L8)
  have nG:∀vs0 vs:List Va,Xa { Q8 W t with nice:=n }=vs0->Xa (Jm W t n)=vs->Wk 8 ([x,x1]++[b2]) w (R8 (R8 wv m'.tO (Int.toNat t*9) vs0) m'.tO (Int.toNat t*9) vs) (IU W t (Jm W t n)) m':=λvs0 vs h0 h1=>by
   subst h0;subst h1;rw[hT] at oJ ⊢;exact oJ
  have CQ3:∀y∈[x,x1],y∈[x,x1]++[b2]:=λy hy=>Ib _ hy
  have CY0:Wk 8 [x,x1] w _ (IU W t (Jm W t n)) m':=oJ.sub CQ3;have Cz8:Q1 [x,x1] (R8 wv m'.tO (Int.toNat t*9) (Xa { Q8 W t with nice:=n })) (m'.ms (Q8 W t).group.toNat).sO (Int.toNat (Q8 W t).M'*5+0) [I (Qc W (Q8 W t).group (Q8 W t).M').floor]:=(uN.g.IF _ q0 q1).f c0 (by show (Q8 W t).M'<(((gi W.ID (Q8 W t).group).IF.length:Nat):Int); omega) (j:=0) rfl;have ecp:(Q8 (IU W t (Jm W t n)) t).M'=(Q8 W t).M':=by rw[L9 t0 t1]; rfl
  refine⟨hr.g.ix q0 q1,_,_,_,uN.g.RE q0 q1,(uN.g.IF _ q0 q1).ix ZZ c0 (by show (Q8 W t).M'<(((gi W.ID (Q8 W t).group).IF.length:Nat):Int); omega),(Qc W (Q8 W t).group (Q8 W t).M').floor,Cz8,Yh ((Q8 W t).v-(Qc W (Q8 W t).group (Q8 W t).M').floor) (Qf n),Cc3,⟨?_,?_⟩,Wg,zgv gV.own gV.nb t0 t1' (j:=0) Qd,hr.c.ix ZT c0 c1,(gi W.IE (Q8 W t).M').cur,?_,λg5 RC SZ eM=>?_,λg5 Sz nN hs7=>?_⟩
  ·show _<=Kx W t n; omega
  ·show Kx W t n<=_; omega
  ·rw[hT] at CY0;exact CY0.rd.c.f c0 c1 (j:=1) rfl
  ·have g5:(gi W.IE (Q8 W t).M').cur=t:=by simpa using g5
   have hE:GI W t n=Qg (RD (IU W t (Jm W t n)) (Q8 W t).M'):=by unfold GI Z4; rw[E' g4,ecp,E' (show (gi (IU W t (Jm W t n)).IE (Q8 W t).M').cur=t from g5)]
   rw[hE];have dR:=(nG _ _ (by rfl) (by rw[hT]; rfl)).step (SZ.mono CQ3);have Rt:=ZA dR.own c0 c1;rw[e5] at Rt;refine I4 Rt ?_;rintro e1 R4 ⟨gW,cX⟩;refine⟨_,_,_,_,_,_,_,_,_,_,gW,dR.kept cX eM,λSh bJ hs6=>?_⟩;have tB:=(dR.SA cX eM).step bJ;refine I4 (Qv tB.own (hN.s1.RD c0 c1) Qd Qd tB.base) ?_;rintro e2 Rr ⟨m1,aE,SJ⟩;exact⟨_,_,_,_,_,_,_,_,_,_,aE,tB.kept SJ hs6,λSz nN=>QP.ok hW hb ((tB.SA SJ hs6).step nN)⟩
  ·have g5:¬(gi W.IE (Q8 W t).M').cur=t:=by simpa using g5
   have hE:GI W t n=Qg (IU W t (Jm W t n)):=by unfold GI Z4; rw[E' g4,ecp,C' (show ¬(gi (IU W t (Jm W t n)).IE (Q8 W t).M').cur=t from g5)]
   rw[hE];have dR:=(nG _ _ (by rfl) (by rw[hT]; rfl)).step (nN.mono CQ3);have Rt:=Qv dR.own hN.s1 Qd Qd dR.base;rw[e5] at Rt;refine I4 Rt ?_;rintro e2 Rr ⟨m1,aE,SJ⟩;exact⟨_,_,_,_,_,_,_,_,_,_,aE,dR.kept SJ hs7,λSz nN=>QP.ok hW hb ((dR.SA SJ hs7).step nN)⟩
 ·have g4:¬(Q8 W t).state=1:=by simpa[Q8] using g4
  have hE:GI W t n=Qg (IU W t (Jm W t n)):=by unfold GI; rw[C' g4]
  have dE:=hN.s1;rw[hE,zqq g4];rw[zqq g4] at dE;have oJ:Wk 8 ([x,x1]++[b2]) w _ (IU W t { Q8 W t with nice:=n }) m':=(hK.add dJ).R8 gV.own L8;have dR:=oJ.step (mF.mono λy hy=>Ib _ hy);have Rt:=Qv dR.own dE Qd Qd dR.base;rw[e5] at Rt;refine I4 Rt ?_;rintro e2 Rr ⟨m1,aE,SJ⟩;exact⟨_,_,_,_,_,_,_,_,_,_,aE,dR.kept SJ hs9,λSz nN=>QP.ok hW hb ((dR.SA SJ hs9).step nN)⟩
theorem Fb{bs:List Nat}{p:OA}{t:Int}(h:Mu bs w p W m)(t0:0<=t)(t1:t<(W.tasks.length:Int))(g0:0<=(Q8 W t).group)(g1:(Q8 W t).group<(W.ID.length:Int))(c0:0<=(Q8 W t).M')(c1:(Q8 W t).M'<((gi W.ID (Q8 W t).group).IF.length:Int)) :
  PX bs J9 #[.pointer p,I t] w (I (Qc W (Q8 W t).group (Q8 W t).M').floor):=
 DY p t λwr hx=>by
  have h:=(h.ext hx).less (cs:=[]) Qs;exact⟨h.some,_,_,_,h.tasks,h.rd.t.ix QM t0 t1,_,_,_,_,_,_,_,_,_,h.rd.t t t0 t1,λb hb=>⟨_,_,XO,_,Zv h g0 g1 c0 c1,(h.sh g0 g1 c0 c1).1,_,(h.sh g0 g1 c0 c1).2 (j:=0) rfl,rfl⟩⟩
end
noncomputable def K5(W:Q7)(g:Int)(ok:Bool):Int:=if ok=false\/g=0 then 1 else if Q6 W.ID g=false then 2 else if QO W=false then 10 else 0
theorem zjk{W:Q7}{g:Int}{ok:Bool}(h:K5 W g ok=0):ok=true/\g≠0/\Q6 W.ID g=true/\QO W=true:=by
 unfold K5 at h
 split at h
 ·cases h
 ·rename_i h1
  split at h
  ·cases h
  ·rename_i h2
   split at h
   ·cases h
   ·rename_i h3;exact⟨by cases ok <;> simp_all,λe=>h1 (.inr e),by simpa using h2,by simpa using h3⟩
def zzn:Js:=⟨0,0,0,[],[]⟩
def Jl(q:Int)(n:Nat):Js:=⟨q,q,0,List.replicate n 0,List.replicate n false⟩
def Db(q p:Int):Bool:=q==0&&p==0
def zhe(q p:Int):Bool:=Db q p||(YJ q 1 10000&&YJ p 1 1000)
def Ka(W:Q7)(g q p:Int):ZN:=if Db q p=true then { gi W.ID g with period:=0,next:=0,IN:=zzn } else { gi W.ID g with period:=p,next:=W.now+p,IN:=Jl q W.IE.length }
noncomputable def zly(W:Q7)(g q p:Int):Int:=K5 W g (zhe q p)
def zyo(W:Q7)(g q p:Int):Q7:=Qg (Re W g (Ka W g q p))
theorem NG(n:Nat):∀k:Nat,k<=n->Vc (List.replicate n (0:Int)) k=0
 | 0,_=>rfl
 | k+1,hk=>by
  simp only[Vc];rw[NG n k Qo,Pk _ _ Qo Qo]; rfl
theorem zhk{q:Int}{n:Nat}(q1:1<=q)(q2:q<=10000)(n1:1<=n)(n2:n<=4):UP (Jl q n):=by
 refine⟨q1,q2,by simpa[Jl] using n1,by simpa[Jl] using n2,by simp[Jl],by simp only[Jl]; omega,I3 _,by simp[Jl],by simp only[Jl]; omega,λc c0 c1=>?_,?_⟩
 ·simp only[Jl,List.length_replicate] at c1 ⊢;rw[Pk _ _ c0 c1,Pk _ _ c0 c1];exact⟨I3 _,Qo,λh=>by cases h⟩
 ·simp only[Jl,List.length_replicate];rw[NG n n (I8 _)]; omega
theorem zjt{W:Q7}{g q p:Int}:(Ka W g q p).used=(gi W.ID g).used/\(Ka W g q p).parent=(gi W.ID g).parent/\(Ka W g q p).name=(gi W.ID g).name/\(Ka W g q p).IF=(gi W.ID g).IF/\(Ka W g q p).weight=(gi W.ID g).weight/\(Ka W g q p).IE=(gi W.ID g).IE/\(Ka W g q p).sum=(gi W.ID g).sum:=by
 unfold Ka; split <;> exact⟨rfl,rfl,rfl,rfl,rfl,rfl,rfl⟩
theorem SW.Re{K:Int}{W:Q7}(h:SW K W){g:Int}{x:ZN}(hu:Q6 W.ID g=true)(u:x.used=(gi W.ID g).used)(p:x.parent=(gi W.ID g).parent)(n:x.name=(gi W.ID g).name)(s:x.IF=(gi W.ID g).IF)(hx:znc W g x):SW K (Re W g x):=by
 obtain⟨u0,u1,ut⟩:=Q5.1 hu;have hl:=h.a.gl;have hT:=JV (x:=x) u0 u1 u p n
 have es:∀k c:Int,0<=k->Qc (YtnclplgaicdapaaGreatDoor.Re W g x) k c=Qc W k c:=λk c k0=>by
  unfold Qc;rw[Yv u0 u1 k0];split
  ·rename_i e; subst e; rw[s]
  ·rfl
 refine⟨h.a.set u0 Qo u p n (λhn=>by rw[u,ut] at hn; cases hn) λ_=>hx,λt a b n=>by rw[hT.eO]; exact h.t t a b n,h.tv,λk c uk a b=>?_,h.cu⟩;rw[hT.eO] at uk;rw[es k c (Q5.1 uk).1];exact h.s k c uk a b
theorem zvg{W:Q7}{g q p:Int}(hW:Qy W=true)(hb:zly W g q p=0):Q6 W.ID g=true/\g≠0/\zhe q p=true/\QO W=true/\SW Qn W/\SW Qn (Re W g (Ka W g q p)):=by
 obtain⟨h1,h2,h3,h4⟩:=zjk hb;have wp:=Qj.1 hW;have sw:=Mq wp (Qj.1 h4);obtain⟨u0,u1,hg⟩:=wp.a.u h3;have hl:=zjt (W:=W) (g:=g) (q:=q) (p:=p);have wA:=wp.a.c1;have hc2:=wp.a.c2;refine⟨h3,h2,h1,h4,sw,sw.Re h3 hl.1 hl.2.1 hl.2.2.1 hl.2.2.2.1 ⟨by rw[hl.2.2.2.2.1]; exact hg.w1,by rw[hl.2.2.2.2.1]; exact hg.w2,by rw[hl.2.2.2.2.2.1]; exact hg.m,by rw[hl.2.2.2.2.2.1]; exact hg.m0,by rw[hl.2.2.2.2.2.2]; exact hg.s,by rw[hl.2.2.2.1]; exact hg.len,λh=>Is h h2,λhq=>?_,λhq=>?_⟩⟩
 ·unfold Ka at hq ⊢;split
  ·exact⟨show Ol zzn=true by decide,rfl,rfl⟩
  ·rename_i hn;rw[C' hn] at hq;unfold zhe at h1;rw[show Db q p=false by simpa using hn,Bool.false_or,A'] at h1;have:=Qt.1 h1.1;have:q=0:=hq;omega
 ·unfold Ka at hq ⊢;split
  ·rename_i hn;rw[E' hn] at hq;exact Is rfl hq
  ·rename_i hn;unfold zhe at h1;rw[show Db q p=false by simpa using hn,Bool.false_or,A'] at h1;have h5:=Qt.1 h1.1;have h6:=Qt.1 h1.2;exact⟨zhk h5.1 h5.2 wA hc2,by simp[Jl],h6.1,h6.2,by show W.now<W.now+p; omega,by show W.now+p-W.now<=p; omega⟩
theorem zqh{W:Q7}{g q p:Int}(h:Db q p=true):Ka W g q p={ gi W.ID g with period:=0,next:=0,IN:=zzn }:=by unfold Ka; rw[E' h]
theorem zlz{W:Q7}{g q p:Int}(h:Db q p=false):Ka W g q p={ gi W.ID g with period:=p,next:=W.now+p,IN:=Jl q W.IE.length }:=by unfold Ka; rw[C' (by rw[h]; decide)]
def Cr:MG:=⟨none,0,none,0,none,0⟩
theorem zy0(base:Nat)(w:Wo):Z5 base w zzn Cr:=⟨.inl ⟨rfl,rfl,rfl⟩,.inl ⟨rfl,rfl,rfl⟩⟩
theorem zsv:∀x∈ZI Cr,False:=λx hx=>by simp[ZI,Cr,QD] at hx
section
variable {W W':Q7}{m:MW}{w:Wo}{bar:Int}
theorem z1c{b:Nat}{bs:List Nat}{w w1 w2 w3:Wo}{q:Int}{n:Nat}(s:Sc w [b] w1)(h2:Q0 [b] (w1.alloc (.cells ((List.replicate n (0:Int)).flatMap Jd).toArray Qb)) w2)(dE:∀y∈[b],y<w1.heap.size)(Wc:∀y∈[b],y<w2.heap.size)(h3:Q0 [b] (w2.alloc (.cells ((List.replicate n false).flatMap PR).toArray Y6)) w3)(_:bs=[]) :
  Z5 w.heap.size w3 (Jl q n) ⟨some ⟨w1.heap.size,0,none⟩,n,some ⟨w2.heap.size,0,none⟩,n,none,0⟩/\Q0 [] w w3:=by
 have hL0:Ob Jd 1 Qb w1.heap.size [b] _ (some ⟨w1.heap.size,0,none⟩) n (List.replicate n (0:Int)):=Ob.of (V7 (enc:=Jd) Y3.len Qb n (0:Int) w1) dE;have s1:=(s.R6 (Z8 w1 (.cells ((List.replicate n (0:Int)).flatMap Jd).toArray Qb))).step h2;have hL1:=((hL0.step h2).R6 (Z8 w2 (.cells ((List.replicate n false).flatMap PR).toArray Y6))).step h3;have hD0:Ob PR 1 Y6 w2.heap.size [b] _ (some ⟨w2.heap.size,0,none⟩) n (List.replicate n false):=Ob.of (V7 (enc:=PR) Ys.len Y6 n false w2) Wc;have hD1:=hD0.step h3;have s2:=(s1.R6 (Z8 w2 (.cells ((List.replicate n false).flatMap PR).toArray Y6))).step h3;exact⟨⟨hL1.own.mono s.ext.size,hD1.own.mono s1.ext.size⟩,s2.ext⟩
theorem zyz{b:Nat}{w w1 w2 w3:Wo}{q:Int}{n:Nat}(s:Sc w [b] w1)(h2:Q0 [b] (w1.alloc (.cells ((List.replicate n false).flatMap PR).toArray Y6)) w2)(dE:∀y∈[b],y<w1.heap.size)(Wc:∀y∈[b],y<w2.heap.size)(h3:Q0 [b] (w2.alloc (.cells ((List.replicate n (0:Int)).flatMap Jd).toArray Qb)) w3) :
  Z5 w.heap.size w3 (Jl q n) ⟨some ⟨w2.heap.size,0,none⟩,n,some ⟨w1.heap.size,0,none⟩,n,none,0⟩/\Q0 [] w w3:=by
 have hL0:Ob PR 1 Y6 w1.heap.size [b] _ (some ⟨w1.heap.size,0,none⟩) n (List.replicate n false):=Ob.of (V7 (enc:=PR) Ys.len Y6 n false w1) dE;have s1:=(s.R6 (Z8 w1 (.cells ((List.replicate n false).flatMap PR).toArray Y6))).step h2;have hL1:=((hL0.step h2).R6 (Z8 w2 (.cells ((List.replicate n (0:Int)).flatMap Jd).toArray Qb))).step h3;have hD0:Ob Jd 1 Qb w2.heap.size [b] _ (some ⟨w2.heap.size,0,none⟩) n (List.replicate n (0:Int)):=Ob.of (V7 (enc:=Jd) Y3.len Qb n (0:Int) w2) Wc;have hD1:=hD0.step h3;have s2:=(s1.R6 (Z8 w2 (.cells ((List.replicate n (0:Int)).flatMap Jd).toArray Qb))).step h3;exact⟨⟨hD1.own.mono s1.ext.size,hL1.own.mono s.ext.size⟩,s2.ext⟩
theorem Gy{q:Int}{n:Nat}(hq:YJ q 1 10000=true)(hn:YJ (n:Int) 1 4=true) :
  Cz QJ #[I q,I (n:Int)] w λe w'=>∃p:MG,e=.returned (.tuple #[.agg (QZ (Jl q n) p).toArray,.bool true])/\Z5 w.heap.size w' (Jl q n) p/\Q0 [] w w':=by
 refine(zbi q (n:Int) (R:=λv w'=>∃p:MG,v=.tuple #[.agg (QZ (Jl q n) p).toArray,.bool true]/\Z5 w.heap.size w' (Jl q n) p/\Q0 [] w w') ?_).mono λe w' ⟨v,he,p,hv,h3⟩=>⟨p,by rw[he,hv],h3⟩
 have hm9:=Zo;have h4:=(Qt.1 hn).2;intro b hb;have s0:Sc w [b] w:=(Sc.start w).add hb;have k1:=Qr (n:=q) (a:=1) (b:=10000) (w:=w) (bs:=[]);have k2:=Qr (n:=(n:Int)) (a:=1) (b:=4) (w:=w) (bs:=[]);rw[hq] at k1;rw[hn] at k2;refine⟨true,k1,true,λ_=>k2,λg=>by simp at g,λ_=>⟨λJ' S4 dE=>⟨_,_,_,_,Kd Y3 P6 n Qo Qo J',Qe (Z8 _ _) dE,λO' R3 Wc=>⟨_,_,_,_,Kd Ys KG n Qo Qo O',Qe (Z8 _ _) Wc,λRu Ra=>?_⟩⟩,λJ' S4 dE=>⟨_,_,_,_,Kd Ys KG n Qo Qo J',Qe (Z8 _ _) dE,λO' R3 Wc=>⟨_,_,_,_,Kd Y3 P6 n Qo Qo O',Qe (Z8 _ _) Wc,λRu Ra=>?_⟩⟩⟩⟩
 ·exact⟨_,by simp[QZ,Jl],z1c (bs:=[]) (s0.R6 S4) R3 dE Wc Ra rfl⟩
 ·exact⟨_,by simp[QZ,Jl],zyz (s0.R6 S4) R3 dE Wc Ra⟩
theorem z09{base:Nat}(h:Zj 8 base w W m){g:Int}(u0:0<=g)(u1:g<8){G:ZN}{p:MG}(hp:Z5 base w G.IN p)(hb:∀x∈ZI p,x∉QC 8 m)(es:G.IF=(gi W.ID g).IF){j:Nat}{vs:List Va}(he:Yt G (TL (m.ms g.toNat) p)=(Yt (gi W.ID g) (m.ms g.toNat)).take j++vs++(Yt (gi W.ID g) (m.ms g.toNat)).drop (j+vs.length))(hj:j+vs.length<=14) :
  Zj 8 base (R8 w m.gO (Int.toNat g*14+j) vs) (Re W g G) (PG m g.toNat (TL (m.ms g.toNat) p)):=
 h.B02 u0 u1 (g:=G) (p:=TL (m.ms g.toNat) p) ⟨hp.loc,hp.Ry,by rw[es]; exact(h.each u0 u1).shl⟩ (λx hx=>by
  rcases On x hx with h1 | h1
  ·exact .inl (hb x h1)
  ·exact .inr h1) he hj
theorem Wk.gr{bs:List Nat}{w0:Wo}(h:Wk 8 bs w0 w W m){g:Int}(u0:0<=g)(u1:g<8){G:ZN}{p:MG}(hp:Z5 w0.heap.size w G.IN p)(hb:∀x∈ZI p,x∉QC 8 m/\x∉bs)(es:G.IF=(gi W.ID g).IF){j:Nat}{vs:List Va}(he:Yt G (TL (m.ms g.toNat) p)=(Yt (gi W.ID g) (m.ms g.toNat)).take j++vs++(Yt (gi W.ID g) (m.ms g.toNat)).drop (j+vs.length))(hj:j+vs.length<=14) :
  Wk 8 bs w0 (YtnclplgaicdapaaGreatDoor.R8 w m.gO (Int.toNat g*14+j) vs) (Re W g G) (PG m g.toNat (TL (m.ms g.toNat) p)):=
 ⟨h.s.call FV λx hx=>(h.own.lt x hx).1,⟨z09 h.own u0 u1 hp (λx hx=>(hb x hx).1) es he hj,λx hx=>by
  rcases Oq x hx with h1 | h1
  ·exact h.nb x h1
  ·rcases On x h1 with h2 | h2
   ·exact(hb x h2).2
   ·exact h.nb x (J2 Qo h2)⟩⟩
theorem Vq{g:Int}{ok:Bool}(h:Xl [] w W m)(hl:Xz W) :
  Cz Xj #[.agg (Qa W m).toArray,I g,.bool ok] w λe w'=>(Qy W=false/\e=.returned (.tuple #[.agg (Qa KK zw8).toArray,I 1])/\Q0 [] w w')\/(Qy W=true/\∃m',e=.returned (.tuple #[.agg (Qa W m').toArray,I (K5 W g ok)])/\Zj 8 w.heap.size w' W m'/\Q0 [] w w'):=by
 refine(C1 _ _ _ _ _ _ _ _ _ _ g ok (R:=λv w'=>(Qy W=false/\v=.tuple #[.agg (Qa KK zw8).toArray,I 1]/\Q0 [] w w')\/(Qy W=true/\∃m',v=.tuple #[.agg (Qa W m').toArray,I (K5 W g ok)]/\Zj 8 w.heap.size w' W m'/\Q0 [] w w')) ?_).mono λe w' ⟨v,he,h3⟩=>by
  rw[he];rcases h3 with ⟨a,b,c⟩ | ⟨a,m',b,c⟩
  ·exact .inl ⟨a,by rw[b],c⟩
  ·exact .inr ⟨a,m',by rw[b],c⟩
 intro x hx x1 S4 wr R3 Wc;refine I4 (Zh (h.ext R3) hl) ?_;rintro e wv (⟨hW,he,hy⟩ | ⟨hW,m',he,hM,hy⟩)
 ·exact⟨_,_,_,_,_,_,_,_,_,_,_,he,Qe hy Wc,λ_ J' Ra=>.inl ⟨hW,rfl,(R3.trans hy).fresh Ra λy hm=>.inl (Yw hx S4 y hm)⟩,λg=>by simp at g⟩
 have hK:=Wk.begin hx S4 R3 Wc hM hy;have wA:((if QO W=true then 0 else 10:Int)==1)=false:=by split <;> rfl
 refine⟨_,_,_,_,_,_,_,_,_,_,_,he,Qe hy Wc,λg1 J' Ra=>.inr ⟨hW,m',?_,(hK.step Ra).fin⟩,λg1=>⟨_,Xf hK.rd.g,λg2 O' Ra=>.inr ⟨hW,m',?_,(hK.step Ra).fin⟩,λg2 Ru Ra=>.inr ⟨hW,m',?_,(hK.step Ra).fin⟩⟩⟩
 ·have hb:K5 W g ok=1:=by
   unfold K5;rw[E'];rw[wA] at g1
   simpa using g1
  rw[hb]; rfl
 ·rw[wA] at g1;have g1:¬(ok=false\/g=0):=by simpa using g1
  have hb:K5 W g ok=2:=by unfold K5; rw[C' g1,E' (by simpa using g2)]
  rw[hb]; rfl
 ·rw[wA] at g1;have g1:¬(ok=false\/g=0):=by simpa using g1
  have hb:K5 W g ok=if QO W=true then 0 else 10:=by
   unfold K5; rw[C' g1,C' (by simpa using g2)]
   cases QO W <;> rfl
  rw[hb]; rfl
theorem Fg{g q p:Int}(h:Xl [] w W m)(hl:Xz W) :
  Cz VE #[.agg (Qa W m).toArray,I g,I q,I p] w λe w'=>∃v,e=.returned v/\QP (YK W (zly W g q p) (zyo W g q p)) w v w':=by
 refine EU _ _ _ _ _ _ _ _ _ _ g q p (R:=λv w'=>QP (YK W (zly W g q p) (zyo W g q p)) w v w') ?_;intro x hx x1 S4;refine⟨_,λ_=>Qr,_,λ_ _=>Qr,λwr R3 Wc=>?_⟩;refine I4 (Vq (g:=g) (ok:=zhe q p) (h.ext R3) hl) ?_;rintro e wv (⟨hW,he,hy⟩ | ⟨hW,m',he,hM,hy⟩)
 ·exact⟨_,_,_,_,_,_,_,_,_,_,_,he,Qe hy Wc,λ_ J' Ra=>QP.bad hW ((R3.trans hy).fresh Ra λy hm=>.inl (Yw hx S4 y hm)),λg=>by simp at g⟩
 have hK:=Wk.begin hx S4 R3 Wc hM hy;refine⟨_,_,_,_,_,_,_,_,_,_,_,he,Qe hy Wc,λg1 J' Ra=>QP.no hW (by simpa[zly] using g1) (hK.step Ra) rfl,λg1=>?_⟩;have hb:zly W g q p=0:=by simpa[zly] using g1
 have hr:=hK.rd;obtain⟨hu,hz,hok,AC8,sw,s1⟩:=zvg hW hb;obtain⟨u0,u1,_⟩:=Q5.1 hu;have cJ:=sw.a.gl;have wA:=sw.a.c1;have hc2:=sw.a.c2;have hn1:=sw.a.n1;have hn2:=sw.a.n2;have Wg:=hr.g.ix (i:=g) u0 u1;have e5:∀G mm,mm={ m' with ms:=mm.ms }->Qa (Re W g G) mm=Qa W m':=λG mm hm=>by rw[hm]; simp[Qa,Re]
 have eb:Qa W m'=Qa W m':=rfl;refine⟨Wg,_,_,_,_,_,_,_,_,_,_,_,_,_,_,_,_,_,_,_,_,hr.g.cells g u0 u1,λb2 dJ=>⟨λg2 O' Ra fX=>?_,λg2=>?_⟩⟩
 ·have g2:Db q p=false:=by unfold Db; simpa only[IC] using g2
  have hlm:YJ q 1 10000=true/\YJ p 1 1000=true:=by unfold zhe at hok; rw[g2,Bool.false_or,A'] at hok; exact hok
  have hp:=Qt.1 hlm.2;have gV:=(hK.add dJ).step (Ra.mono λy hy=>Ib _ hy);refine I4 (Gy (n:=W.IE.length) hlm.1 (Qt.2 ⟨Qo,Qo⟩)) ?_;rintro e1 R4 ⟨pb,gW,hO,cX⟩;refine⟨_,_,_,_,_,_,_,_,_,_,gW,Qe cX fX,λb3 hb3=>⟨⟨Qo,Qo⟩,Wg,?_,λRu SZ eM=>?_⟩⟩
  ·exact zd7 (gV.R6 cX).own (gV.R6 cX).nb u0 Qo (j:=0) Qd
  have oJ:=(gV.R6 cX).add hb3
  have eQ:=(oJ.gr u0 Qo (G:=Ka W g q p) (p:=pb) (j:=0) (vs:=Yt (Ka W g q p) (TL (m'.ms g.toNat) pb)) (by rw[zlz g2]; exact hO.mono gV.base) (λy hy=>?_) zjt.2.2.2.1 (by simp[Yt]) (by simp[Yt])).step (w':=Ru) (by
   rw[zlz g2];exact SZ.mono λy hy=>Ib _ hy)
  ·have Rt:=Qv eQ.own s1 Qd Qd eQ.base;rw[e5 _ _ rfl] at Rt;refine I4 Rt ?_;rintro e2 Rr ⟨m2,aE,SJ⟩;exact⟨_,_,_,_,_,_,_,_,_,_,aE,eQ.kept SJ eM,λRC Sw=>QP.ok hW hb ((eQ.SA SJ eM).step Sw)⟩
  ·have:=hO.lt y hy;refine⟨λhm=>?_,λhm=>?_⟩
   ·have:=(gV.own.lt y hm).2; omega
   ·rcases Io.1 hm with h1 | h1
    ·have:=fX y h1; omega
    ·have:y=b3:=by simpa using h1
     omega
 ·have g2:Db q p=true:=by unfold Db; simpa only[I7] using g2
  refine⟨Wg,?_,λRu SZ eM=>?_⟩
  ·exact zd7 hK.own hK.nb u0 Qo (j:=0) Qd
  have oJ:=hK.add dJ
  have eQ:=(oJ.gr u0 Qo (G:=Ka W g q p) (p:=Cr) (j:=0) (vs:=Yt (Ka W g q p) (TL (m'.ms g.toNat) Cr)) (by rw[zqh g2]; exact zy0 _ _) (λy hy=>(zsv y hy).elim) zjt.2.2.2.1 (by simp[Yt]) (by simp[Yt])).step (w':=Ru) (by
   rw[zqh g2];exact SZ.mono λy hy=>Ib _ hy)
  have Rt:=Qv eQ.own s1 Qd Qd eQ.base;rw[e5 _ _ rfl] at Rt;refine I4 Rt ?_;rintro e2 Rr ⟨m2,aE,SJ⟩;exact⟨_,_,_,_,_,_,_,_,_,_,aE,eQ.kept SJ eM,λRC Sw=>QP.ok hW hb ((eQ.SA SJ eM).step Sw)⟩
theorem G1.pre{base pb:Nat}{ex:List Nat}{w0 w w':Wo}{W':Q7}{m m':MW}(hx:Q0 [] w0 w)(h:G1 base pb ex w m w' W' m'):G1 base pb ex w0 m w' W' m':=
 ⟨h.own,h.pt,hx.of_nil.trans h.ext,λx hy=>(h.sub x hy).imp id λhz=>IB hx.size hz⟩
theorem G1.post{base pb:Nat}{ex:List Nat}{w w' w1:Wo}{W':Q7}{m m':MW}(h:G1 base pb ex w m w' W' m')(hx:Q0 [] w' w1):G1 base pb ex w m w1 W' m':=
 ⟨h.own.WG hx,QQ h.pt hx Qs,h.ext.trans hx.of_nil,h.sub⟩
end
def HO(W:Q7)(t:Int):Int:=Yh ((Q8 W t).v-(Qc W (Q8 W t).group (Q8 W t).M').floor) (Qf (Q8 W t).nice)
def Oo(W:Q7)(t g c:Int):MC:={ Q8 W t with group:=g,M':=c,v:=(Qc W g c).floor+HO W t }
def Uh(W:Q7)(t g c:Int):Q7:=if (Q8 W t).state=1 then RD (IU W t (Oo W t g c)) c else IU W t (Oo W t g c)
theorem DP(W:Q7)(t:Int):0<=HO W t/\HO W t<=Qi:=by
 have lc:=ZU ((Q8 W t).v-(Qc W (Q8 W t).group (Q8 W t).M').floor) (Qf (Q8 W t).nice);have lm:=ZQ (Qf (Q8 W t).nice);unfold HO;simp only[Qi];omega
theorem SF.IU{F K:Int}{W:Q7}(h:SF F K W){t:Int}(t0:0<=t)(t1:t<12){x:MC}(hx:x.state≠0->Q6 W.ID x.group=true/\0<=x.M'/\x.M'<(W.IE.length:Int))(v0:0<=x.v)(v1:x.v<=K):SF F K (IU W t x):=⟨h.w.IU t0 t1 hx v0 v1,h.f⟩
theorem SF.RD{F K:Int}{W:Q7}(h:SF F K W){c:Int}(c0:0<=c)(c1:c<(W.IE.length:Int)):SF F K (RD W c):=
 ⟨h.w.RD c0 c1,λk d u a b=>h.f k d u a (by
  have b:d<(((W.IE.set c.toNat (J1 (gi W.IE c))).length:Nat):Int):=b
  rwa[H'] at b)⟩
theorem zqy{F K:Int}{W:Q7}(h:SF F K W)(hk:F+Qi<=K){t g c:Int}(hg:Q6 W.ID g=true)(c0:0<=c)(c1:c<(W.IE.length:Int)):0<=(Oo W t g c).v/\(Oo W t g c).v<=K:=by
 have hf:=h.f g c hg c0 c1;have hs:=h.w.s g c hg c0 c1;have hl:=DP W t;show 0<=(Qc W g c).floor+HO W t/\(Qc W g c).floor+HO W t<=K;omega
theorem y9{F K:Int}{W:Q7}(h:SF F K W)(hk:F+Qi<=K){t g c:Int}(t0:0<=t)(t1:t<12)(hg:Q6 W.ID g=true)(c0:0<=c)(c1:c<(W.IE.length:Int)):SF F K (IU W t (Oo W t g c))/\SF F K (Uh W t g c):=by
 have hv:=zqy h hk (t:=t) hg c0 c1;have h1:=h.IU t0 t1 (x:=Oo W t g c) (λ_=>⟨hg,c0,c1⟩) hv.1 hv.2;refine⟨h1,?_⟩;unfold Uh;split
 ·exact h1.RD c0 c1
 ·exact h1
theorem zv9(W:Q7)(t g c:Int):(Uh W t g c).now=W.now/\(Uh W t g c).IE.length=W.IE.length/\(Uh W t g c).tasks.length=W.tasks.length/\(Uh W t g c).ID=W.ID:=by
 unfold Uh;split
 ·exact⟨rfl,by simp[RD,RX,IU],by simp[RD,RX,IU],rfl⟩
 ·exact⟨rfl,rfl,by simp[IU],rfl⟩
def TJ(m:Int):Int:=if Z0 m 0=true then 0 else if Z0 m 1=true then 1 else if Z0 m 2=true then 2 else if Z0 m 3=true then 3 else -1
theorem zxw:∀a:Fin 16,a.val≠0->Z0 (a.val:Int) (TJ (a.val:Int))=true:=by decide +kernel
theorem Fu{m:Int}(h:PE m=true)(h0:m≠0):Z0 m (TJ m)=true:=by
 obtain⟨f,rfl⟩:=MI h;exact zxw f λe=>h0 (by rw[e]; rfl)
theorem z1k(gs:List ZN)(g u:Int):PE (VX gs g u)=true:=by
 unfold VX;rw[List.foldl_append];exact k7 _ _
theorem H9{W:Q7}(ha:WA W)(g mask:Int):PE (Qw W g mask)=true/\Qw W g mask≠0:=by
 unfold Qw;split
 ·rename_i h; exact⟨k7 _ _,h⟩
 ·split
  ·rename_i h;refine⟨?_,h⟩;exact z1k _ _ _
  ·exact⟨zzi ha.c2,ha.wT⟩
theorem KJ{W:Q7}(ha:WA W)(g mask:Int):0<=TJ (Qw W g mask)/\TJ (Qw W g mask)<(W.IE.length:Int):=by
 have h:=H9 ha g mask;exact Gb ha (Fu h.1 h.2)
def Pv(W:Q7)(t:Int):Bool:=((Q8 W t).state != 0) && !Z0 (Qw W (Q8 W t).group (Q8 W t).mask) (Q8 W t).M'
def XA(W:Q7):Nat->Q7
 | 0=>W
 | t+1=>if Pv (XA W t) (t:Int)=true then Uh (XA W t) (t:Int) (Q8 (XA W t) (t:Int)).group (TJ (Qw (XA W t) (Q8 (XA W t) (t:Int)).group (Q8 (XA W t) (t:Int)).mask)) else XA W t
def Kc(W:Q7):Q7:=XA W 12
structure A5 (W W':Q7):Prop where
 n:W'.now=W.now
 c:W'.IE.length=W.IE.length
 t:W'.tasks.length=W.tasks.length
 g:W'.ID=W.ID
theorem A5.refl(W:Q7):A5 W W:=⟨rfl,rfl,rfl,rfl⟩
theorem A5.trans{A B C:Q7}(h:A5 A B)(k:A5 B C):A5 A C:=⟨k.n.trans h.n,k.c.trans h.c,k.t.trans h.t,k.g.trans h.g⟩
theorem A5.put(W:Q7)(t g c:Int):A5 W (Uh W t g c):=by
 obtain⟨h1,h2,h3,h4⟩:=zv9 W t g c;exact⟨h1,h2,h3,h4⟩
theorem v9{F K:Int}{W:Q7}(h:SF F K W)(hk:F+Qi<=K):∀t:Nat,t<=12->SF F K (XA W t)/\A5 W (XA W t)
 | 0,_=>⟨h,A5.refl _⟩
 | t+1,ht=>by
  obtain⟨a,b⟩:=v9 h hk t Qo;simp only[XA];split
  ·rename_i hm;unfold Pv at hm;simp only[A',Iu,ne_eq] at hm;have hg:=a.w.t (t:Int) Qo Qo hm.1;have hf:=KJ a.w.a (Q8 (XA W t) (t:Int)).group (Q8 (XA W t) (t:Int)).mask;exact⟨(y9 a hk Qo Qo hg.1 hf.1 hf.2).2,b.trans (A5.put _ _ _ _)⟩
  ·exact⟨a,b⟩
theorem MN{F K:Int}{W:Q7}(h:SF F K W)(hk:F+Qi<=K):SF F K (Kc W)/\A5 W (Kc W):=v9 h hk 12 (I8 _)
end Go.Proofs.YtnclplgaicdapaaGreatDoor
