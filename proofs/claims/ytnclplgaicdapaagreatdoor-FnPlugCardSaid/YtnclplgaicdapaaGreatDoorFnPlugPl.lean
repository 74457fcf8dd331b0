/- Part 12 of what the law FnPlug needs. -/
import Derived.Test.YtnclplgaicdapaaGreatDoorFnPlugPk
import Derived.Laws.BytesArg
set_option linter.unusedVariables false
set_option linter.unusedSimpArgs false
set_option maxRecDepth 100000
set_option maxHeartbeats 8000000
namespace Go.Proofs.YtnclplgaicdapaaGreatDoor
open Go.RowKit
theorem zsc{α:Type}[Inhabited α]{l:List α}{i:Int}(h0:0<=i)(h1:i<(l.length:Int)):l.set i.toNat (gi l i)=l:=by
 obtain⟨k,rfl⟩:=Int.eq_ofNat_of_zero_le h0;rw[VG Qo,Ig,List.set_getElem_self]
def z2q(G:ZO)(K:Int):Int:=K+1+1+1+1+1+1+1+1+1+1+1+1*(G.IQ.locals.length:Int)+1*(G.IQ.Rw.length:Int)+5*(G.IE.length:Int)
def gK(gs:List ZO)(k:Int):Nat->Int
 | 0=>k
 | i+1=>z2q (gi gs (i:Int)) (gK gs k i)
section
variable {n base:Nat}{W:Q8}{m:MW}{w w':Wo}{G G':ZO}{i:Int}
end
def kC(W:Q8):Int:=1+5*(W.ID.length:Int)
def kT(W:Q8):Int:=kC W+9*(W.tasks.length:Int)
def mK(W:Q8):Int:=gK W.IC (kT W) W.IC.length
section
variable {n base:Nat}{W:Q8}{m:MW}{w w':Wo}{bs:List Nat}
end
def Cf:MM:=⟨0,0,0,0,0,0,0,0,0⟩
def Z1(W:Q8)(t:Int):Q8:=if (gi W.ID (Q7 W t).IZ).cur=t then Rn W (Q7 W t).IZ else W
noncomputable def OM(W:Q8)(t:Int):Int:=if Yb W t=false then 2 else if QQ W=false then 10 else 0
def Nh(W:Q8)(t:Int):Q8:=Qg (IT (Z1 W t) t Cf)
theorem zk4{K:Int}{W:Q8}(h:SW K W){t:Int}(t0:0<=t)(t1:t<12)(n:(Q7 W t).state≠0):SW K (Z1 W t):=by
 unfold Z1;split
 ·exact h.Rn (h.t t t0 t1 n).2.1 (h.t t t0 t1 n).2.2
 ·exact h
theorem zin{W:Q8}{t:Int}(hW:Qx W=true)(hb:OM W t=0):Yb W t=true/\QQ W=true/\SW Qj W/\SW Qj (IT W t Cf)/\SW Qj (IT (Z1 W t) t Cf):=by
 have wp:=Ql.1 hW;unfold OM at hb
 split at hb
 ·cases hb
 ·rename_i h1
  split at hb
  ·cases hb
  ·rename_i h3;have h1:Yb W t=true:=by simpa using h1
   have h3:QQ W=true:=by simpa using h3
   have sw:=Md wp (Ql.1 h3);obtain⟨t0,t1,n⟩:=YQ h1;have hl:=wp.a.t;exact⟨h1,h3,sw,sw.IT t0 Qo (fun h=>Ir rfl h) Qd Qd,(zk4 sw t0 Qo n).IT t0 Qo (fun h=>Ir rfl h) Qd Qd⟩
section
variable {W:Q8}{m:MW}{w:Wo}{bar:Int}
theorem Az{t:Int}(h:XQ [] w W m)(hl:UN W) :
  Cz TO #[.agg (Qa W m).toArray,I t] w fun e w'=>∃v,e=.returned v/\QL (Yp W (OM W t) (Nh W t)) w v w':=by
 refine Ag _ _ _ _ _ _ _ _ _ _ t (R:=fun v w'=>QL (Yp W (OM W t) (Nh W t)) w v w') ?_;intro x hx x1 S9 wr R0 SS;refine I3 (Zc (h.ext R0) hl) ?_;rintro e wv (⟨hW,he,hy⟩ | ⟨hW,m',he,hM,hy⟩)
 ·exact⟨_,_,_,_,_,_,_,_,_,_,_,he,Qe hy SS,fun _ I' R4=>QL.bad hW ((R0.trans hy).fresh R4 fun y hm=>.inl (Yi hx S9 y hm)),fun g=>by simp at g⟩
 have hK:=Wk.begin hx S9 R0 SS hM hy;have hr:=hK.rd;refine⟨_,_,_,_,_,_,_,_,_,_,_,he,Qe hy SS,fun g=>by split at g <;> simp at g,fun _=>⟨_,JB hr hl.t,fun g J' R4=>?_,fun g=>?_⟩⟩
 ·have g:Yb W t=false:=by simpa using g
  have hb:OM W t=2:=by unfold OM; rw[C' g]
  exact QL.no hW (by rw[hb]; decide) (hK.step R4) hb
 have g:Yb W t=true:=by simpa using g
 obtain⟨t0,t1,tn⟩:=YQ g;have V':=hr.t.ix QG t0 t1;refine⟨fun g3 Rt R4=>?_,fun g3=>?_⟩
 ·have aQ:¬QQ W=true:=fun hr=>by rw[C' hr] at g3; simp at g3
  have hb:OM W t=10:=by unfold OM; rw[B' (by rw[g]; decide),C' (by simpa using aQ)]
  rw[B' aQ];exact QL.no hW (by rw[hb]; decide) (hK.step R4) hb
 have aQ:QQ W=true:=Iq fun hr=>by rw[B' hr] at g3; simp at g3
 have hb:OM W t=0:=by unfold OM; rw[B' (by rw[g]; decide),B' (by rw[aQ]; decide)]
 obtain⟨_,_,sw,sw1,sw2⟩:=zin hW hb;obtain⟨_,c0,c1⟩:=sw.t t t0 (by have:=sw.a.t; omega) tn;have SE:Zf 8 w.heap.size (Rl wv m'.tO (Int.toNat t*9) (Xv Cf)) (IT W t Cf) m':=hK.own.AA0 t0 t1 (j:=0) (vs:=Xv Cf) (x:=Cf) rfl Qd;have hKs:=hK.Rl SE GJ;have e5:∀mm,Qa (IT W t Cf) mm=Qa W mm:=fun mm=>by simp[Qa,IT]
 refine⟨V',_,hr.t.f t0 t1 (j:=2) rfl,V',zqn hK.own hK.nb t0 t1 (j:=0) Qd,hr.c.ix ZP c0 c1,_,hKs.rd.c.f c0 c1 (j:=1) rfl,fun g4 RH Sg jO=>?_,fun g4 RH Sg jO=>?_⟩
 ·have g4:(gi (IT W t Cf).ID (Q7 W t).IZ).cur=t:=by simpa using g4
  have hE:Nh W t=Qg (Rn (IT W t Cf) (Q7 W t).IZ):=by unfold Nh Z1; rw[C' (show (gi W.ID (Q7 W t).IZ).cur=t from g4)]; rfl
  rw[hE];have cQ:=hKs.step Sg;have Rg:=Zw cQ.own c0 c1;rw[e5] at Rg;refine I3 Rg ?_;rintro e1 R1 ⟨fJ,bE⟩;refine⟨_,_,_,_,_,_,_,_,_,_,fJ,cQ.kept bE jO,fun Sf aO hs6=>?_⟩;have tE:=(cQ.Sj bE jO).step aO;refine I3 (Qv tE.own (sw1.Rn c0 c1) Qd Qd tE.base) ?_;rintro e2 Rx ⟨m1,aE,Sn⟩;exact⟨_,_,_,_,_,_,_,_,_,_,aE,tE.kept Sn hs6,fun SH jH=>QL.ok hW hb ((tE.Sj Sn hs6).step jH)⟩
 ·have g4:¬(gi (IT W t Cf).ID (Q7 W t).IZ).cur=t:=by simpa using g4
  have hE:Nh W t=Qg (IT W t Cf):=by unfold Nh Z1; rw[B' (show ¬(gi W.ID (Q7 W t).IZ).cur=t from g4)]
  rw[hE];have cQ:=hKs.step Sg;have Rg:=Qv cQ.own sw1 Qd Qd cQ.base;rw[e5] at Rg;refine I3 Rg ?_;rintro e2 Rx ⟨m1,aE,Sn⟩;exact⟨_,_,_,_,_,_,_,_,_,_,aE,cQ.kept Sn jO,fun SH jH=>QL.ok hW hb ((cQ.Sj Sn jO).step jH)⟩
end
abbrev Kn(W:Q8)(t n:Int):Int:=(Qc W (Q7 W t).group (Q7 W t).IZ).floor+Y9 ((Q7 W t).v-(Qc W (Q7 W t).group (Q7 W t).IZ).floor) (Qf n)
def J8(W:Q8)(t n:Int):MM:={ Q7 W t with nice:=n,v:=if (Q7 W t).state=1 then Kn W t n else (Q7 W t).v }
noncomputable def Pi(W:Q8)(t n:Int):Int:=if Qf n=0 then 1 else OM W t
def Gu(W:Q8)(t n:Int):Q8:=Qg (if (Q7 W t).state=1 then Z1 (IT W t (J8 W t n)) t else IT W t (J8 W t n))
theorem zpq{W:Q8}{t n:Int}(h:(Q7 W t).state=1):J8 W t n={ Q7 W t with nice:=n,v:=Kn W t n }:=by unfold J8; rw[C' h]
theorem zpp{W:Q8}{t n:Int}(h:¬(Q7 W t).state=1):J8 W t n={ Q7 W t with nice:=n }:=by unfold J8; rw[B' h]
theorem KU{W:Q8}{t:Int}{x:MM}(t0:0<=t)(t1:t<(W.tasks.length:Int)):Q7 (IT W t x) t=x:=by
 show gi (W.tasks.set t.toNat x) t=x;rw[QE _ _ t0 t1 t0,C' rfl]
theorem set_set{W:Q8}{t:Int}{x y:MM}:IT (IT W t x) t y=IT W t y:=by simp[IT]
abbrev K1:Int:=Qj+Qi
structure z0y (W:Q8) (t n:Int):Prop where
 th:Yb W t=true
 room:QQ W=true
 sw:SW Qj W
 f:(Q7 W t).state=1->0<=(Qc W (Q7 W t).group (Q7 W t).IZ).floor/\(Qc W (Q7 W t).group (Q7 W t).IZ).floor<=Qj/\0<=Kn W t n/\Kn W t n<=K1
 s1:SW K1 (IT W t (J8 W t n))
 s2:SW K1 (Z1 (IT W t (J8 W t n)) t)
theorem zpr{W:Q8}{t n:Int}(hW:Qx W=true)(hb:Pi W t n=0):z0y W t n:=by
 have hw:¬Qf n=0:=fun h=>by unfold Pi at hb; rw[C' h] at hb; cases hb
 have hb:OM W t=0:=by unfold Pi at hb; rwa[B' hw] at hb
 obtain⟨h1,h3,sw,_,_⟩:=zin hW hb;obtain⟨t0,t1,tn⟩:=YQ h1;have hl:=sw.a.t;have hg:=sw.t t t0 Qo tn;have hv:=sw.tv t t0 Qo;have hf:=sw.s _ _ hg.1 hg.2.1 hg.2.2;have lc:=ZQ ((Q7 W t).v-(Qc W (Q7 W t).group (Q7 W t).IZ).floor) (Qf n);have lm:=Y3 (Qf n);have f:0<=Kn W t n/\Kn W t n<=K1:=by unfold Kn; simp only[K1,Qi]; omega
 have f1:0<=(J8 W t n).v/\(J8 W t n).v<=K1:=by
  unfold J8
  dsimp only
  split
  ·exact f
  ·simp only[K1,Qi]; omega
 have s1:SW K1 (IT W t (J8 W t n)):=(sw.mono Qd).IT t0 Qo (fun _=>hg) f1.1 f1.2;exact⟨h1,h3,sw,fun _=>⟨hf.1,hf.2.1,f⟩,s1,zk4 s1 t0 Qo (by rw[KU t0 t1]; exact tn)⟩
section
variable {W:Q8}{m:MW}{w:Wo}{bar:Int}
theorem HV{bs:List Nat}{t:Int}(h:XQ bs w W m)(t0:0<=t)(t1:t<(W.tasks.length:Int))(g0:0<=(Q7 W t).group)(g1:(Q7 W t).group<(W.IC.length:Int))(c0:0<=(Q7 W t).IZ)(c1:(Q7 W t).IZ<((gi W.IC (Q7 W t).group).IE.length:Int))(hr:Qq .i64 ((Q7 W t).v-(Qc W (Q7 W t).group (Q7 W t).IZ).floor)) :
  PX bs T9 #[.agg (Qa W m).toArray,I t] w (I (Y9 ((Q7 W t).v-(Qc W (Q7 W t).group (Q7 W t).IZ).floor) (Qf (Q7 W t).nice))):=
 zfr _ _ _ _ _ _ _ _ _ _ t fun wr hx=>by
  have h:=(h.ext hx).less (cs:=[]) Qs;intro b hb;exact⟨h.t.ix QG t0 t1,_,_,_,_,_,_,_,_,_,h.t t t0 t1,fun b1 dI=>⟨h.g.ix g0 g1,_,_,_,h.g.RC g0 g1,(h.g.IE _ g0 g1).ix YW c0 c1,_,(h.g.IE _ g0 g1).f c0 c1 (j:=0) rfl,hr,_,ZK,_,MY,rfl⟩⟩
theorem AB{t n:Int}(h:XQ [] w W m)(hl:UN W) :
  Cz TQ #[.agg (Qa W m).toArray,I t,I n] w fun e w'=>∃v,e=.returned v/\QL (Yp W (Pi W t n) (Gu W t n)) w v w':=by
 refine Aj _ _ _ _ _ _ _ _ _ _ t n (R:=fun v w'=>QL (Yp W (Pi W t n) (Gu W t n)) w v w') ?_;intro x hx x1 S9 wr R0 SS;refine I3 (Zc (h.ext R0) hl) ?_;rintro e wv (⟨hW,he,hy⟩ | ⟨hW,m',he,hM,hy⟩)
 ·exact⟨_,_,_,_,_,_,_,_,_,_,_,he,Qe hy SS,0,fun g=>by simp at g,fun _ I' R4=>QL.bad hW ((R0.trans hy).fresh R4 fun y hm=>.inl (Yi hx S9 y hm)),fun g=>by simp at g⟩
 have hK:=Wk.begin hx S9 R0 SS hM hy;have hr:=hK.rd;have tN:((if QQ W=true then 0 else 10:Int)==1)=false:=by split <;> rfl
 refine⟨_,_,_,_,_,_,_,_,_,_,_,he,Qe hy SS,_,fun _=>ZK (n:=n),fun g I' R4=>?_,fun g0=>⟨_,JB hr hl.t,fun g J' R4=>?_,fun g=>?_⟩⟩
 ·rw[tN] at g;have g:Qf n=0:=by simpa using g
  have hb:Pi W t n=1:=by unfold Pi; rw[C' g]
  exact QL.no hW (by rw[hb]; decide) (hK.step R4) hb
 ·rw[tN] at g0;have g0:¬Qf n=0:=by simpa using g0
  have g:Yb W t=false:=by simpa using g
  have hb:Pi W t n=2:=by unfold Pi OM; rw[B' g0,C' g]
  exact QL.no hW (by rw[hb]; decide) (hK.step R4) hb
 rw[tN] at g0;have gw:¬Qf n=0:=by simpa using g0
 have g:Yb W t=true:=by simpa using g
 obtain⟨t0,t1,tn⟩:=YQ g;have V':=hr.t.ix QG t0 t1;refine⟨fun g3 Rt R4=>?_,fun g3=>?_⟩
 ·have aQ:¬QQ W=true:=fun hr=>by rw[C' hr] at g3; simp at g3
  have hb:Pi W t n=10:=by unfold Pi OM; rw[B' gw,B' (by rw[g]; decide),C' (by simpa using aQ)]
  rw[B' aQ];exact QL.no hW (by rw[hb]; decide) (hK.step R4) hb
 have aQ:QQ W=true:=Iq fun hr=>by rw[B' hr] at g3; simp at g3
 have hb:Pi W t n=0:=by unfold Pi OM; rw[B' gw,B' (by rw[g]; decide),B' (by rw[aQ]; decide)]
 have hN:=zpr hW hb;have sw:=hN.sw;have iX:=sw.a.t;obtain⟨hu,c0,c1⟩:=sw.t t t0 Qo tn;obtain⟨q0,q1,_⟩:=Q4.1 hu;have hsl:=sw.a.sl hu;have eB:Wk 8 [x,x1] w (Rl wv m'.tO (Int.toNat t*9) (Xv { Q7 W t with nice:=n })) (IT W t { Q7 W t with nice:=n }) m':=hK.Rl (hK.own.AA0 t0 t1 (j:=0) (vs:=Xv { Q7 W t with nice:=n }) (x:={ Q7 W t with nice:=n }) rfl (by show 0+9<=9; decide)) GJ;have e5:∀x mm,Qa (IT W t x) mm=Qa W mm:=fun x mm=>by simp[Qa,IT]
 refine⟨V',_,_,_,_,_,_,_,_,_,hr.t t t0 t1,fun b2 bT=>⟨V',zqn hK.own hK.nb t0 t1 (j:=0) Qd,fun g4=>?_,fun g4 WT lB hs9=>?_⟩⟩
 ·have g4:(Q7 W t).state=1:=by simpa[Q7] using g4
  have hT:=zpq (n:=n) g4;obtain⟨f0,f1,v0,v1⟩:=hN.f g4;have hv:=sw.tv t t0 Qo;have hh:Qj=50000000000000000:=rfl;have hk:K1=50000034686091440:=rfl;have sS:=eB.rd;have etk:Q7 (IT W t { Q7 W t with nice:=n }) t={ Q7 W t with nice:=n }:=KU t0 t1;have t1':t<((IT W t { Q7 W t with nice:=n }).tasks.length:Int):=by simpa[IT] using t1
  have CH8:=HV (t:=t) sS t0 t1' (by rw[etk]; exact q0) (by rw[etk]; exact q1) (by rw[etk]; exact c0) (by rw[etk]; show (Q7 W t).IZ<(((gi W.IC (Q7 W t).group).IE.length:Nat):Int); omega) (by rw[etk]; exact⟨by show _<=(Q7 W t).v-(Qc W (Q7 W t).group (Q7 W t).IZ).floor; omega,by show (Q7 W t).v-(Qc W (Q7 W t).group (Q7 W t).IZ).floor<=_; omega⟩);rw[etk,e5] at CH8;have lc:=ZQ ((Q7 W t).v-(Qc W (Q7 W t).group (Q7 W t).IZ).floor) (Qf n);have lm:=Y3 (Qf n);have SE:Zf 8 w.heap.size (Rl (Rl wv m'.tO (Int.toNat t*9) (Xv { Q7 W t with nice:=n })) m'.tO (Int.toNat t*9) (Xv { Q7 W t with nice:=n,v:=Kn W t n })) (IT (IT W t { Q7 W t with nice:=n }) t { Q7 W t with nice:=n,v:=Kn W t n }) m':=eB.own.AA0 t0 t1' (j:=0) (vs:=Xv { Q7 W t with nice:=n,v:=Kn W t n }) (x:={ Q7 W t with nice:=n,v:=Kn W t n }) (by rw[show gi (IT W t { Q7 W t with nice:=n }).tasks t={ Q7 W t with nice:=n } from etk]; rfl) (by show 0+9<=9; decide);rw[set_set,<-hT] at SE;have pI:Wk 8 ([x,x1]++[b2]) w _ (IT W t (J8 W t n)) m':=(hK.add bT).Rl SE (GJ.trans GJ)
  have kW:∀vs0 vs:List Va,Xv { Q7 W t with nice:=n }=vs0->Xv (J8 W t n)=vs->Wk 8 ([x,x1]++[b2]) w (Rl (Rl wv m'.tO (Int.toNat t*9) vs0) m'.tO (Int.toNat t*9) vs) (IT W t (J8 W t n)) m':=fun vs0 vs h0 h1=>by
   subst h0;subst h1;rw[hT] at pI ⊢;exact pI
  have B60:∀y∈[x,x1],y∈[x,x1]++[b2]:=fun y hy=>Ia _ hy
  have CD4:Wk 8 [x,x1] w _ (IT W t (J8 W t n)) m':=pI.sub B60;have Cg3:Q1 [x,x1] (Rl wv m'.tO (Int.toNat t*9) (Xv { Q7 W t with nice:=n })) (m'.ms (Q7 W t).group.toNat).sO (Int.toNat (Q7 W t).IZ*5+0) [I (Qc W (Q7 W t).group (Q7 W t).IZ).floor]:=(sS.g.IE _ q0 q1).f c0 (by show (Q7 W t).IZ<(((gi W.IC (Q7 W t).group).IE.length:Nat):Int); omega) (j:=0) rfl;have ecp:(Q7 (IT W t (J8 W t n)) t).IZ=(Q7 W t).IZ:=by rw[KU t0 t1]; rfl
  refine⟨hr.g.ix q0 q1,_,_,_,sS.g.RC q0 q1,(sS.g.IE _ q0 q1).ix YW c0 (by show (Q7 W t).IZ<(((gi W.IC (Q7 W t).group).IE.length:Nat):Int); omega),(Qc W (Q7 W t).group (Q7 W t).IZ).floor,Cg3,Y9 ((Q7 W t).v-(Qc W (Q7 W t).group (Q7 W t).IZ).floor) (Qf n),CH8,⟨?_,?_⟩,V',zqn eB.own eB.nb t0 t1' (j:=0) Qd,hr.c.ix ZP c0 c1,(gi W.ID (Q7 W t).IZ).cur,?_,fun g5 Rt SD cJ=>?_,fun g5 SH jH hs7=>?_⟩
  ·show _<=Kn W t n; omega
  ·show Kn W t n<=_; omega
  ·rw[hT] at CD4;exact CD4.rd.c.f c0 c1 (j:=1) rfl
  ·have g5:(gi W.ID (Q7 W t).IZ).cur=t:=by simpa using g5
   have hE:Gu W t n=Qg (Rn (IT W t (J8 W t n)) (Q7 W t).IZ):=by unfold Gu Z1; rw[C' g4,ecp,C' (show (gi (IT W t (J8 W t n)).ID (Q7 W t).IZ).cur=t from g5)]
   rw[hE];have cQ:=(kW _ _ (by rfl) (by rw[hT]; rfl)).step (SD.mono B60);have Rg:=Zw cQ.own c0 c1;rw[e5] at Rg;refine I3 Rg ?_;rintro e1 R1 ⟨fJ,bE⟩;refine⟨_,_,_,_,_,_,_,_,_,_,fJ,cQ.kept bE cJ,fun Sf aO hs6=>?_⟩;have tE:=(cQ.Sj bE cJ).step aO;refine I3 (Qv tE.own (hN.s1.Rn c0 c1) Qd Qd tE.base) ?_;rintro e2 Rx ⟨m1,aE,Sn⟩;exact⟨_,_,_,_,_,_,_,_,_,_,aE,tE.kept Sn hs6,fun SH jH=>QL.ok hW hb ((tE.Sj Sn hs6).step jH)⟩
  ·have g5:¬(gi W.ID (Q7 W t).IZ).cur=t:=by simpa using g5
   have hE:Gu W t n=Qg (IT W t (J8 W t n)):=by unfold Gu Z1; rw[C' g4,ecp,B' (show ¬(gi (IT W t (J8 W t n)).ID (Q7 W t).IZ).cur=t from g5)]
   rw[hE];have cQ:=(kW _ _ (by rfl) (by rw[hT]; rfl)).step (jH.mono B60);have Rg:=Qv cQ.own hN.s1 Qd Qd cQ.base;rw[e5] at Rg;refine I3 Rg ?_;rintro e2 Rx ⟨m1,aE,Sn⟩;exact⟨_,_,_,_,_,_,_,_,_,_,aE,cQ.kept Sn hs7,fun SH jH=>QL.ok hW hb ((cQ.Sj Sn hs7).step jH)⟩
 ·have g4:¬(Q7 W t).state=1:=by simpa[Q7] using g4
  have hE:Gu W t n=Qg (IT W t (J8 W t n)):=by unfold Gu; rw[B' g4]
  have cX:=hN.s1;rw[hE,zpp g4];rw[zpp g4] at cX;have pI:Wk 8 ([x,x1]++[b2]) w _ (IT W t { Q7 W t with nice:=n }) m':=(hK.add bT).Rl eB.own GJ;have cQ:=pI.step (lB.mono fun y hy=>Ia _ hy);have Rg:=Qv cQ.own cX Qd Qd cQ.base;rw[e5] at Rg;refine I3 Rg ?_;rintro e2 Rx ⟨m1,aE,Sn⟩;exact⟨_,_,_,_,_,_,_,_,_,_,aE,cQ.kept Sn hs9,fun SH jH=>QL.ok hW hb ((cQ.Sj Sn hs9).step jH)⟩
theorem EN{bs:List Nat}{p:OA}{t:Int}(h:Mk bs w p W m)(t0:0<=t)(t1:t<(W.tasks.length:Int))(g0:0<=(Q7 W t).group)(g1:(Q7 W t).group<(W.IC.length:Int))(c0:0<=(Q7 W t).IZ)(c1:(Q7 W t).IZ<((gi W.IC (Q7 W t).group).IE.length:Int)) :
  PX bs XX #[.pointer p,I t] w (I (Qc W (Q7 W t).group (Q7 W t).IZ).floor):=
 DI p t fun wr hx=>by
  have h:=(h.ext hx).less (cs:=[]) Qs;exact⟨h.some,_,_,_,h.tasks,h.rd.t.ix QG t0 t1,_,_,_,_,_,_,_,_,_,h.rd.t t t0 t1,fun b hb=>⟨_,_,XI,_,Zp h g0 g1 c0 c1,(h.sh g0 g1 c0 c1).1,_,(h.sh g0 g1 c0 c1).2 (j:=0) rfl,rfl⟩⟩
end
noncomputable def MT(W:Q8)(g:Int)(ok:Bool):Int:=if ok=false\/g=0 then 1 else if Q6 W.IC g=false then 2 else if QQ W=false then 10 else 0
theorem ziu{W:Q8}{g:Int}{ok:Bool}(h:MT W g ok=0):ok=true/\g≠0/\Q6 W.IC g=true/\QQ W=true:=by
 unfold MT at h
 split at h
 ·cases h
 ·rename_i h1
  split at h
  ·cases h
  ·rename_i h2
   split at h
   ·cases h
   ·rename_i h3;exact⟨by cases ok <;> simp_all,fun e=>h1 (.inr e),by simpa using h2,by simpa using h3⟩
def zyn:UM:=⟨0,0,0,[],[]⟩
def J7(q:Int)(n:Nat):UM:=⟨q,q,0,List.replicate n 0,List.replicate n false⟩
def HX(q p:Int):Bool:=q==0&&p==0
def zgm(q p:Int):Bool:=HX q p||(YK q 1 10000&&YK p 1 1000)
def MZ(W:Q8)(g q p:Int):ZO:=if HX q p=true then { gi W.IC g with period:=0,next:=0,IQ:=zyn } else { gi W.IC g with period:=p,next:=W.now+p,IQ:=J7 q W.ID.length }
noncomputable def zk5(W:Q8)(g q p:Int):Int:=MT W g (zgm q p)
def zxm(W:Q8)(g q p:Int):Q8:=Qg (Rf W g (MZ W g q p))
theorem N4(n:Nat):∀k:Nat,k<=n->UY (List.replicate n (0:Int)) k=0
 | 0,_=>rfl
 | k+1,hk=>by
  simp only[UY];rw[N4 n k Qo,PV _ _ Qo Qo]; rfl
theorem zru{q:Int}{n:Nat}(q1:1<=q)(q2:q<=10000)(n1:1<=n)(n2:n<=4):Oq (J7 q n):=by
 refine⟨q1,q2,by simpa[J7] using n1,by simpa[J7] using n2,by simp[J7],by simp only[J7]; omega,I2 _,by simp[J7],by simp only[J7]; omega,fun c c0 c1=>?_,?_⟩
 ·simp only[J7,List.length_replicate] at c1 ⊢;rw[PV _ _ c0 c1,PV _ _ c0 c1];exact⟨I2 _,Qo,fun h=>by cases h⟩
 ·simp only[J7,List.length_replicate];rw[N4 n n (I7 _)]; omega
theorem zi3{W:Q8}{g q p:Int}:(MZ W g q p).used=(gi W.IC g).used/\(MZ W g q p).parent=(gi W.IC g).parent/\(MZ W g q p).name=(gi W.IC g).name/\(MZ W g q p).IE=(gi W.IC g).IE/\(MZ W g q p).weight=(gi W.IC g).weight/\(MZ W g q p).ID=(gi W.IC g).ID/\(MZ W g q p).sum=(gi W.IC g).sum:=by
 unfold MZ; split <;> exact⟨rfl,rfl,rfl,rfl,rfl,rfl,rfl⟩
theorem SW.Rf{K:Int}{W:Q8}(h:SW K W){g:Int}{x:ZO}(hu:Q6 W.IC g=true)(u:x.used=(gi W.IC g).used)(p:x.parent=(gi W.IC g).parent)(n:x.name=(gi W.IC g).name)(s:x.IE=(gi W.IC g).IE)(hx:zmk W g x):SW K (Rf W g x):=by
 obtain⟨u0,u1,ut⟩:=Q4.1 hu;have hl:=h.a.gl;have hT:=JE (x:=x) u0 u1 u p n
 have es:∀k c:Int,0<=k->Qc (YtnclplgaicdapaaGreatDoor.Rf W g x) k c=Qc W k c:=fun k c k0=>by
  unfold Qc;rw[YY u0 u1 k0];split
  ·rename_i e; subst e; rw[s]
  ·rfl
 refine⟨h.a.set u0 Qo u p n (fun hn=>by rw[u,ut] at hn; cases hn) fun _=>hx,fun t a b n=>by rw[hT.cK]; exact h.t t a b n,h.tv,fun k c uk a b=>?_,h.cu⟩;rw[hT.cK] at uk;rw[es k c (Q4.1 uk).1];exact h.s k c uk a b
theorem zuh{W:Q8}{g q p:Int}(hW:Qx W=true)(hb:zk5 W g q p=0):Q6 W.IC g=true/\g≠0/\zgm q p=true/\QQ W=true/\SW Qj W/\SW Qj (Rf W g (MZ W g q p)):=by
 obtain⟨h1,h2,h3,h4⟩:=ziu hb;have wp:=Ql.1 hW;have sw:=Md wp (Ql.1 h4);obtain⟨u0,u1,hg⟩:=wp.a.u h3;have hl:=zi3 (W:=W) (g:=g) (q:=q) (p:=p);have tN:=wp.a.c1;have hc2:=wp.a.c2;refine⟨h3,h2,h1,h4,sw,sw.Rf h3 hl.1 hl.2.1 hl.2.2.1 hl.2.2.2.1 ⟨by rw[hl.2.2.2.2.1]; exact hg.w1,by rw[hl.2.2.2.2.1]; exact hg.w2,by rw[hl.2.2.2.2.2.1]; exact hg.m,by rw[hl.2.2.2.2.2.1]; exact hg.m0,by rw[hl.2.2.2.2.2.2]; exact hg.s,by rw[hl.2.2.2.1]; exact hg.len,fun h=>Ir h h2,fun hq=>?_,fun hq=>?_⟩⟩
 ·unfold MZ at hq ⊢;split
  ·exact⟨show O8 zyn=true by decide,rfl,rfl⟩
  ·rename_i hn;rw[B' hn] at hq;unfold zgm at h1;rw[show HX q p=false by simpa using hn,Bool.false_or,A'] at h1;have:=Qu.1 h1.1;have:q=0:=hq;omega
 ·unfold MZ at hq ⊢;split
  ·rename_i hn;rw[C' hn] at hq;exact Ir rfl hq
  ·rename_i hn;unfold zgm at h1;rw[show HX q p=false by simpa using hn,Bool.false_or,A'] at h1;have h5:=Qu.1 h1.1;have h6:=Qu.1 h1.2;exact⟨zru h5.1 h5.2 tN hc2,by simp[J7],h6.1,h6.2,by show W.now<W.now+p; omega,by show W.now+p-W.now<=p; omega⟩
theorem zpg{W:Q8}{g q p:Int}(h:HX q p=true):MZ W g q p={ gi W.IC g with period:=0,next:=0,IQ:=zyn }:=by unfold MZ; rw[C' h]
theorem zk6{W:Q8}{g q p:Int}(h:HX q p=false):MZ W g q p={ gi W.IC g with period:=p,next:=W.now+p,IQ:=J7 q W.ID.length }:=by unfold MZ; rw[B' (by rw[h]; decide)]
def AM:MG:=⟨none,0,none,0,none,0⟩
theorem zx0(base:Nat)(w:Wo):Zn base w zyn AM:=⟨.inl ⟨rfl,rfl,rfl⟩,.inl ⟨rfl,rfl,rfl⟩⟩
theorem zrx:∀x∈Yn AM,False:=fun x hx=>by simp[Yn,AM,QI] at hx
section
variable {W W':Q8}{m:MW}{w:Wo}{bar:Int}
theorem zz6{b:Nat}{bs:List Nat}{w w1 w2 w3:Wo}{q:Int}{n:Nat}(s:Sc w [b] w1)(h2:Q0 [b] (w1.alloc (.cells ((List.replicate n (0:Int)).flatMap JI).toArray Qb)) w2)(cX:∀y∈[b],y<w1.heap.size)(SS:∀y∈[b],y<w2.heap.size)(h3:Q0 [b] (w2.alloc (.cells ((List.replicate n false).flatMap Mm).toArray Y4)) w3)(_:bs=[]) :
  Zn w.heap.size w3 (J7 q n) ⟨some ⟨w1.heap.size,0,none⟩,n,some ⟨w2.heap.size,0,none⟩,n,none,0⟩/\Q0 [] w w3:=by
 have hL0:Ob JI 1 Qb w1.heap.size [b] _ (some ⟨w1.heap.size,0,none⟩) n (List.replicate n (0:Int)):=Ob.of (UV (enc:=JI) YT.len Qb n (0:Int) w1) cX;have s1:=(s.M' (Z4 w1 (.cells ((List.replicate n (0:Int)).flatMap JI).toArray Qb))).step h2;have hL1:=((hL0.step h2).M' (Z4 w2 (.cells ((List.replicate n false).flatMap Mm).toArray Y4))).step h3;have hD0:Ob Mm 1 Y4 w2.heap.size [b] _ (some ⟨w2.heap.size,0,none⟩) n (List.replicate n false):=Ob.of (UV (enc:=Mm) XC.len Y4 n false w2) SS;have hD1:=hD0.step h3;have s2:=(s1.M' (Z4 w2 (.cells ((List.replicate n false).flatMap Mm).toArray Y4))).step h3;exact⟨⟨hL1.own.mono s.ext.size,hD1.own.mono s1.ext.size⟩,s2.ext⟩
theorem zxx{b:Nat}{w w1 w2 w3:Wo}{q:Int}{n:Nat}(s:Sc w [b] w1)(h2:Q0 [b] (w1.alloc (.cells ((List.replicate n false).flatMap Mm).toArray Y4)) w2)(cX:∀y∈[b],y<w1.heap.size)(SS:∀y∈[b],y<w2.heap.size)(h3:Q0 [b] (w2.alloc (.cells ((List.replicate n (0:Int)).flatMap JI).toArray Qb)) w3) :
  Zn w.heap.size w3 (J7 q n) ⟨some ⟨w2.heap.size,0,none⟩,n,some ⟨w1.heap.size,0,none⟩,n,none,0⟩/\Q0 [] w w3:=by
 have hL0:Ob Mm 1 Y4 w1.heap.size [b] _ (some ⟨w1.heap.size,0,none⟩) n (List.replicate n false):=Ob.of (UV (enc:=Mm) XC.len Y4 n false w1) cX;have s1:=(s.M' (Z4 w1 (.cells ((List.replicate n false).flatMap Mm).toArray Y4))).step h2;have hL1:=((hL0.step h2).M' (Z4 w2 (.cells ((List.replicate n (0:Int)).flatMap JI).toArray Qb))).step h3;have hD0:Ob JI 1 Qb w2.heap.size [b] _ (some ⟨w2.heap.size,0,none⟩) n (List.replicate n (0:Int)):=Ob.of (UV (enc:=JI) YT.len Qb n (0:Int) w2) SS;have hD1:=hD0.step h3;have s2:=(s1.M' (Z4 w2 (.cells ((List.replicate n (0:Int)).flatMap JI).toArray Qb))).step h3;exact⟨⟨hD1.own.mono s1.ext.size,hL1.own.mono s.ext.size⟩,s2.ext⟩
theorem zbk{q:Int}{n:Nat}(hq:YK q 1 10000=true)(hn:YK (n:Int) 1 4=true) :
  Cz P0 #[I q,I (n:Int)] w fun e w'=>∃p:MG,e=.returned (.tuple #[.agg (Zv (J7 q n) p).toArray,.bool true])/\Zn w.heap.size w' (J7 q n) p/\Q0 [] w w':=by
 refine(zak q (n:Int) (R:=fun v w'=>∃p:MG,v=.tuple #[.agg (Zv (J7 q n) p).toArray,.bool true]/\Zn w.heap.size w' (J7 q n) p/\Q0 [] w w') ?_).mono fun e w' ⟨v,he,p,hv,h3⟩=>⟨p,by rw[he,hv],h3⟩
 have hm9:=ZH;have h4:=(Qu.1 hn).2;intro b hb;have s0:Sc w [b] w:=(Sc.start w).add hb;have k1:=Qp (n:=q) (a:=1) (b:=10000) (w:=w) (bs:=[]);have k2:=Qp (n:=(n:Int)) (a:=1) (b:=4) (w:=w) (bs:=[]);rw[hq] at k1;rw[hn] at k2;refine⟨true,k1,true,fun _=>k2,fun g=>by simp at g,fun _=>⟨fun I' S9 cX=>⟨_,_,_,_,K3 YT Mg n Qo Qo I',Qe (Z4 _ _) cX,fun J' R0 SS=>⟨_,_,_,_,K3 XC Kw n Qo Qo J',Qe (Z4 _ _) SS,fun Rp R4=>?_⟩⟩,fun I' S9 cX=>⟨_,_,_,_,K3 XC Kw n Qo Qo I',Qe (Z4 _ _) cX,fun J' R0 SS=>⟨_,_,_,_,K3 YT Mg n Qo Qo J',Qe (Z4 _ _) SS,fun Rp R4=>?_⟩⟩⟩⟩
 ·exact⟨_,by simp[Zv,J7],zz6 (bs:=[]) (s0.M' S9) R0 cX SS R4 rfl⟩
 ·exact⟨_,by simp[Zv,J7],zxx (s0.M' S9) R0 cX SS R4⟩
theorem zz3{base:Nat}(h:Zf 8 base w W m){g:Int}(u0:0<=g)(u1:g<8){G:ZO}{p:MG}(hp:Zn base w G.IQ p)(hb:∀x∈Yn p,x∉QR 8 m)(es:G.IE=(gi W.IC g).IE){j:Nat}{vs:List Va}(he:Yq G (K2 (m.ms g.toNat) p)=(Yq (gi W.IC g) (m.ms g.toNat)).take j++vs++(Yq (gi W.IC g) (m.ms g.toNat)).drop (j+vs.length))(hj:j+vs.length<=14) :
  Zf 8 base (Rl w m.gO (Int.toNat g*14+j) vs) (Rf W g G) (LD m g.toNat (K2 (m.ms g.toNat) p)):=
 h.Be1 u0 u1 (g:=G) (p:=K2 (m.ms g.toNat) p) ⟨hp.loc,hp.Rw,by rw[es]; exact(h.each u0 u1).shl⟩ (fun x hx=>by
  rcases Oa x hx with h1 | h1
  ·exact .inl (hb x h1)
  ·exact .inr h1) he hj
theorem Wk.gr{bs:List Nat}{w0:Wo}(h:Wk 8 bs w0 w W m){g:Int}(u0:0<=g)(u1:g<8){G:ZO}{p:MG}(hp:Zn w0.heap.size w G.IQ p)(hb:∀x∈Yn p,x∉QR 8 m/\x∉bs)(es:G.IE=(gi W.IC g).IE){j:Nat}{vs:List Va}(he:Yq G (K2 (m.ms g.toNat) p)=(Yq (gi W.IC g) (m.ms g.toNat)).take j++vs++(Yq (gi W.IC g) (m.ms g.toNat)).drop (j+vs.length))(hj:j+vs.length<=14) :
  Wk 8 bs w0 (YtnclplgaicdapaaGreatDoor.Rl w m.gO (Int.toNat g*14+j) vs) (Rf W g G) (LD m g.toNat (K2 (m.ms g.toNat) p)):=
 ⟨h.s.call Cc fun x hx=>(h.own.lt x hx).1,⟨zz3 h.own u0 u1 hp (fun x hx=>(hb x hx).1) es he hj,fun x hx=>by
  rcases Oc x hx with h1 | h1
  ·exact h.nb x h1
  ·rcases Oa x h1 with h2 | h2
   ·exact(hb x h2).2
   ·exact h.nb x (Ud Qo h2)⟩⟩
theorem Vh{g:Int}{ok:Bool}(h:XQ [] w W m)(hl:UN W) :
  Cz Xf #[.agg (Qa W m).toArray,I g,.bool ok] w fun e w'=>(Qx W=false/\e=.returned (.tuple #[.agg (Qa KA zwb).toArray,I 1])/\Q0 [] w w')\/(Qx W=true/\∃m',e=.returned (.tuple #[.agg (Qa W m').toArray,I (MT W g ok)])/\Zf 8 w.heap.size w' W m'/\Q0 [] w w'):=by
 refine(Ap _ _ _ _ _ _ _ _ _ _ g ok (R:=fun v w'=>(Qx W=false/\v=.tuple #[.agg (Qa KA zwb).toArray,I 1]/\Q0 [] w w')\/(Qx W=true/\∃m',v=.tuple #[.agg (Qa W m').toArray,I (MT W g ok)]/\Zf 8 w.heap.size w' W m'/\Q0 [] w w')) ?_).mono fun e w' ⟨v,he,h3⟩=>by
  rw[he];rcases h3 with ⟨a,b,c⟩ | ⟨a,m',b,c⟩
  ·exact .inl ⟨a,by rw[b],c⟩
  ·exact .inr ⟨a,m',by rw[b],c⟩
 intro x hx x1 S9 wr R0 SS;refine I3 (Zc (h.ext R0) hl) ?_;rintro e wv (⟨hW,he,hy⟩ | ⟨hW,m',he,hM,hy⟩)
 ·exact⟨_,_,_,_,_,_,_,_,_,_,_,he,Qe hy SS,fun _ I' R4=>.inl ⟨hW,rfl,(R0.trans hy).fresh R4 fun y hm=>.inl (Yi hx S9 y hm)⟩,fun g=>by simp at g⟩
 have hK:=Wk.begin hx S9 R0 SS hM hy;have tN:((if QQ W=true then 0 else 10:Int)==1)=false:=by split <;> rfl
 refine⟨_,_,_,_,_,_,_,_,_,_,_,he,Qe hy SS,fun g1 I' R4=>.inr ⟨hW,m',?_,(hK.step R4).fin⟩,fun g1=>⟨_,Xb hK.rd.g,fun g2 J' R4=>.inr ⟨hW,m',?_,(hK.step R4).fin⟩,fun g2 Rp R4=>.inr ⟨hW,m',?_,(hK.step R4).fin⟩⟩⟩
 ·have hb:MT W g ok=1:=by
   unfold MT;rw[C'];rw[tN] at g1
   simpa using g1
  rw[hb]; rfl
 ·rw[tN] at g1;have g1:¬(ok=false\/g=0):=by simpa using g1
  have hb:MT W g ok=2:=by unfold MT; rw[B' g1,C' (by simpa using g2)]
  rw[hb]; rfl
 ·rw[tN] at g1;have g1:¬(ok=false\/g=0):=by simpa using g1
  have hb:MT W g ok=if QQ W=true then 0 else 10:=by
   unfold MT; rw[B' g1,B' (by simpa using g2)]
   cases QQ W <;> rfl
  rw[hb]; rfl
theorem ES{g q p:Int}(h:XQ [] w W m)(hl:UN W) :
  Cz Vt #[.agg (Qa W m).toArray,I g,I q,I p] w fun e w'=>∃v,e=.returned v/\QL (Yp W (zk5 W g q p) (zxm W g q p)) w v w':=by
 refine Ez _ _ _ _ _ _ _ _ _ _ g q p (R:=fun v w'=>QL (Yp W (zk5 W g q p) (zxm W g q p)) w v w') ?_;intro x hx x1 S9;refine⟨_,fun _=>Qp,_,fun _ _=>Qp,fun wr R0 SS=>?_⟩;refine I3 (Vh (g:=g) (ok:=zgm q p) (h.ext R0) hl) ?_;rintro e wv (⟨hW,he,hy⟩ | ⟨hW,m',he,hM,hy⟩)
 ·exact⟨_,_,_,_,_,_,_,_,_,_,_,he,Qe hy SS,fun _ I' R4=>QL.bad hW ((R0.trans hy).fresh R4 fun y hm=>.inl (Yi hx S9 y hm)),fun g=>by simp at g⟩
 have hK:=Wk.begin hx S9 R0 SS hM hy;refine⟨_,_,_,_,_,_,_,_,_,_,_,he,Qe hy SS,fun g1 I' R4=>QL.no hW (by simpa[zk5] using g1) (hK.step R4) rfl,fun g1=>?_⟩;have hb:zk5 W g q p=0:=by simpa[zk5] using g1
 have hr:=hK.rd;obtain⟨hu,hz,hok,yV,sw,s1⟩:=zuh hW hb;obtain⟨u0,u1,_⟩:=Q4.1 hu;have bM:=sw.a.gl;have tN:=sw.a.c1;have hc2:=sw.a.c2;have hn1:=sw.a.n1;have hn2:=sw.a.n2;have V':=hr.g.ix (i:=g) u0 u1;have e5:∀G mm,mm={ m' with ms:=mm.ms }->Qa (Rf W g G) mm=Qa W m':=fun G mm hm=>by rw[hm]; simp[Qa,Rf]
 have eb:Qa W m'=Qa W m':=rfl;refine⟨V',_,_,_,_,_,_,_,_,_,_,_,_,_,_,_,_,_,_,_,_,hr.g.cells g u0 u1,fun b2 bT=>⟨fun g2 J' R4 dQ=>?_,fun g2=>?_⟩⟩
 ·have g2:HX q p=false:=by unfold HX; simpa only[IB] using g2
  have hlm:YK q 1 10000=true/\YK p 1 1000=true:=by unfold zgm at hok; rw[g2,Bool.false_or,A'] at hok; exact hok
  have hp:=Qu.1 hlm.2;have eB:=(hK.add bT).step (R4.mono fun y hy=>Ia _ hy);refine I3 (zbk (n:=W.ID.length) hlm.1 (Qu.2 ⟨Qo,Qo⟩)) ?_;rintro e1 R1 ⟨pb,fJ,hO,bE⟩;refine⟨_,_,_,_,_,_,_,_,_,_,fJ,Qe bE dQ,fun b3 hb3=>⟨⟨Qo,Qo⟩,V',?_,fun Rp SD cJ=>?_⟩⟩
  ·exact zqm (eB.M' bE).own (eB.M' bE).nb u0 Qo (j:=0) Qd
  have pI:=(eB.M' bE).add hb3
  have dB:=(pI.gr u0 Qo (G:=MZ W g q p) (p:=pb) (j:=0) (vs:=Yq (MZ W g q p) (K2 (m'.ms g.toNat) pb)) (by rw[zk6 g2]; exact hO.mono eB.base) (fun y hy=>?_) zi3.2.2.2.1 (by simp[Yq]) (by simp[Yq])).step (w':=Rp) (by
   rw[zk6 g2];exact SD.mono fun y hy=>Ia _ hy)
  ·have Rg:=Qv dB.own s1 Qd Qd dB.base;rw[e5 _ _ rfl] at Rg;refine I3 Rg ?_;rintro e2 Rx ⟨m2,aE,Sn⟩;exact⟨_,_,_,_,_,_,_,_,_,_,aE,dB.kept Sn cJ,fun Rt Sg=>QL.ok hW hb ((dB.Sj Sn cJ).step Sg)⟩
  ·have:=hO.lt y hy;refine⟨fun hm=>?_,fun hm=>?_⟩
   ·have:=(eB.own.lt y hm).2; omega
   ·rcases Im.1 hm with h1 | h1
    ·have:=dQ y h1; omega
    ·have:y=b3:=by simpa using h1
     omega
 ·have g2:HX q p=true:=by unfold HX; simpa only[I6] using g2
  refine⟨V',?_,fun Rp SD cJ=>?_⟩
  ·exact zqm hK.own hK.nb u0 Qo (j:=0) Qd
  have pI:=hK.add bT
  have dB:=(pI.gr u0 Qo (G:=MZ W g q p) (p:=AM) (j:=0) (vs:=Yq (MZ W g q p) (K2 (m'.ms g.toNat) AM)) (by rw[zpg g2]; exact zx0 _ _) (fun y hy=>(zrx y hy).elim) zi3.2.2.2.1 (by simp[Yq]) (by simp[Yq])).step (w':=Rp) (by
   rw[zpg g2];exact SD.mono fun y hy=>Ia _ hy)
  have Rg:=Qv dB.own s1 Qd Qd dB.base;rw[e5 _ _ rfl] at Rg;refine I3 Rg ?_;rintro e2 Rx ⟨m2,aE,Sn⟩;exact⟨_,_,_,_,_,_,_,_,_,_,aE,dB.kept Sn cJ,fun Rt Sg=>QL.ok hW hb ((dB.Sj Sn cJ).step Sg)⟩
theorem LK.pre{base pb:Nat}{ex:List Nat}{w0 w w':Wo}{W':Q8}{m m':MW}(hx:Q0 [] w0 w)(h:LK base pb ex w m w' W' m'):LK base pb ex w0 m w' W' m':=
 ⟨h.own,h.pt,hx.of_nil.trans h.ext,fun x hy=>(h.sub x hy).imp id fun hz=>IA hx.size hz⟩
theorem LK.post{base pb:Nat}{ex:List Nat}{w w' w1:Wo}{W':Q8}{m m':MW}(h:LK base pb ex w m w' W' m')(hx:Q0 [] w' w1):LK base pb ex w m w1 W' m':=
 ⟨h.own.Wi hx,QM h.pt hx Qs,h.ext.trans hx.of_nil,h.sub⟩
end
def HA(W:Q8)(t:Int):Int:=Y9 ((Q7 W t).v-(Qc W (Q7 W t).group (Q7 W t).IZ).floor) (Qf (Q7 W t).nice)
def VA(W:Q8)(t g c:Int):MM:={ Q7 W t with group:=g,IZ:=c,v:=(Qc W g c).floor+HA W t }
def Jd(W:Q8)(t g c:Int):Q8:=if (Q7 W t).state=1 then Rn (IT W t (VA W t g c)) c else IT W t (VA W t g c)
theorem Dz(W:Q8)(t:Int):0<=HA W t/\HA W t<=Qi:=by
 have lc:=ZQ ((Q7 W t).v-(Qc W (Q7 W t).group (Q7 W t).IZ).floor) (Qf (Q7 W t).nice);have lm:=Y3 (Qf (Q7 W t).nice);unfold HA;simp only[Qi];omega
theorem SF.IT{F K:Int}{W:Q8}(h:SF F K W){t:Int}(t0:0<=t)(t1:t<12){x:MM}(hx:x.state≠0->Q6 W.IC x.group=true/\0<=x.IZ/\x.IZ<(W.ID.length:Int))(v0:0<=x.v)(v1:x.v<=K):SF F K (IT W t x):=⟨h.w.IT t0 t1 hx v0 v1,h.f⟩
theorem SF.Rn{F K:Int}{W:Q8}(h:SF F K W){c:Int}(c0:0<=c)(c1:c<(W.ID.length:Int)):SF F K (Rn W c):=
 ⟨h.w.Rn c0 c1,fun k d u a b=>h.f k d u a (by
  have b:d<(((W.ID.set c.toNat (XU (gi W.ID c))).length:Nat):Int):=b
  rwa[E'] at b)⟩
theorem zpz{F K:Int}{W:Q8}(h:SF F K W)(hk:F+Qi<=K){t g c:Int}(hg:Q6 W.IC g=true)(c0:0<=c)(c1:c<(W.ID.length:Int)):0<=(VA W t g c).v/\(VA W t g c).v<=K:=by
 have hf:=h.f g c hg c0 c1;have hs:=h.w.s g c hg c0 c1;have hl:=Dz W t;show 0<=(Qc W g c).floor+HA W t/\(Qc W g c).floor+HA W t<=K;omega
theorem Cv{F K:Int}{W:Q8}(h:SF F K W)(hk:F+Qi<=K){t g c:Int}(t0:0<=t)(t1:t<12)(hg:Q6 W.IC g=true)(c0:0<=c)(c1:c<(W.ID.length:Int)):SF F K (IT W t (VA W t g c))/\SF F K (Jd W t g c):=by
 have hv:=zpz h hk (t:=t) hg c0 c1;have h1:=h.IT t0 t1 (x:=VA W t g c) (fun _=>⟨hg,c0,c1⟩) hv.1 hv.2;refine⟨h1,?_⟩;unfold Jd;split
 ·exact h1.Rn c0 c1
 ·exact h1
theorem zu9(W:Q8)(t g c:Int):(Jd W t g c).now=W.now/\(Jd W t g c).ID.length=W.ID.length/\(Jd W t g c).tasks.length=W.tasks.length/\(Jd W t g c).IC=W.IC:=by
 unfold Jd;split
 ·exact⟨rfl,by simp[Rn,RM,IT],by simp[Rn,RM,IT],rfl⟩
 ·exact⟨rfl,rfl,by simp[IT],rfl⟩
def Tv(m:Int):Int:=if QX m 0=true then 0 else if QX m 1=true then 1 else if QX m 2=true then 2 else if QX m 3=true then 3 else -1
theorem zwz:∀a:Fin 16,a.val≠0->QX (a.val:Int) (Tv (a.val:Int))=true:=by decide +kernel
theorem F5{m:Int}(h:Po m=true)(h0:m≠0):QX m (Tv m)=true:=by
 obtain⟨f,rfl⟩:=Mw h;exact zwz f fun e=>h0 (by rw[e]; rfl)
theorem z0g(gs:List ZO)(g u:Int):Po (VN gs g u)=true:=by
 unfold VN;rw[List.foldl_append];exact Cr _ _
theorem GV{W:Q8}(ha:WA W)(g mask:Int):Po (Qw W g mask)=true/\Qw W g mask≠0:=by
 unfold Qw;split
 ·rename_i h; exact⟨Cr _ _,h⟩
 ·split
  ·rename_i h;refine⟨?_,h⟩;exact z0g _ _ _
  ·exact⟨zyj ha.c2,ha.sZ⟩
theorem Kz{W:Q8}(ha:WA W)(g mask:Int):0<=Tv (Qw W g mask)/\Tv (Qw W g mask)<(W.ID.length:Int):=by
 have h:=GV ha g mask;exact LW ha (F5 h.1 h.2)
def Ph(W:Q8)(t:Int):Bool:=((Q7 W t).state != 0) && !QX (Qw W (Q7 W t).group (Q7 W t).mask) (Q7 W t).IZ
def X4(W:Q8):Nat->Q8
 | 0=>W
 | t+1=>if Ph (X4 W t) (t:Int)=true then Jd (X4 W t) (t:Int) (Q7 (X4 W t) (t:Int)).group (Tv (Qw (X4 W t) (Q7 (X4 W t) (t:Int)).group (Q7 (X4 W t) (t:Int)).mask)) else X4 W t
def P9(W:Q8):Q8:=X4 W 12
structure Nw (W W':Q8):Prop where
 n:W'.now=W.now
 c:W'.ID.length=W.ID.length
 t:W'.tasks.length=W.tasks.length
 g:W'.IC=W.IC
theorem Nw.refl(W:Q8):Nw W W:=⟨rfl,rfl,rfl,rfl⟩
theorem Nw.trans{A B C:Q8}(h:Nw A B)(k:Nw B C):Nw A C:=⟨k.n.trans h.n,k.c.trans h.c,k.t.trans h.t,k.g.trans h.g⟩
theorem Nw.put(W:Q8)(t g c:Int):Nw W (Jd W t g c):=by
 obtain⟨h1,h2,h3,h4⟩:=zu9 W t g c;exact⟨h1,h2,h3,h4⟩
theorem Cw{F K:Int}{W:Q8}(h:SF F K W)(hk:F+Qi<=K):∀t:Nat,t<=12->SF F K (X4 W t)/\Nw W (X4 W t)
 | 0,_=>⟨h,Nw.refl _⟩
 | t+1,ht=>by
  obtain⟨a,b⟩:=Cw h hk t Qo;simp only[X4];split
  ·rename_i hm;unfold Ph at hm;simp only[A',It,ne_eq] at hm;have hg:=a.w.t (t:Int) Qo Qo hm.1;have hf:=Kz a.w.a (Q7 (X4 W t) (t:Int)).group (Q7 (X4 W t) (t:Int)).mask;exact⟨(Cv a hk Qo Qo hg.1 hf.1 hf.2).2,b.trans (Nw.put _ _ _ _)⟩
  ·exact⟨a,b⟩
theorem Pq{F K:Int}{W:Q8}(h:SF F K W)(hk:F+Qi<=K):SF F K (P9 W)/\Nw W (P9 W):=Cw h hk 12 (I7 _)
end Go.Proofs.YtnclplgaicdapaaGreatDoor
