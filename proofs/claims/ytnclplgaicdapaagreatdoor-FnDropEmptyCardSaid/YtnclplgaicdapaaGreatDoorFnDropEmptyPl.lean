/- Part 12 of what the law FnDropEmpty needs. -/
import Derived.Test.YtnclplgaicdapaaGreatDoorFnDropEmptyPk
import Derived.Laws.BytesArg
set_option linter.unusedVariables false
set_option linter.unusedSimpArgs false
set_option maxRecDepth 100000
set_option maxHeartbeats 8000000
namespace Go.Proofs.YtnclplgaicdapaaGreatDoor
open Go.RowKit
theorem znm{α:Type}[Inhabited α]{l:List α}{i:Int}(h0:0<=i)(h1:i<(l.length:Int)):l.set i.toNat (gi l i)=l:=by
 obtain⟨k,rfl⟩:=Int.eq_ofNat_of_zero_le h0;rw[Jr Qo,Ih,List.set_getElem_self]
def zxy(G:Zr)(K:Int):Int:=K+1+1+1+1+1+1+1+1+1+1+1+1*(G.IT.locals.length:Int)+1*(G.IT.RI.length:Int)+5*(G.IF.length:Int)
def gK(gs:List Zr)(k:Int):Nat->Int
 | 0=>k
 | i+1=>zxy (gi gs (i:Int)) (gK gs k i)
section
variable {n base:Nat}{W:Q7}{m:MW}{w w':Wo}{G G':Zr}{i:Int}
end
def kC(W:Q7):Int:=1+5*(W.IE.length:Int)
def kT(W:Q7):Int:=kC W+9*(W.tasks.length:Int)
def mK(W:Q7):Int:=gK W.ID (kT W) W.ID.length
section
variable {n base:Nat}{W:Q7}{m:MW}{w w':Wo}{bs:List Nat}
end
def N6:Pi:=⟨0,0,0,0,0,0,0,0,0⟩
def QV(W:Q7)(t:Int):Q7:=if (gi W.IE (Q8 W t).R9).cur=t then RC W (Q8 W t).R9 else W
noncomputable def TI(W:Q7)(t:Int):Int:=if ZY W t=false then 2 else if QH W=false then 10 else 0
def Fg(W:Q7)(t:Int):Q7:=Qh (IU (QV W t) t N6)
theorem zgw{K:Int}{W:Q7}(h:SW K W){t:Int}(t0:0<=t)(t1:t<12)(n:(Q8 W t).state≠0):SW K (QV W t):=by
 unfold QV;split
 ·exact h.RC (h.t t t0 t1 n).2.1 (h.t t t0 t1 n).2.2
 ·exact h
theorem zee{W:Q7}{t:Int}(hW:Qx W=true)(hb:TI W t=0):ZY W t=true/\QH W=true/\SW Qj W/\SW Qj (IU W t N6)/\SW Qj (IU (QV W t) t N6):=by
 have wp:=Qi.1 hW;unfold TI at hb
 split at hb
 ·cases hb
 ·rename_i h1
  split at hb
  ·cases hb
  ·rename_i h3;have h1:ZY W t=true:=by simpa using h1
   have h3:QH W=true:=by simpa using h3
   have sw:=P8 wp (Qi.1 h3);obtain⟨t0,t1,n⟩:=YH h1;have hl:=wp.a.t;exact⟨h1,h3,sw,sw.IU t0 Qo (fun h=>Is rfl h) Qd Qd,(zgw sw t0 Qo n).IU t0 Qo (fun h=>Is rfl h) Qd Qd⟩
section
variable {W:Q7}{m:MW}{w:Wo}{bar:Int}
theorem Bv{t:Int}(h:Xb [] w W m)(hl:Xh W) :
  Cz T3 #[.agg (Qa W m).toArray,I t] w fun e w'=>∃v,e=.returned v/\QJ (Yp W (TI W t) (Fg W t)) w v w':=by
 refine Ba _ _ _ _ _ _ _ _ _ _ t (R:=fun v w'=>QJ (Yp W (TI W t) (Fg W t)) w v w') ?_;intro x hx x1 So wr R6 SY;refine I4 (Zb (h.ext R6) hl) ?_;rintro e wv (⟨hW,he,hy⟩ | ⟨hW,m',he,hM,hy⟩)
 ·exact⟨_,_,_,_,_,_,_,_,_,_,_,he,Qe hy SY,fun _ R2 Rm=>QJ.bad hW ((R6.trans hy).fresh Rm fun y hm=>.inl (Yv hx So y hm)),fun g=>by simp at g⟩
 have hK:=Wk.begin hx So R6 SY hM hy;have hr:=hK.rd;refine⟨_,_,_,_,_,_,_,_,_,_,_,he,Qe hy SY,fun g=>by split at g <;> simp at g,fun _=>⟨_,Jc hr hl.t,fun g O' Rm=>?_,fun g=>?_⟩⟩
 ·have g:ZY W t=false:=by simpa using g
  have hb:TI W t=2:=by unfold TI; rw[E' g]
  exact QJ.no hW (by rw[hb]; decide) (hK.step Rm) hb
 have g:ZY W t=true:=by simpa using g
 obtain⟨t0,t1,tn⟩:=YH g;have Wz:=hr.t.ix QL t0 t1;refine⟨fun g3 Ry Rm=>?_,fun g3=>?_⟩
 ·have bH:¬QH W=true:=fun hr=>by rw[E' hr] at g3; simp at g3
  have hb:TI W t=10:=by unfold TI; rw[C' (by rw[g]; decide),E' (by simpa using bH)]
  rw[C' bH];exact QJ.no hW (by rw[hb]; decide) (hK.step Rm) hb
 have bH:QH W=true:=Ir fun hr=>by rw[C' hr] at g3; simp at g3
 have hb:TI W t=0:=by unfold TI; rw[C' (by rw[g]; decide),C' (by rw[bH]; decide)]
 obtain⟨_,_,sw,sw1,sw2⟩:=zee hW hb;obtain⟨_,c0,c1⟩:=sw.t t t0 (by have:=sw.a.t; omega) tn;have SP:Y8 8 w.heap.size (RD wv m'.tO (Int.toNat t*9) (YT N6)) (IU W t N6) m':=hK.own.AE6 t0 t1 (j:=0) (vs:=YT N6) (x:=N6) rfl Qd;have hKs:=hK.RD SP LO;have e5:∀mm,Qa (IU W t N6) mm=Qa W mm:=fun mm=>by simp[Qa,IU]
 refine⟨Wz,_,hr.t.f t0 t1 (j:=2) rfl,Wz,zfv hK.own hK.nb t0 t1 (j:=0) Qd,hr.c.ix Y0 c0 c1,_,hKs.rd.c.f c0 c1 (j:=1) rfl,fun g4 RR SK kK=>?_,fun g4 RR SK kK=>?_⟩
 ·have g4:(gi (IU W t N6).IE (Q8 W t).R9).cur=t:=by simpa using g4
  have hE:Fg W t=Qh (RC (IU W t N6) (Q8 W t).R9):=by unfold Fg QV; rw[E' (show (gi W.IE (Q8 W t).R9).cur=t from g4)]; rfl
  rw[hE];have dB:=hKs.step SK;have Rn:=Zu dB.own c0 c1;rw[e5] at Rn;refine I4 Rn ?_;rintro e1 Rr ⟨kE,cY⟩;refine⟨_,_,_,_,_,_,_,_,_,_,kE,dB.kept cY kK,fun Sn cU zW=>?_⟩;have rN:=(dB.SX cY kK).step cU;refine I4 (Qu rN.own (sw1.RC c0 c1) Qd Qd rN.base) ?_;rintro e2 Rx ⟨m1,aQ,SL⟩;exact⟨_,_,_,_,_,_,_,_,_,_,aQ,rN.kept SL zW,fun SO lY=>QJ.ok hW hb ((rN.SX SL zW).step lY)⟩
 ·have g4:¬(gi (IU W t N6).IE (Q8 W t).R9).cur=t:=by simpa using g4
  have hE:Fg W t=Qh (IU W t N6):=by unfold Fg QV; rw[C' (show ¬(gi W.IE (Q8 W t).R9).cur=t from g4)]
  rw[hE];have dB:=hKs.step SK;have Rn:=Qu dB.own sw1 Qd Qd dB.base;rw[e5] at Rn;refine I4 Rn ?_;rintro e2 Rx ⟨m1,aQ,SL⟩;exact⟨_,_,_,_,_,_,_,_,_,_,aQ,dB.kept SL kK,fun SO lY=>QJ.ok hW hb ((dB.SX SL kK).step lY)⟩
end
abbrev M8(W:Q7)(t n:Int):Int:=(Qc W (Q8 W t).group (Q8 W t).R9).floor+X8 ((Q8 W t).v-(Qc W (Q8 W t).group (Q8 W t).R9).floor) (Qf n)
def XL(W:Q7)(t n:Int):Pi:={ Q8 W t with nice:=n,v:=if (Q8 W t).state=1 then M8 W t n else (Q8 W t).v }
noncomputable def Ok(W:Q7)(t n:Int):Int:=if Qf n=0 then 1 else TI W t
def KN(W:Q7)(t n:Int):Q7:=Qh (if (Q8 W t).state=1 then QV (IU W t (XL W t n)) t else IU W t (XL W t n))
theorem zld{W:Q7}{t n:Int}(h:(Q8 W t).state=1):XL W t n={ Q8 W t with nice:=n,v:=M8 W t n }:=by unfold XL; rw[E' h]
theorem zlc{W:Q7}{t n:Int}(h:¬(Q8 W t).state=1):XL W t n={ Q8 W t with nice:=n }:=by unfold XL; rw[C' h]
theorem F7{W:Q7}{t:Int}{x:Pi}(t0:0<=t)(t1:t<(W.tasks.length:Int)):Q8 (IU W t x) t=x:=by
 show gi (W.tasks.set t.toNat x) t=x;rw[QC _ _ t0 t1 t0,E' rfl]
theorem set_set{W:Q7}{t:Int}{x y:Pi}:IU (IU W t x) t y=IU W t y:=by simp[IU]
abbrev K1:Int:=Qj+Qn
structure zwa (W:Q7) (t n:Int):Prop where
 th:ZY W t=true
 room:QH W=true
 sw:SW Qj W
 f:(Q8 W t).state=1->0<=(Qc W (Q8 W t).group (Q8 W t).R9).floor/\(Qc W (Q8 W t).group (Q8 W t).R9).floor<=Qj/\0<=M8 W t n/\M8 W t n<=K1
 s1:SW K1 (IU W t (XL W t n))
 s2:SW K1 (QV (IU W t (XL W t n)) t)
theorem zle{W:Q7}{t n:Int}(hW:Qx W=true)(hb:Ok W t n=0):zwa W t n:=by
 have hw:¬Qf n=0:=fun h=>by unfold Ok at hb; rw[E' h] at hb; cases hb
 have hb:TI W t=0:=by unfold Ok at hb; rwa[C' hw] at hb
 obtain⟨h1,h3,sw,_,_⟩:=zee hW hb;obtain⟨t0,t1,tn⟩:=YH h1;have hl:=sw.a.t;have hg:=sw.t t t0 Qo tn;have hv:=sw.tv t t0 Qo;have hf:=sw.s _ _ hg.1 hg.2.1 hg.2.2;have lc:=ZW ((Q8 W t).v-(Qc W (Q8 W t).group (Q8 W t).R9).floor) (Qf n);have lm:=ZU (Qf n);have f:0<=M8 W t n/\M8 W t n<=K1:=by unfold M8; simp only[K1,Qn]; omega
 have f1:0<=(XL W t n).v/\(XL W t n).v<=K1:=by
  unfold XL
  dsimp only
  split
  ·exact f
  ·simp only[K1,Qn]; omega
 have s1:SW K1 (IU W t (XL W t n)):=(sw.mono Qd).IU t0 Qo (fun _=>hg) f1.1 f1.2;exact⟨h1,h3,sw,fun _=>⟨hf.1,hf.2.1,f⟩,s1,zgw s1 t0 Qo (by rw[F7 t0 t1]; exact tn)⟩
section
variable {W:Q7}{m:MW}{w:Wo}{bar:Int}
theorem G0{bs:List Nat}{t:Int}(h:Xb bs w W m)(t0:0<=t)(t1:t<(W.tasks.length:Int))(g0:0<=(Q8 W t).group)(g1:(Q8 W t).group<(W.ID.length:Int))(c0:0<=(Q8 W t).R9)(c1:(Q8 W t).R9<((gi W.ID (Q8 W t).group).IF.length:Int))(hr:Qq .i64 ((Q8 W t).v-(Qc W (Q8 W t).group (Q8 W t).R9).floor)) :
  PX bs Vs #[.agg (Qa W m).toArray,I t] w (I (X8 ((Q8 W t).v-(Qc W (Q8 W t).group (Q8 W t).R9).floor) (Qf (Q8 W t).nice))):=
 zbh _ _ _ _ _ _ _ _ _ _ t fun wr hx=>by
  have h:=(h.ext hx).less (cs:=[]) Qs;intro b hb;exact⟨h.t.ix QL t0 t1,_,_,_,_,_,_,_,_,_,h.t t t0 t1,fun b1 eY=>⟨h.g.ix g0 g1,_,_,_,h.g.S3 g0 g1,(h.g.IF _ g0 g1).ix ZK c0 c1,_,(h.g.IF _ g0 g1).f c0 c1 (j:=0) rfl,hr,_,ZH,_,PD,rfl⟩⟩
theorem Bz{t n:Int}(h:Xb [] w W m)(hl:Xh W) :
  Cz T5 #[.agg (Qa W m).toArray,I t,I n] w fun e w'=>∃v,e=.returned v/\QJ (Yp W (Ok W t n) (KN W t n)) w v w':=by
 refine Bd _ _ _ _ _ _ _ _ _ _ t n (R:=fun v w'=>QJ (Yp W (Ok W t n) (KN W t n)) w v w') ?_;intro x hx x1 So wr R6 SY;refine I4 (Zb (h.ext R6) hl) ?_;rintro e wv (⟨hW,he,hy⟩ | ⟨hW,m',he,hM,hy⟩)
 ·exact⟨_,_,_,_,_,_,_,_,_,_,_,he,Qe hy SY,0,fun g=>by simp at g,fun _ R2 Rm=>QJ.bad hW ((R6.trans hy).fresh Rm fun y hm=>.inl (Yv hx So y hm)),fun g=>by simp at g⟩
 have hK:=Wk.begin hx So R6 SY hM hy;have hr:=hK.rd;have uS:((if QH W=true then 0 else 10:Int)==1)=false:=by split <;> rfl
 refine⟨_,_,_,_,_,_,_,_,_,_,_,he,Qe hy SY,_,fun _=>ZH (n:=n),fun g R2 Rm=>?_,fun g0=>⟨_,Jc hr hl.t,fun g O' Rm=>?_,fun g=>?_⟩⟩
 ·rw[uS] at g;have g:Qf n=0:=by simpa using g
  have hb:Ok W t n=1:=by unfold Ok; rw[E' g]
  exact QJ.no hW (by rw[hb]; decide) (hK.step Rm) hb
 ·rw[uS] at g0;have g0:¬Qf n=0:=by simpa using g0
  have g:ZY W t=false:=by simpa using g
  have hb:Ok W t n=2:=by unfold Ok TI; rw[C' g0,E' g]
  exact QJ.no hW (by rw[hb]; decide) (hK.step Rm) hb
 rw[uS] at g0;have gw:¬Qf n=0:=by simpa using g0
 have g:ZY W t=true:=by simpa using g
 obtain⟨t0,t1,tn⟩:=YH g;have Wz:=hr.t.ix QL t0 t1;refine⟨fun g3 Ry Rm=>?_,fun g3=>?_⟩
 ·have bH:¬QH W=true:=fun hr=>by rw[E' hr] at g3; simp at g3
  have hb:Ok W t n=10:=by unfold Ok TI; rw[C' gw,C' (by rw[g]; decide),E' (by simpa using bH)]
  rw[C' bH];exact QJ.no hW (by rw[hb]; decide) (hK.step Rm) hb
 have bH:QH W=true:=Ir fun hr=>by rw[C' hr] at g3; simp at g3
 have hb:Ok W t n=0:=by unfold Ok TI; rw[C' gw,C' (by rw[g]; decide),C' (by rw[bH]; decide)]
 have hN:=zle hW hb;have sw:=hN.sw;have jV:=sw.a.t;obtain⟨hu,c0,c1⟩:=sw.t t t0 Qo tn;obtain⟨q0,q1,_⟩:=Q5.1 hu;have hsl:=sw.a.sl hu;have gV:Wk 8 [x,x1] w (RD wv m'.tO (Int.toNat t*9) (YT { Q8 W t with nice:=n })) (IU W t { Q8 W t with nice:=n }) m':=hK.RD (hK.own.AE6 t0 t1 (j:=0) (vs:=YT { Q8 W t with nice:=n }) (x:={ Q8 W t with nice:=n }) rfl (by show 0+9<=9; decide)) LO;have e5:∀x mm,Qa (IU W t x) mm=Qa W mm:=fun x mm=>by simp[Qa,IU]
 refine⟨Wz,_,_,_,_,_,_,_,_,_,hr.t t t0 t1,fun b2 cD=>⟨Wz,zfv hK.own hK.nb t0 t1 (j:=0) Qd,fun g4=>?_,fun g4 WY kW hs9=>?_⟩⟩
 ·have g4:(Q8 W t).state=1:=by simpa[Q8] using g4
  have hT:=zld (n:=n) g4;obtain⟨f0,f1,v0,v1⟩:=hN.f g4;have hv:=sw.tv t t0 Qo;have hh:Qj=50000000000000000:=rfl;have hk:K1=50000034686091440:=rfl;have tG:=gV.rd;have etk:Q8 (IU W t { Q8 W t with nice:=n }) t={ Q8 W t with nice:=n }:=F7 t0 t1;have t1':t<((IU W t { Q8 W t with nice:=n }).tasks.length:Int):=by simpa[IU] using t1
  have CS8:=G0 (t:=t) tG t0 t1' (by rw[etk]; exact q0) (by rw[etk]; exact q1) (by rw[etk]; exact c0) (by rw[etk]; show (Q8 W t).R9<(((gi W.ID (Q8 W t).group).IF.length:Nat):Int); omega) (by rw[etk]; exact⟨by show _<=(Q8 W t).v-(Qc W (Q8 W t).group (Q8 W t).R9).floor; omega,by show (Q8 W t).v-(Qc W (Q8 W t).group (Q8 W t).R9).floor<=_; omega⟩);rw[etk,e5] at CS8;have lc:=ZW ((Q8 W t).v-(Qc W (Q8 W t).group (Q8 W t).R9).floor) (Qf n);have lm:=ZU (Qf n);have SP:Y8 8 w.heap.size (RD (RD wv m'.tO (Int.toNat t*9) (YT { Q8 W t with nice:=n })) m'.tO (Int.toNat t*9) (YT { Q8 W t with nice:=n,v:=M8 W t n })) (IU (IU W t { Q8 W t with nice:=n }) t { Q8 W t with nice:=n,v:=M8 W t n }) m':=gV.own.AE6 t0 t1' (j:=0) (vs:=YT { Q8 W t with nice:=n,v:=M8 W t n }) (x:={ Q8 W t with nice:=n,v:=M8 W t n }) (by rw[show gi (IU W t { Q8 W t with nice:=n }).tasks t={ Q8 W t with nice:=n } from etk]; rfl) (by show 0+9<=9; decide);rw[set_set,<-hT] at SP;have nF:Wk 8 ([x,x1]++[b2]) w _ (IU W t (XL W t n)) m':=(hK.add cD).RD SP (LO.trans LO)
  have qB:∀vs0 vs:List Va,YT { Q8 W t with nice:=n }=vs0->YT (XL W t n)=vs->Wk 8 ([x,x1]++[b2]) w (RD (RD wv m'.tO (Int.toNat t*9) vs0) m'.tO (Int.toNat t*9) vs) (IU W t (XL W t n)) m':=fun vs0 vs h0 h1=>by
   subst h0;subst h1;rw[hT] at nF ⊢;exact nF
  have CJ2:∀y∈[x,x1],y∈[x,x1]++[b2]:=fun y hy=>Ib _ hy
  have CP8:Wk 8 [x,x1] w _ (IU W t (XL W t n)) m':=nF.sub CJ2;have Cq0:Q2 [x,x1] (RD wv m'.tO (Int.toNat t*9) (YT { Q8 W t with nice:=n })) (m'.ms (Q8 W t).group.toNat).sO (Int.toNat (Q8 W t).R9*5+0) [I (Qc W (Q8 W t).group (Q8 W t).R9).floor]:=(tG.g.IF _ q0 q1).f c0 (by show (Q8 W t).R9<(((gi W.ID (Q8 W t).group).IF.length:Nat):Int); omega) (j:=0) rfl;have ecp:(Q8 (IU W t (XL W t n)) t).R9=(Q8 W t).R9:=by rw[F7 t0 t1]; rfl
  refine⟨hr.g.ix q0 q1,_,_,_,tG.g.S3 q0 q1,(tG.g.IF _ q0 q1).ix ZK c0 (by show (Q8 W t).R9<(((gi W.ID (Q8 W t).group).IF.length:Nat):Int); omega),(Qc W (Q8 W t).group (Q8 W t).R9).floor,Cq0,X8 ((Q8 W t).v-(Qc W (Q8 W t).group (Q8 W t).R9).floor) (Qf n),CS8,⟨?_,?_⟩,Wz,zfv gV.own gV.nb t0 t1' (j:=0) Qd,hr.c.ix Y0 c0 c1,(gi W.IE (Q8 W t).R9).cur,?_,fun g5 Ry SZ fU=>?_,fun g5 SO lY hs7=>?_⟩
  ·show _<=M8 W t n; omega
  ·show M8 W t n<=_; omega
  ·rw[hT] at CP8;exact CP8.rd.c.f c0 c1 (j:=1) rfl
  ·have g5:(gi W.IE (Q8 W t).R9).cur=t:=by simpa using g5
   have hE:KN W t n=Qh (RC (IU W t (XL W t n)) (Q8 W t).R9):=by unfold KN QV; rw[E' g4,ecp,E' (show (gi (IU W t (XL W t n)).IE (Q8 W t).R9).cur=t from g5)]
   rw[hE];have dB:=(qB _ _ (by rfl) (by rw[hT]; rfl)).step (SZ.mono CJ2);have Rn:=Zu dB.own c0 c1;rw[e5] at Rn;refine I4 Rn ?_;rintro e1 Rr ⟨kE,cY⟩;refine⟨_,_,_,_,_,_,_,_,_,_,kE,dB.kept cY fU,fun Sn cU zW=>?_⟩;have rN:=(dB.SX cY fU).step cU;refine I4 (Qu rN.own (hN.s1.RC c0 c1) Qd Qd rN.base) ?_;rintro e2 Rx ⟨m1,aQ,SL⟩;exact⟨_,_,_,_,_,_,_,_,_,_,aQ,rN.kept SL zW,fun SO lY=>QJ.ok hW hb ((rN.SX SL zW).step lY)⟩
  ·have g5:¬(gi W.IE (Q8 W t).R9).cur=t:=by simpa using g5
   have hE:KN W t n=Qh (IU W t (XL W t n)):=by unfold KN QV; rw[E' g4,ecp,C' (show ¬(gi (IU W t (XL W t n)).IE (Q8 W t).R9).cur=t from g5)]
   rw[hE];have dB:=(qB _ _ (by rfl) (by rw[hT]; rfl)).step (lY.mono CJ2);have Rn:=Qu dB.own hN.s1 Qd Qd dB.base;rw[e5] at Rn;refine I4 Rn ?_;rintro e2 Rx ⟨m1,aQ,SL⟩;exact⟨_,_,_,_,_,_,_,_,_,_,aQ,dB.kept SL hs7,fun SO lY=>QJ.ok hW hb ((dB.SX SL hs7).step lY)⟩
 ·have g4:¬(Q8 W t).state=1:=by simpa[Q8] using g4
  have hE:KN W t n=Qh (IU W t (XL W t n)):=by unfold KN; rw[C' g4]
  have dX:=hN.s1;rw[hE,zlc g4];rw[zlc g4] at dX;have nF:Wk 8 ([x,x1]++[b2]) w _ (IU W t { Q8 W t with nice:=n }) m':=(hK.add cD).RD gV.own LO;have dB:=nF.step (kW.mono fun y hy=>Ib _ hy);have Rn:=Qu dB.own dX Qd Qd dB.base;rw[e5] at Rn;refine I4 Rn ?_;rintro e2 Rx ⟨m1,aQ,SL⟩;exact⟨_,_,_,_,_,_,_,_,_,_,aQ,dB.kept SL hs9,fun SO lY=>QJ.ok hW hb ((dB.SX SL hs9).step lY)⟩
end
noncomputable def Pz(W:Q7)(g:Int)(ok:Bool):Int:=if ok=false\/g=0 then 1 else if Q6 W.ID g=false then 2 else if QH W=false then 10 else 0
theorem zek{W:Q7}{g:Int}{ok:Bool}(h:Pz W g ok=0):ok=true/\g≠0/\Q6 W.ID g=true/\QH W=true:=by
 unfold Pz at h
 split at h
 ·cases h
 ·rename_i h1
  split at h
  ·cases h
  ·rename_i h2
   split at h
   ·cases h
   ·rename_i h3;exact⟨by cases ok <;> simp_all,fun e=>h1 (.inr e),by simpa using h2,by simpa using h3⟩
def ztu:Jj:=⟨0,0,0,[],[]⟩
def XK(q:Int)(n:Nat):Jj:=⟨q,q,0,List.replicate n 0,List.replicate n false⟩
def G2(q p:Int):Bool:=q==0&&p==0
def zcc(q p:Int):Bool:=G2 q p||(Yx q 1 10000&&Yx p 1 1000)
def PF(W:Q7)(g q p:Int):Zr:=if G2 q p=true then { gi W.ID g with period:=0,next:=0,IT:=ztu } else { gi W.ID g with period:=p,next:=W.now+p,IT:=XK q W.IE.length }
noncomputable def zgx(W:Q7)(g q p:Int):Int:=Pz W g (zcc q p)
def zsz(W:Q7)(g q p:Int):Q7:=Qh (Rp W g (PF W g q p))
theorem F3(n:Nat):∀k:Nat,k<=n->Um (List.replicate n (0:Int)) k=0
 | 0,_=>rfl
 | k+1,hk=>by
  simp only[Um];rw[F3 n k Qo,O8 _ _ Qo Qo]; rfl
theorem zch{q:Int}{n:Nat}(q1:1<=q)(q2:q<=10000)(n1:1<=n)(n2:n<=4):VK (XK q n):=by
 refine⟨q1,q2,by simpa[XK] using n1,by simpa[XK] using n2,by simp[XK],by simp only[XK]; omega,I3 _,by simp[XK],by simp only[XK]; omega,fun c c0 c1=>?_,?_⟩
 ·simp only[XK,List.length_replicate] at c1 ⊢;rw[O8 _ _ c0 c1,O8 _ _ c0 c1];exact⟨I3 _,Qo,fun h=>by cases h⟩
 ·simp only[XK,List.length_replicate];rw[F3 n n (I8 _)]; omega
theorem zeu{W:Q7}{g q p:Int}:(PF W g q p).used=(gi W.ID g).used/\(PF W g q p).parent=(gi W.ID g).parent/\(PF W g q p).name=(gi W.ID g).name/\(PF W g q p).IF=(gi W.ID g).IF/\(PF W g q p).weight=(gi W.ID g).weight/\(PF W g q p).IE=(gi W.ID g).IE/\(PF W g q p).sum=(gi W.ID g).sum:=by
 unfold PF; split <;> exact⟨rfl,rfl,rfl,rfl,rfl,rfl,rfl⟩
theorem SW.Rp{K:Int}{W:Q7}(h:SW K W){g:Int}{x:Zr}(hu:Q6 W.ID g=true)(u:x.used=(gi W.ID g).used)(p:x.parent=(gi W.ID g).parent)(n:x.name=(gi W.ID g).name)(s:x.IF=(gi W.ID g).IF)(hx:zh8 W g x):SW K (Rp W g x):=by
 obtain⟨u0,u1,ut⟩:=Q5.1 hu;have hl:=h.a.gl;have hT:=Jg (x:=x) u0 u1 u p n
 have es:∀k c:Int,0<=k->Qc (YtnclplgaicdapaaGreatDoor.Rp W g x) k c=Qc W k c:=fun k c k0=>by
  unfold Qc;rw[Ym u0 u1 k0];split
  ·rename_i e; subst e; rw[s]
  ·rfl
 refine⟨h.a.set u0 Qo u p n (fun hn=>by rw[u,ut] at hn; cases hn) fun _=>hx,fun t a b n=>by rw[hT.dT]; exact h.t t a b n,h.tv,fun k c uk a b=>?_,h.cu⟩;rw[hT.dT] at uk;rw[es k c (Q5.1 uk).1];exact h.s k c uk a b
theorem zpr{W:Q7}{g q p:Int}(hW:Qx W=true)(hb:zgx W g q p=0):Q6 W.ID g=true/\g≠0/\zcc q p=true/\QH W=true/\SW Qj W/\SW Qj (Rp W g (PF W g q p)):=by
 obtain⟨h1,h2,h3,h4⟩:=zek hb;have wp:=Qi.1 hW;have sw:=P8 wp (Qi.1 h4);obtain⟨u0,u1,hg⟩:=wp.a.u h3;have hl:=zeu (W:=W) (g:=g) (q:=q) (p:=p);have uS:=wp.a.c1;have hc2:=wp.a.c2;refine⟨h3,h2,h1,h4,sw,sw.Rp h3 hl.1 hl.2.1 hl.2.2.1 hl.2.2.2.1 ⟨by rw[hl.2.2.2.2.1]; exact hg.w1,by rw[hl.2.2.2.2.1]; exact hg.w2,by rw[hl.2.2.2.2.2.1]; exact hg.m,by rw[hl.2.2.2.2.2.1]; exact hg.m0,by rw[hl.2.2.2.2.2.2]; exact hg.s,by rw[hl.2.2.2.1]; exact hg.len,fun h=>Is h h2,fun hq=>?_,fun hq=>?_⟩⟩
 ·unfold PF at hq ⊢;split
  ·exact⟨show Tl ztu=true by decide,rfl,rfl⟩
  ·rename_i hn;rw[C' hn] at hq;unfold zcc at h1;rw[show G2 q p=false by simpa using hn,Bool.false_or,A'] at h1;have:=Qt.1 h1.1;have:q=0:=hq;omega
 ·unfold PF at hq ⊢;split
  ·rename_i hn;rw[E' hn] at hq;exact Is rfl hq
  ·rename_i hn;unfold zcc at h1;rw[show G2 q p=false by simpa using hn,Bool.false_or,A'] at h1;have h5:=Qt.1 h1.1;have h6:=Qt.1 h1.2;exact⟨zch h5.1 h5.2 uS hc2,by simp[XK],h6.1,h6.2,by show W.now<W.now+p; omega,by show W.now+p-W.now<=p; omega⟩
theorem zk3{W:Q7}{g q p:Int}(h:G2 q p=true):PF W g q p={ gi W.ID g with period:=0,next:=0,IT:=ztu }:=by unfold PF; rw[E' h]
theorem zgy{W:Q7}{g q p:Int}(h:G2 q p=false):PF W g q p={ gi W.ID g with period:=p,next:=W.now+p,IT:=XK q W.IE.length }:=by unfold PF; rw[C' (by rw[h]; decide)]
def K9:MG:=⟨none,0,none,0,none,0⟩
theorem zs9(base:Nat)(w:Wo):QW base w ztu K9:=⟨.inl ⟨rfl,rfl,rfl⟩,.inl ⟨rfl,rfl,rfl⟩⟩
theorem znb:∀x∈Zz K9,False:=fun x hx=>by simp[Zz,K9,Qy] at hx
section
variable {W W':Q7}{m:MW}{w:Wo}{bar:Int}
theorem zvj{b:Nat}{bs:List Nat}{w w1 w2 w3:Wo}{q:Int}{n:Nat}(s:Sc w [b] w1)(h2:Q0 [b] (w1.alloc (.cells ((List.replicate n (0:Int)).flatMap YR).toArray Qb)) w2)(dX:∀y∈[b],y<w1.heap.size)(SY:∀y∈[b],y<w2.heap.size)(h3:Q0 [b] (w2.alloc (.cells ((List.replicate n false).flatMap OH).toArray ZQ)) w3)(_:bs=[]) :
  QW w.heap.size w3 (XK q n) ⟨some ⟨w1.heap.size,0,none⟩,n,some ⟨w2.heap.size,0,none⟩,n,none,0⟩/\Q0 [] w w3:=by
 have hL0:Ob YR 1 Qb w1.heap.size [b] _ (some ⟨w1.heap.size,0,none⟩) n (List.replicate n (0:Int)):=Ob.of (Uk (enc:=YR) ZO.len Qb n (0:Int) w1) dX;have s1:=(s.R4 (QZ w1 (.cells ((List.replicate n (0:Int)).flatMap YR).toArray Qb))).step h2;have hL1:=((hL0.step h2).R4 (QZ w2 (.cells ((List.replicate n false).flatMap OH).toArray ZQ))).step h3;have hD0:Ob OH 1 ZQ w2.heap.size [b] _ (some ⟨w2.heap.size,0,none⟩) n (List.replicate n false):=Ob.of (Uk (enc:=OH) Yy.len ZQ n false w2) SY;have hD1:=hD0.step h3;have s2:=(s1.R4 (QZ w2 (.cells ((List.replicate n false).flatMap OH).toArray ZQ))).step h3;exact⟨⟨hL1.own.mono s.ext.size,hD1.own.mono s1.ext.size⟩,s2.ext⟩
theorem zs8{b:Nat}{w w1 w2 w3:Wo}{q:Int}{n:Nat}(s:Sc w [b] w1)(h2:Q0 [b] (w1.alloc (.cells ((List.replicate n false).flatMap OH).toArray ZQ)) w2)(dX:∀y∈[b],y<w1.heap.size)(SY:∀y∈[b],y<w2.heap.size)(h3:Q0 [b] (w2.alloc (.cells ((List.replicate n (0:Int)).flatMap YR).toArray Qb)) w3) :
  QW w.heap.size w3 (XK q n) ⟨some ⟨w2.heap.size,0,none⟩,n,some ⟨w1.heap.size,0,none⟩,n,none,0⟩/\Q0 [] w w3:=by
 have hL0:Ob OH 1 ZQ w1.heap.size [b] _ (some ⟨w1.heap.size,0,none⟩) n (List.replicate n false):=Ob.of (Uk (enc:=OH) Yy.len ZQ n false w1) dX;have s1:=(s.R4 (QZ w1 (.cells ((List.replicate n false).flatMap OH).toArray ZQ))).step h2;have hL1:=((hL0.step h2).R4 (QZ w2 (.cells ((List.replicate n (0:Int)).flatMap YR).toArray Qb))).step h3;have hD0:Ob YR 1 Qb w2.heap.size [b] _ (some ⟨w2.heap.size,0,none⟩) n (List.replicate n (0:Int)):=Ob.of (Uk (enc:=YR) ZO.len Qb n (0:Int) w2) SY;have hD1:=hD0.step h3;have s2:=(s1.R4 (QZ w2 (.cells ((List.replicate n (0:Int)).flatMap YR).toArray Qb))).step h3;exact⟨⟨hD1.own.mono s1.ext.size,hL1.own.mono s.ext.size⟩,s2.ext⟩
theorem KB{q:Int}{n:Nat}(hq:Yx q 1 10000=true)(hn:Yx (n:Int) 1 4=true) :
  Cz QE #[I q,I (n:Int)] w fun e w'=>∃p:MG,e=.returned (.tuple #[.agg (Z4 (XK q n) p).toArray,.bool true])/\QW w.heap.size w' (XK q n) p/\Q0 [] w w':=by
 refine(A2 q (n:Int) (R:=fun v w'=>∃p:MG,v=.tuple #[.agg (Z4 (XK q n) p).toArray,.bool true]/\QW w.heap.size w' (XK q n) p/\Q0 [] w w') ?_).mono fun e w' ⟨v,he,p,hv,h3⟩=>⟨p,by rw[he,hv],h3⟩
 have hm9:=Zc;have h4:=(Qt.1 hn).2;intro b hb;have s0:Sc w [b] w:=(Sc.start w).add hb;have k1:=Qm (n:=q) (a:=1) (b:=10000) (w:=w) (bs:=[]);have k2:=Qm (n:=(n:Int)) (a:=1) (b:=4) (w:=w) (bs:=[]);rw[hq] at k1;rw[hn] at k2;refine⟨true,k1,true,fun _=>k2,fun g=>by simp at g,fun _=>⟨fun R2 So dX=>⟨_,_,_,_,PI ZO Uo n Qo Qo R2,Qe (QZ _ _) dX,fun O' R6 SY=>⟨_,_,_,_,PI Yy Mf n Qo Qo O',Qe (QZ _ _) SY,fun Rt Rm=>?_⟩⟩,fun R2 So dX=>⟨_,_,_,_,PI Yy Mf n Qo Qo R2,Qe (QZ _ _) dX,fun O' R6 SY=>⟨_,_,_,_,PI ZO Uo n Qo Qo O',Qe (QZ _ _) SY,fun Rt Rm=>?_⟩⟩⟩⟩
 ·exact⟨_,by simp[Z4,XK],zvj (bs:=[]) (s0.R4 So) R6 dX SY Rm rfl⟩
 ·exact⟨_,by simp[Z4,XK],zs8 (s0.R4 So) R6 dX SY Rm⟩
theorem zvg{base:Nat}(h:Y8 8 base w W m){g:Int}(u0:0<=g)(u1:g<8){G:Zr}{p:MG}(hp:QW base w G.IT p)(hb:∀x∈Zz p,x∉QD 8 m)(es:G.IF=(gi W.ID g).IF){j:Nat}{vs:List Va}(he:Yb G (VS (m.ms g.toNat) p)=(Yb (gi W.ID g) (m.ms g.toNat)).take j++vs++(Yb (gi W.ID g) (m.ms g.toNat)).drop (j+vs.length))(hj:j+vs.length<=14) :
  Y8 8 base (RD w m.gO (Int.toNat g*14+j) vs) (Rp W g G) (TP m g.toNat (VS (m.ms g.toNat) p)):=
 h.Be9 u0 u1 (g:=G) (p:=VS (m.ms g.toNat) p) ⟨hp.loc,hp.RI,by rw[es]; exact(h.each u0 u1).shl⟩ (fun x hx=>by
  rcases Tp x hx with h1 | h1
  ·exact .inl (hb x h1)
  ·exact .inr h1) he hj
theorem Wk.gr{bs:List Nat}{w0:Wo}(h:Wk 8 bs w0 w W m){g:Int}(u0:0<=g)(u1:g<8){G:Zr}{p:MG}(hp:QW w0.heap.size w G.IT p)(hb:∀x∈Zz p,x∉QD 8 m/\x∉bs)(es:G.IF=(gi W.ID g).IF){j:Nat}{vs:List Va}(he:Yb G (VS (m.ms g.toNat) p)=(Yb (gi W.ID g) (m.ms g.toNat)).take j++vs++(Yb (gi W.ID g) (m.ms g.toNat)).drop (j+vs.length))(hj:j+vs.length<=14) :
  Wk 8 bs w0 (YtnclplgaicdapaaGreatDoor.RD w m.gO (Int.toNat g*14+j) vs) (Rp W g G) (TP m g.toNat (VS (m.ms g.toNat) p)):=
 ⟨h.s.call Dq fun x hx=>(h.own.lt x hx).1,⟨zvg h.own u0 u1 hp (fun x hx=>(hb x hx).1) es he hj,fun x hx=>by
  rcases V0 x hx with h1 | h1
  ·exact h.nb x h1
  ·rcases Tp x h1 with h2 | h2
   ·exact(hb x h2).2
   ·exact h.nb x (JL Qo h2)⟩⟩
theorem Ux{g:Int}{ok:Bool}(h:Xb [] w W m)(hl:Xh W) :
  Cz X1 #[.agg (Qa W m).toArray,I g,.bool ok] w fun e w'=>(Qx W=false/\e=.returned (.tuple #[.agg (Qa Mi zrj).toArray,I 1])/\Q0 [] w w')\/(Qx W=true/\∃m',e=.returned (.tuple #[.agg (Qa W m').toArray,I (Pz W g ok)])/\Y8 8 w.heap.size w' W m'/\Q0 [] w w'):=by
 refine(Bk _ _ _ _ _ _ _ _ _ _ g ok (R:=fun v w'=>(Qx W=false/\v=.tuple #[.agg (Qa Mi zrj).toArray,I 1]/\Q0 [] w w')\/(Qx W=true/\∃m',v=.tuple #[.agg (Qa W m').toArray,I (Pz W g ok)]/\Y8 8 w.heap.size w' W m'/\Q0 [] w w')) ?_).mono fun e w' ⟨v,he,h3⟩=>by
  rw[he];rcases h3 with ⟨a,b,c⟩ | ⟨a,m',b,c⟩
  ·exact .inl ⟨a,by rw[b],c⟩
  ·exact .inr ⟨a,m',by rw[b],c⟩
 intro x hx x1 So wr R6 SY;refine I4 (Zb (h.ext R6) hl) ?_;rintro e wv (⟨hW,he,hy⟩ | ⟨hW,m',he,hM,hy⟩)
 ·exact⟨_,_,_,_,_,_,_,_,_,_,_,he,Qe hy SY,fun _ R2 Rm=>.inl ⟨hW,rfl,(R6.trans hy).fresh Rm fun y hm=>.inl (Yv hx So y hm)⟩,fun g=>by simp at g⟩
 have hK:=Wk.begin hx So R6 SY hM hy;have uS:((if QH W=true then 0 else 10:Int)==1)=false:=by split <;> rfl
 refine⟨_,_,_,_,_,_,_,_,_,_,_,he,Qe hy SY,fun g1 R2 Rm=>.inr ⟨hW,m',?_,(hK.step Rm).fin⟩,fun g1=>⟨_,Yt hK.rd.g,fun g2 O' Rm=>.inr ⟨hW,m',?_,(hK.step Rm).fin⟩,fun g2 Rt Rm=>.inr ⟨hW,m',?_,(hK.step Rm).fin⟩⟩⟩
 ·have hb:Pz W g ok=1:=by
   unfold Pz;rw[E'];rw[uS] at g1
   simpa using g1
  rw[hb]; rfl
 ·rw[uS] at g1;have g1:¬(ok=false\/g=0):=by simpa using g1
  have hb:Pz W g ok=2:=by unfold Pz; rw[C' g1,E' (by simpa using g2)]
  rw[hb]; rfl
 ·rw[uS] at g1;have g1:¬(ok=false\/g=0):=by simpa using g1
  have hb:Pz W g ok=if QH W=true then 0 else 10:=by
   unfold Pz; rw[C' g1,C' (by simpa using g2)]
   cases QH W <;> rfl
  rw[hb]; rfl
theorem HQ{g q p:Int}(h:Xb [] w W m)(hl:Xh W) :
  Cz UM #[.agg (Qa W m).toArray,I g,I q,I p] w fun e w'=>∃v,e=.returned v/\QJ (Yp W (zgx W g q p) (zsz W g q p)) w v w':=by
 refine Hx _ _ _ _ _ _ _ _ _ _ g q p (R:=fun v w'=>QJ (Yp W (zgx W g q p) (zsz W g q p)) w v w') ?_;intro x hx x1 So;refine⟨_,fun _=>Qm,_,fun _ _=>Qm,fun wr R6 SY=>?_⟩;refine I4 (Ux (g:=g) (ok:=zcc q p) (h.ext R6) hl) ?_;rintro e wv (⟨hW,he,hy⟩ | ⟨hW,m',he,hM,hy⟩)
 ·exact⟨_,_,_,_,_,_,_,_,_,_,_,he,Qe hy SY,fun _ R2 Rm=>QJ.bad hW ((R6.trans hy).fresh Rm fun y hm=>.inl (Yv hx So y hm)),fun g=>by simp at g⟩
 have hK:=Wk.begin hx So R6 SY hM hy;refine⟨_,_,_,_,_,_,_,_,_,_,_,he,Qe hy SY,fun g1 R2 Rm=>QJ.no hW (by simpa[zgx] using g1) (hK.step Rm) rfl,fun g1=>?_⟩;have hb:zgx W g q p=0:=by simpa[zgx] using g1
 have hr:=hK.rd;obtain⟨hu,hz,hok,zV,sw,s1⟩:=zpr hW hb;obtain⟨u0,u1,_⟩:=Q5.1 hu;have bW:=sw.a.gl;have uS:=sw.a.c1;have hc2:=sw.a.c2;have hn1:=sw.a.n1;have hn2:=sw.a.n2;have Wz:=hr.g.ix (i:=g) u0 u1;have e5:∀G mm,mm={ m' with ms:=mm.ms }->Qa (Rp W g G) mm=Qa W m':=fun G mm hm=>by rw[hm]; simp[Qa,Rp]
 have eb:Qa W m'=Qa W m':=rfl;refine⟨Wz,_,_,_,_,_,_,_,_,_,_,_,_,_,_,_,_,_,_,_,_,hr.g.cells g u0 u1,fun b2 cD=>⟨fun g2 O' Rm gZ=>?_,fun g2=>?_⟩⟩
 ·have g2:G2 q p=false:=by unfold G2; simpa only[IC] using g2
  have hlm:Yx q 1 10000=true/\Yx p 1 1000=true:=by unfold zcc at hok; rw[g2,Bool.false_or,A'] at hok; exact hok
  have hp:=Qt.1 hlm.2;have gV:=(hK.add cD).step (Rm.mono fun y hy=>Ib _ hy);refine I4 (KB (n:=W.IE.length) hlm.1 (Qt.2 ⟨Qo,Qo⟩)) ?_;rintro e1 Rr ⟨pb,kE,hO,cY⟩;refine⟨_,_,_,_,_,_,_,_,_,_,kE,Qe cY gZ,fun b3 hb3=>⟨⟨Qo,Qo⟩,Wz,?_,fun Rt SZ fU=>?_⟩⟩
  ·exact CE (gV.R4 cY).own (gV.R4 cY).nb u0 Qo (j:=0) Qd
  have nF:=(gV.R4 cY).add hb3
  have dQ:=(nF.gr u0 Qo (G:=PF W g q p) (p:=pb) (j:=0) (vs:=Yb (PF W g q p) (VS (m'.ms g.toNat) pb)) (by rw[zgy g2]; exact hO.mono gV.base) (fun y hy=>?_) zeu.2.2.2.1 (by simp[Yb]) (by simp[Yb])).step (w':=Rt) (by
   rw[zgy g2];exact SZ.mono fun y hy=>Ib _ hy)
  ·have Rn:=Qu dQ.own s1 Qd Qd dQ.base;rw[e5 _ _ rfl] at Rn;refine I4 Rn ?_;rintro e2 Rx ⟨m2,aQ,SL⟩;exact⟨_,_,_,_,_,_,_,_,_,_,aQ,dQ.kept SL fU,fun Ry SK=>QJ.ok hW hb ((dQ.SX SL fU).step SK)⟩
  ·have:=hO.lt y hy;refine⟨fun hm=>?_,fun hm=>?_⟩
   ·have:=(gV.own.lt y hm).2; omega
   ·rcases Io.1 hm with h1 | h1
    ·have:=gZ y h1; omega
    ·have:y=b3:=by simpa using h1
     omega
 ·have g2:G2 q p=true:=by unfold G2; simpa only[I7] using g2
  refine⟨Wz,?_,fun Rt SZ fU=>?_⟩
  ·exact CE hK.own hK.nb u0 Qo (j:=0) Qd
  have nF:=hK.add cD
  have dQ:=(nF.gr u0 Qo (G:=PF W g q p) (p:=K9) (j:=0) (vs:=Yb (PF W g q p) (VS (m'.ms g.toNat) K9)) (by rw[zk3 g2]; exact zs9 _ _) (fun y hy=>(znb y hy).elim) zeu.2.2.2.1 (by simp[Yb]) (by simp[Yb])).step (w':=Rt) (by
   rw[zk3 g2];exact SZ.mono fun y hy=>Ib _ hy)
  have Rn:=Qu dQ.own s1 Qd Qd dQ.base;rw[e5 _ _ rfl] at Rn;refine I4 Rn ?_;rintro e2 Rx ⟨m2,aQ,SL⟩;exact⟨_,_,_,_,_,_,_,_,_,_,aQ,dQ.kept SL fU,fun Ry SK=>QJ.ok hW hb ((dQ.SX SL fU).step SK)⟩
theorem DD.pre{base pb:Nat}{ex:List Nat}{w0 w w':Wo}{W':Q7}{m m':MW}(hx:Q0 [] w0 w)(h:DD base pb ex w m w' W' m'):DD base pb ex w0 m w' W' m':=
 ⟨h.own,h.pt,hx.of_nil.trans h.ext,fun x hy=>(h.sub x hy).imp id fun hz=>IB hx.size hz⟩
theorem DD.post{base pb:Nat}{ex:List Nat}{w w' w1:Wo}{W':Q7}{m m':MW}(h:DD base pb ex w m w' W' m')(hx:Q0 [] w' w1):DD base pb ex w m w1 W' m':=
 ⟨h.own.bG hx,Zg h.pt hx Qs,h.ext.trans hx.of_nil,h.sub⟩
theorem Mp.swap{base pb:Nat}{bs:List Nat}{w0 w':Wo}{m0 m':MW}(h:Mp base pb bs w0 m0 w W m)(k:Y8 8 base w' W' m')(hx:Q0 (QD 8 m) w w')(hm:m'={ m with ms:=m'.ms })(Af8:∀x∈QD 8 m',x∈QD 8 m\/(w0.heap.size<=x/\x∉bs/\x≠pb))(he:Qa W' m'=Qa W m):Mp base pb bs w0 m0 w' W' m':=
 ⟨h.v.swap k hx hm fun x hy=>(Af8 x hy).imp id fun a=>⟨a.1,a.2.1⟩,by rw[he]; exact Zg h.pt hx h.pn,fun hy=>by
  rcases Af8 pb hy with h1 | h1
  ·exact h.pn h1
  ·exact h1.2.2 rfl,h.pb⟩
end
def Ew(W:Q7)(t:Int):Int:=X8 ((Q8 W t).v-(Qc W (Q8 W t).group (Q8 W t).R9).floor) (Qf (Q8 W t).nice)
def PH(W:Q7)(t g c:Int):Pi:={ Q8 W t with group:=g,R9:=c,v:=(Qc W g c).floor+Ew W t }
def UT(W:Q7)(t g c:Int):Q7:=if (Q8 W t).state=1 then RC (IU W t (PH W t g c)) c else IU W t (PH W t g c)
theorem AD(W:Q7)(t:Int):0<=Ew W t/\Ew W t<=Qn:=by
 have lc:=ZW ((Q8 W t).v-(Qc W (Q8 W t).group (Q8 W t).R9).floor) (Qf (Q8 W t).nice);have lm:=ZU (Qf (Q8 W t).nice);unfold Ew;simp only[Qn];omega
theorem SF.IU{F K:Int}{W:Q7}(h:SF F K W){t:Int}(t0:0<=t)(t1:t<12){x:Pi}(hx:x.state≠0->Q6 W.ID x.group=true/\0<=x.R9/\x.R9<(W.IE.length:Int))(v0:0<=x.v)(v1:x.v<=K):SF F K (IU W t x):=⟨h.w.IU t0 t1 hx v0 v1,h.f⟩
theorem SF.RC{F K:Int}{W:Q7}(h:SF F K W){c:Int}(c0:0<=c)(c1:c<(W.IE.length:Int)):SF F K (RC W c):=
 ⟨h.w.RC c0 c1,fun k d u a b=>h.f k d u a (by
  have b:d<(((W.IE.set c.toNat (Xx (gi W.IE c))).length:Nat):Int):=b
  rwa[H'] at b)⟩
theorem zlj{F K:Int}{W:Q7}(h:SF F K W)(hk:F+Qn<=K){t g c:Int}(hg:Q6 W.ID g=true)(c0:0<=c)(c1:c<(W.IE.length:Int)):0<=(PH W t g c).v/\(PH W t g c).v<=K:=by
 have hf:=h.f g c hg c0 c1;have hs:=h.w.s g c hg c0 c1;have hl:=AD W t;show 0<=(Qc W g c).floor+Ew W t/\(Qc W g c).floor+Ew W t<=K;omega
theorem Nk{F K:Int}{W:Q7}(h:SF F K W)(hk:F+Qn<=K){t g c:Int}(t0:0<=t)(t1:t<12)(hg:Q6 W.ID g=true)(c0:0<=c)(c1:c<(W.IE.length:Int)):SF F K (IU W t (PH W t g c))/\SF F K (UT W t g c):=by
 have hv:=zlj h hk (t:=t) hg c0 c1;have h1:=h.IU t0 t1 (x:=PH W t g c) (fun _=>⟨hg,c0,c1⟩) hv.1 hv.2;refine⟨h1,?_⟩;unfold UT;split
 ·exact h1.RC c0 c1
 ·exact h1
theorem zqk(W:Q7)(t g c:Int):(UT W t g c).now=W.now/\(UT W t g c).IE.length=W.IE.length/\(UT W t g c).tasks.length=W.tasks.length/\(UT W t g c).ID=W.ID:=by
 unfold UT;split
 ·exact⟨rfl,by simp[RC,RW,IU],by simp[RC,RW,IU],rfl⟩
 ·exact⟨rfl,rfl,by simp[IU],rfl⟩
def LJ(m:Int):Int:=if Ze m 0=true then 0 else if Ze m 1=true then 1 else if Ze m 2=true then 2 else if Ze m 3=true then 3 else -1
theorem zr8:∀a:Fin 16,a.val≠0->Ze (a.val:Int) (LJ (a.val:Int))=true:=by decide +kernel
theorem D0{m:Int}(h:Ow m=true)(h0:m≠0):Ze m (LJ m)=true:=by
 obtain⟨f,rfl⟩:=Pl h;exact zr8 f fun e=>h0 (by rw[e]; rfl)
theorem zvr(gs:List Zr)(g u:Int):Ow (V7 gs g u)=true:=by
 unfold V7;rw[List.foldl_append];exact Nh _ _
theorem L5{W:Q7}(ha:WA W)(g mask:Int):Ow (Qv W g mask)=true/\Qv W g mask≠0:=by
 unfold Qv;split
 ·rename_i h; exact⟨Nh _ _,h⟩
 ·split
  ·rename_i h;refine⟨?_,h⟩;exact zvr _ _ _
  ·exact⟨ztq ha.c2,ha.ups⟩
theorem Lv{W:Q7}(ha:WA W)(g mask:Int):0<=LJ (Qv W g mask)/\LJ (Qv W g mask)<(W.IE.length:Int):=by
 have h:=L5 ha g mask;exact Kn ha (D0 h.1 h.2)
def KK(W:Q7)(t:Int):Bool:=((Q8 W t).state != 0) && !Ze (Qv W (Q8 W t).group (Q8 W t).mask) (Q8 W t).R9
def JN(W:Q7):Nat->Q7
 | 0=>W
 | t+1=>if KK (JN W t) (t:Int)=true then UT (JN W t) (t:Int) (Q8 (JN W t) (t:Int)).group (LJ (Qv (JN W t) (Q8 (JN W t) (t:Int)).group (Q8 (JN W t) (t:Int)).mask)) else JN W t
def LN(W:Q7):Q7:=JN W 12
structure Fs (W W':Q7):Prop where
 n:W'.now=W.now
 c:W'.IE.length=W.IE.length
 t:W'.tasks.length=W.tasks.length
 g:W'.ID=W.ID
theorem Fs.refl(W:Q7):Fs W W:=⟨rfl,rfl,rfl,rfl⟩
theorem Fs.trans{A B C:Q7}(h:Fs A B)(k:Fs B C):Fs A C:=⟨k.n.trans h.n,k.c.trans h.c,k.t.trans h.t,k.g.trans h.g⟩
theorem Fs.put(W:Q7)(t g c:Int):Fs W (UT W t g c):=by
 obtain⟨h1,h2,h3,h4⟩:=zqk W t g c;exact⟨h1,h2,h3,h4⟩
theorem zfe{F K:Int}{W:Q7}(h:SF F K W)(hk:F+Qn<=K):∀t:Nat,t<=12->SF F K (JN W t)/\Fs W (JN W t)
 | 0,_=>⟨h,Fs.refl _⟩
 | t+1,ht=>by
  obtain⟨a,b⟩:=zfe h hk t Qo;simp only[JN];split
  ·rename_i hm;unfold KK at hm;simp only[A',Iu,ne_eq] at hm;have hg:=a.w.t (t:Int) Qo Qo hm.1;have hf:=Lv a.w.a (Q8 (JN W t) (t:Int)).group (Q8 (JN W t) (t:Int)).mask;exact⟨(Nk a hk Qo Qo hg.1 hf.1 hf.2).2,b.trans (Fs.put _ _ _ _)⟩
  ·exact⟨a,b⟩
theorem Lm{F K:Int}{W:Q7}(h:SF F K W)(hk:F+Qn<=K):SF F K (LN W)/\Fs W (LN W):=zfe h hk 12 (I8 _)
theorem zs3{m:Int}{k:Nat}(h4:k<4)(i':∀j:Nat,j<k->Ze m (j:Int)=false)(h:Ze m (k:Int)=true):LJ m=(k:Int):=by
 have h0:=i' 0;have h1:=i' 1;have h2:=i' 2;have:k=0\/k=1\/k=2\/k=3:=Qo;unfold LJ;rcases this with rfl | rfl | rfl | rfl
 ·rw[E' (show Ze m 0=true from h)]; rfl
 ·rw[C' (by rw[show Ze m 0=false from h0 Qd]; decide),E' (show Ze m 1=true from h)]; rfl
 ·rw[C' (by rw[show Ze m 0=false from h0 Qd]; decide),C' (by rw[show Ze m 1=false from h1 Qd]; decide),E' (show Ze m 2=true from h)]; rfl
 ·rw[C' (by rw[show Ze m 0=false from h0 Qd]; decide),C' (by rw[show Ze m 1=false from h1 Qd]; decide),C' (by rw[show Ze m 2=false from h2 Qd]; decide),E' (show Ze m 3=true from h)]; rfl
theorem zs4{m:Int}(i':∀j:Nat,j<4->Ze m (j:Int)=false):LJ m = -1:=by
 unfold LJ;rw[C' (by rw[show Ze m 0=false from i' 0 Qd]; decide),C' (by rw[show Ze m 1=false from i' 1 Qd]; decide),C' (by rw[show Ze m 2=false from i' 2 Qd]; decide),C' (by rw[show Ze m 3=false from i' 3 Qd]; decide)]
section
variable {base:Nat}{W W':Q7}{m:MW}{w:Wo}{bar:Int}
theorem M1{x:Int}{bs:List Nat}:PX bs Jo #[I x] w (I (LJ x)):=
 EP x fun wr hx=>by
  refine Xg 4 0 rfl (fun k=>k<=4/\∀j:Nat,j<k->Ze x (j:Int)=false) ⟨Qd,fun j hj=>Is hj (Nat.not_lt_zero j)⟩ fun k ⟨hk,i'⟩=>⟨fun IQ=>?_,fun RH=>?_⟩
  ·have IQ:=Ot IQ;refine⟨_,ZT,fun g=>?_,fun g=>⟨⟨Qo,Qo⟩,QA Qo ⟨Qo,fun j hj=>?_⟩⟩⟩
   ·rw[zs3 Qo i' g]
   ·by_cases e:j=k
    ·rw[e]; exact g
    ·exact i' j Qo
  ·have RH:=Ou RH;have:k=4:=Qo;subst this;rw[zs4 i']
theorem HH(W:Q7)(t:Int)(x:Pi)(m:MW):Qa (IU W t x) m=Qa W m:=by simp[Qa,IU]
theorem Uh{F K:Int}(h:Y8 8 base w W m)(pU:SF F K W)(hk:F+Qn<=K)(hK:K<=1000000000000000000){t g c:Int}(t0:0<=t)(t1:t<12)(hs:(Q8 W t).state≠0)(hg:Q6 W.ID g=true)(c0:0<=c)(c1:c<(W.IE.length:Int)) :
  Cz X5 #[.agg (Qa W m).toArray,I t,I g,I c] w fun e w'=>e=.returned (.agg (Qa W m).toArray)/\Mv 8 base [] w m w' (UT W t g c) m:=by
 refine(zai _ _ _ _ _ _ _ _ _ _ t g c (R:=fun v w'=>v=.agg (Qa W m).toArray/\Mv 8 base [] w m w' (UT W t g c) m) ?_).mono fun e w' ⟨v,he,hv,h3⟩=>⟨by rw[he,hv],h3⟩
 intro y hy y1 cY;obtain⟨g0,g1,_⟩:=Q5.1 hg;have jV:=pU.w.a.t;have bW:=pU.w.a.gl;have hsl:=pU.w.a.sl hg;have zO:t<(W.tasks.length:Int):=Qo;obtain⟨hu,d0,d1⟩:=pU.w.t t t0 t1 hs;obtain⟨q0,q1,_⟩:=Q5.1 hu;have hql:=pU.w.a.sl hu;have s1:=pU.w.s g c hg c0 c1;have s2:=pU.w.s _ _ hu d0 d1;have hv:=pU.w.tv t t0 t1;have hlr:=AD W t;simp only[Qn] at hlr;have hM:=Mv.two h hy cY;have hr:=(Mv.start h).rd;have Wz:=hr.t.ix QL t0 zO;have SP:=h.AE6 t0 zO (j:=0) (vs:=YT (PH W t g c)) (x:=PH W t g c) (by simp[YT]) (by simp[YT]);have e5:Qa (IU W t (PH W t g c)) m=Qa W m:=HH _ _ _ _;have e6:Qa (RC (IU W t (PH W t g c)) c) m=Qa W m:=(Om (Aj _ _)).trans e5;refine⟨Ew W t,G0 hr t0 zO q0 q1 d0 Qo ⟨by show _<=(Q8 W t).v-(Qc W (Q8 W t).group (Q8 W t).R9).floor; omega,by show (Q8 W t).v-(Qc W (Q8 W t).group (Q8 W t).R9).floor<=_; omega⟩,Wz,_,_,_,_,_,_,_,_,_,hr.t t t0 zO,fun b2 cD=>⟨hr.g.ix g0 g1,_,_,_,hr.g.S3 g0 g1,(hr.g.IF g g0 g1).ix ZK c0 Qo,(Qc W g c).floor,zh7.f (hr.g.IF g g0 g1) c0 Qo (j:=0) rfl,⟨Qo,Qo⟩,Wz,zfv h Qs t0 zO (j:=0) Qd,fun g4 wr hx fU=>?_,fun g4 wr hx=>⟨rfl,?_⟩⟩⟩
 ·have g4:(Q8 W t).state=1:=Iz g4;have cX:=((hM.add cD).SX SP LO).step (hx.of_nil);have Rn:=Zu cX.own (W:=IU W t (PH W t g c)) c0 c1;rw[e5,e6] at Rn;refine I4 Rn ?_;rintro e wv ⟨kE,SL⟩;refine⟨_,_,_,_,_,_,_,_,_,_,kE,cX.kept SL fU,fun O' SZ=>⟨rfl,?_⟩⟩;unfold UT;rw[E' g4];exact((cX.call SL fU).step SZ).close
 ·have g4:¬(Q8 W t).state=1:=ne_of_beq_false g4;unfold UT;rw[C' g4];exact((Mv.start h).SX SP LO).R4 hx
theorem XX{F K:Int}(h:Y8 8 base w W m)(pU:SF F K W)(hk:F+Qn<=K)(hK:K<=1000000000000000000) :
  Cz Y9 #[.agg (Qa W m).toArray] w fun e w'=>e=.returned (.agg (Qa W m).toArray)/\Mv 8 base [] w m w' (LN W) m:=by
 refine(Gr _ _ _ _ _ _ _ _ _ _ (R:=fun v w'=>v=.agg (Qa W m).toArray/\Mv 8 base [] w m w' (LN W) m) ?_).mono fun e w' ⟨v,he,hv,h3⟩=>⟨by rw[he,hv],h3⟩
 intro y hy y1 cY;have jV:=pU.w.a.t;refine⟨fun vs w1=>∃(k:Nat),vs=I (k:Int)::Qa W m/\k<=12/\Mv 8 base [y,y1] w m w1 (JN W k) m,Zo 12 0,fun w1 uV _=>⟨0,rfl,Qd,(Mv.two h hy cY).R4 uV⟩,?_⟩;rintro c1 l RZ Sa Sh S9 Sf Sg S4 S5 S7 Rx SY ⟨k,he,uF,hM⟩;obtain⟨hS,hF⟩:=zfe pU hk k uF;have aL:JN W (k+1)=if KK (JN W k) (k:Int)=true then UT (JN W k) (k:Int) (Q8 (JN W k) (k:Int)).group (LJ (Qv (JN W k) (Q8 (JN W k) (k:Int)).group (Q8 (JN W k) (k:Int)).mask)) else JN W k:=rfl;have AD7:k=12->LN W=JN W k:=fun e=>by rw[e]; rfl
 have e0:Qa (JN W k) m=Qa W m:=by simp only[Qa,hF.n,hF.c,hF.t,hF.g]
 have eC:=hF.c;have eT:=hF.t;simp only[Qa,I5,I6,Iw,true_and,and_true] at he;obtain⟨rfl,rfl,⟨rfl,rfl,rfl⟩,⟨rfl,rfl,rfl⟩,rfl,rfl,rfl⟩:=he;generalize JN W k=V at hM hS hF aL AD7 e0 eC eT;have hr:=hM.rd;refine⟨fun IQ=>?_,fun RH w3 Rm=>⟨rfl,?_⟩⟩
 ·have IQ:=Ot IQ;have t1:(k:Int)<(V.tasks.length:Int):=Qo;have Wz:Ix m.tO W.tasks.length (k:Int):=by have:=hr.t.ix QL (i:=(k:Int)) Qo t1; rwa[eT] at this
  have next:∀{w9 w8:Wo},Q0 [y,y1] Rx w9->KK V (k:Int)=false->(∃(k':Nat),[I ((k:Int)+1),I W.now,.slice m.cO W.IE.length m.cC,.slice m.tO W.tasks.length m.tC,.slice m.gO W.ID.length m.gC]=I (k':Int)::Qa W m/\k'<=12/\Mv 8 base [y,y1] w m w9 (JN W k') m)/\Zo 12 0 [I ((k:Int)+1),I W.now,.slice m.cO W.IE.length m.cC,.slice m.tO W.tasks.length m.tC,.slice m.gO W.ID.length m.gC] w9<Zo 12 0 [I (k:Int),I W.now,.slice m.cO W.IE.length m.cC,.slice m.tO W.tasks.length m.tC,.slice m.gO W.ID.length m.gC] w8:=fun {w9 w8} hx hm=>by
   refine⟨⟨k+1,rfl,Qo,?_⟩,?_⟩
   ·rw[aL,C' (by rw[hm]; decide)];exact hM.step hx
   ·simp only[Zo,Xl,Y5,Ig]; omega
  refine⟨Wz,_,zrh.f hr.t Qo t1 (j:=0) rfl,fun g=>⟨⟨Qo,Qo⟩,fun Ry SZ _=>next SZ (by unfold KK; rw[show (Q8 V (k:Int)).state=0 from Iz g]; rfl)⟩,fun g=>?_⟩;have qB:(Q8 V (k:Int)).state≠0:=ne_of_beq_false g;obtain⟨hu,d0,d1⟩:=hS.w.t (k:Int) Qo Qo qB;have hwh:=XH (g:=(Q8 V (k:Int)).group) (mask:=(Q8 V (k:Int)).mask) hr hS.w.a.c2 hS.w.a.tree hu;rw[e0] at hwh;have hf:=Lv hS.w.a (Q8 V (k:Int)).group (Q8 V (k:Int)).mask;refine⟨Wz,_,zrh.f hr.t Qo t1 (j:=1) rfl,Wz,_,zrh.f hr.t Qo t1 (j:=4) rfl,_,hwh,Wz,_,zrh.f hr.t Qo t1 (j:=2) rfl,_,ZT,fun g2=>⟨Wz,_,zrh.f hr.t Qo t1 (j:=1) rfl,_,M1,fun RR SK kK=>?_⟩,fun g2=>⟨⟨Qo,Qo⟩,fun Ry SZ _=>next SZ (by unfold KK; rw[show Ze (Qv V (Q8 V (k:Int)).group (Q8 V (k:Int)).mask) (Q8 V (k:Int)).R9=true from (by have h:=g2; rw[I7] at h; exact h)]; simp)⟩⟩;have hM5:=hM.step SK;have Rn:=Uh hM5.own hS hk hK (t:=(k:Int)) (g:=(Q8 V (k:Int)).group) (c:=LJ (Qv V (Q8 V (k:Int)).group (Q8 V (k:Int)).mask)) Qo Qo qB hu hf.1 hf.2;rw[e0] at Rn;refine I4 Rn ?_;rintro e1 Sk ⟨kE,jW⟩;refine⟨_,_,_,_,_,_,_,_,_,_,kE,hM5.kept jW kK,⟨Qo,Qo⟩,fun Sn cU _=>⟨⟨k+1,rfl,Qo,?_⟩,?_⟩⟩
  ·have hm:KK V (k:Int)=true:=by
    unfold KK;rw[A'];exact⟨by simpa using qB,g2⟩
   rw[aL,E' hm];exact(hM5.call jW kK).step cU
  ·simp only[Zo,Xl,Y5,Ig]; omega
 ·have RH:=Ou RH;rw[AD7 Qo];exact(hM.step Rm).close
section
variable {pb:Nat}
end
end
theorem Me{W:Q7}(sw:SW Qj W):SF Qj (Qj+Qn) W:=sw.sf.mono (I3 _) (by simp only[Qn]; decide)
noncomputable def GR(W:Q7)(t x:Int):Int:=if Ow x=false\/x=0 then 1 else if ZY W t=false then 2 else if QH W=false then 10 else 0
def zjg(W:Q7)(t x:Int):Pi:={ Q8 W t with mask:=x }
def zqi(W:Q7)(t x:Int):Q7:=Qh (LN (IU W t (zjg W t x)))
theorem zqj{W:Q7}{t x:Int}(hW:Qx W=true)(hb:GR W t x=0):ZY W t=true/\SF Qj (Qj+Qn) W/\SF Qj (Qj+Qn) (IU W t (zjg W t x)):=by
 have wp:=Qi.1 hW;unfold GR at hb
 split at hb
 ·cases hb
 ·split at hb
  ·cases hb
  ·rename_i h2
   split at hb
   ·cases hb
   ·rename_i h3;have h1:ZY W t=true:=by simpa using h2
    have h3:QH W=true:=by simpa using h3
    have sw:=P8 wp (Qi.1 h3);obtain⟨t0,t1,n⟩:=YH h1;have hl:=wp.a.t;have hv:=sw.tv t t0 Qo;exact⟨h1,Me sw,Me (sw.IU t0 Qo (fun _=>sw.t t t0 Qo n) hv.1 hv.2)⟩
theorem HG{W:Q7}{m:MW}{F K:Int}(sf:SF F K W)(hk:F+Qn<=K):Qa (LN W) m=Qa W m:=by
 have hF:=(Lm sf hk).2;simp only[Qa,hF.n,hF.c,hF.t,hF.g]
section
variable {base pb:Nat}{W W':Q7}{m:MW}{w:Wo}{bar:Int}
theorem Az{t x:Int}(h:Xb [] w W m)(hl:Xh W) :
  Cz O3 #[.agg (Qa W m).toArray,I t,I x] w fun e w'=>∃v,e=.returned v/\QJ (Yp W (GR W t x) (zqi W t x)) w v w':=by
 refine A3 _ _ _ _ _ _ _ _ _ _ t x (R:=fun v w'=>QJ (Yp W (GR W t x) (zqi W t x)) w v w') ?_;intro y hy y1 cY wr R6 SY;refine I4 (Zb (h.ext R6) hl) ?_;rintro e wv (⟨hW,he,SL⟩ | ⟨hW,m',he,hM,SL⟩)
 ·exact⟨_,_,_,_,_,_,_,_,_,_,_,he,Qe SL SY,false,fun g=>by simp at g,fun _ R2 Rm=>QJ.bad hW ((R6.trans SL).fresh Rm fun z hm=>.inl (Yv hy cY z hm)),fun g=>by simp at g⟩
 have hK:=Wk.begin hy cY R6 SY hM SL;have hr:=hK.rd;have uS:((if QH W=true then 0 else 10:Int)==1)=false:=by split <;> rfl
 refine⟨_,_,_,_,_,_,_,_,_,_,_,he,Qe SL SY,_,fun _=>YY,fun g R2 Rm=>?_,fun g0=>⟨_,Jc hr hl.t,fun g O' Rm=>?_,fun g=>⟨fun g3 Ry Rm=>?_,fun g3=>?_⟩⟩⟩
 ·rw[uS] at g;have g:Ow x=false\/x=0:=by simpa using g
  have hb:GR W t x=1:=by unfold GR; rw[E' g]
  exact QJ.no hW (by rw[hb]; decide) (hK.step Rm) hb
 ·rw[uS] at g0;have g0:¬(Ow x=false\/x=0):=by simpa using g0
  have g:ZY W t=false:=by simpa using g
  have hb:GR W t x=2:=by unfold GR; rw[C' g0,E' g]
  exact QJ.no hW (by rw[hb]; decide) (hK.step Rm) hb
 ·rw[uS] at g0;have g0:¬(Ow x=false\/x=0):=by simpa using g0
  have g:ZY W t=true:=by simpa using g
  have bH:¬QH W=true:=fun hr=>by rw[E' hr] at g3; simp at g3
  have hb:GR W t x=10:=by unfold GR; rw[C' g0,C' (by rw[g]; decide),E' (by simpa using bH)]
  rw[C' bH];exact QJ.no hW (by rw[hb]; decide) (hK.step Rm) hb
 rw[uS] at g0;have g0:¬(Ow x=false\/x=0):=by simpa using g0
 have g:ZY W t=true:=by simpa using g
 have bH:QH W=true:=Ir fun hr=>by rw[C' hr] at g3; simp at g3
 have hb:GR W t x=0:=by unfold GR; rw[C' g0,C' (by rw[g]; decide),C' (by rw[bH]; decide)]
 obtain⟨_,sf0,sf⟩:=zqj hW hb;obtain⟨t0,t1,tn⟩:=YH g;have SP:Wk 8 [y,y1] w (RD wv m'.tO (Int.toNat t*9+4) [I x]) (IU W t (zjg W t x)) m':=hK.RD (hK.own.AE6 t0 t1 (j:=4) (vs:=[I x]) (x:=zjg W t x) rfl Qs) LO;refine⟨hr.t.ix QL t0 t1,zfv hK.own hK.nb t0 t1 (j:=4) Qd,fun Ry SZ fU=>?_⟩;have e5:Qa (IU W t (zjg W t x)) m'=Qa W m':=HH _ _ _ _;have hE:zqi W t x=Qh (LN (IU W t (zjg W t x))):=rfl;rw[hE];generalize IU W t (zjg W t x)=V at SP sf e5;have dQ:=SP.step SZ;have Rn:=XX dQ.own sf (I3 _) (by simp only[Qn]; decide);rw[e5] at Rn;refine I4 Rn ?_;rintro e1 Rr ⟨kE,jW⟩;refine⟨_,_,_,_,_,_,_,_,_,_,kE,dQ.kept jW fU,fun RR SK kK=>?_⟩;have dB:=(dQ.SX jW fU).step SK;have aG:=Qu dB.own (Lm sf (I3 _)).1.w (by simp only[Qn]; decide) (by simp only[Qn]; decide) dB.base;rw[HG sf (I3 _),e5] at aG;refine I4 aG ?_;rintro e2 Rx ⟨m2,aQ,kR⟩;exact⟨_,_,_,_,_,_,_,_,_,_,aQ,dB.kept kR kK,fun Sn cU=>QJ.ok hW hb ((dB.SX kR kK).step cU)⟩
def zej(W:Q7)(g x:Int):Zr:={ gi W.ID g with IE:=x }
noncomputable def zgl(W:Q7)(g x:Int):Int:=Pz W g (Ow x&&(x != 0))
def zo7(W:Q7)(g x:Int):Q7:=Qh (LN (Rp W g (zej W g x)))
theorem zo8{W:Q7}{g x:Int}(hW:Qx W=true)(hb:zgl W g x=0):Q6 W.ID g=true/\QH W=true/\SF Qj (Qj+Qn) W/\SF Qj (Qj+Qn) (Rp W g (zej W g x))/\QX W.ID (Rp W g (zej W g x)).ID:=by
 obtain⟨h1,h2,h3,h4⟩:=zek hb;have wp:=Qi.1 hW;have sw:=P8 wp (Qi.1 h4);obtain⟨u0,u1,hg⟩:=wp.a.u h3;have hl:=wp.a.gl;simp only[A',Iu,ne_eq] at h1;exact⟨h3,h4,Me sw,Me (sw.Rp (x:=zej W g x) h3 rfl rfl rfl rfl ⟨hg.w1,hg.w2,h1.1,h1.2,hg.s,hg.len,fun h=>Is h h2,hg.none,hg.IT⟩),Jg u0 Qo rfl rfl rfl⟩
theorem Bu{g x:Int}(h:Xb [] w W m)(hl:Xh W) :
  Cz T2 #[.agg (Qa W m).toArray,I g,I x] w fun e w'=>∃v,e=.returned v/\QJ (Yp W (zgl W g x) (zo7 W g x)) w v w':=by
 refine B9 _ _ _ _ _ _ _ _ _ _ g x (R:=fun v w'=>QJ (Yp W (zgl W g x) (zo7 W g x)) w v w') ?_;intro y hy y1 cY;refine⟨_,YY,fun wr R6 SY=>?_⟩;refine I4 (Ux (g:=g) (ok:=Ow x&&(x != 0)) (h.ext R6) hl) ?_;rintro e wv (⟨hW,he,SL⟩ | ⟨hW,m',he,hM,SL⟩)
 ·exact⟨_,_,_,_,_,_,_,_,_,_,_,he,Qe SL SY,fun _ R2 Rm=>QJ.bad hW ((R6.trans SL).fresh Rm fun z hm=>.inl (Yv hy cY z hm)),fun g=>by simp at g⟩
 have hK:=Wk.begin hy cY R6 SY hM SL;refine⟨_,_,_,_,_,_,_,_,_,_,_,he,Qe SL SY,fun g1 R2 Rm=>QJ.no hW (by simpa[zgl] using g1) (hK.step Rm) rfl,fun g1=>?_⟩;have hb:zgl W g x=0:=by simpa[zgl] using g1
 have hr:=hK.rd;obtain⟨hu,zV,sf0,sf,hT⟩:=zo8 hW hb;obtain⟨u0,u1,_⟩:=Q5.1 hu;have bW:=sf0.w.a.gl;have SP:Wk 8 [y,y1] w (RD wv m'.gO (Int.toNat g*14+4) [I x]) (Rp W g (zej W g x)) m':=hK.RD (hK.own.BE3 u0 Qo (g:=zej W g x) rfl rfl rfl (j:=4) (vs:=[I x]) rfl Qs) Dq;refine⟨hr.g.ix (i:=g) u0 u1,CE hK.own hK.nb (i:=g) u0 Qo (j:=4) (k:=1) Qd,fun Ry SZ fU=>?_⟩;have e5:Qa (Rp W g (zej W g x)) m'=Qa W m':=by simp[Qa,Rp]
 have hE:zo7 W g x=Qh (LN (Rp W g (zej W g x))):=rfl;rw[hE];generalize Rp W g (zej W g x)=V at SP sf e5;have dQ:=SP.step SZ;have Rn:=XX dQ.own sf (I3 _) (by simp only[Qn]; decide);rw[e5] at Rn;refine I4 Rn ?_;rintro e1 Rr ⟨kE,jW⟩;refine⟨_,_,_,_,_,_,_,_,_,_,kE,dQ.kept jW fU,fun RR SK kK=>?_⟩;have dB:=(dQ.SX jW fU).step SK;have aG:=Qu dB.own (Lm sf (I3 _)).1.w (by simp only[Qn]; decide) (by simp only[Qn]; decide) dB.base;rw[HG sf (I3 _),e5] at aG;refine I4 aG ?_;rintro e2 Rx ⟨m2,aQ,kR⟩;exact⟨_,_,_,_,_,_,_,_,_,_,aQ,dB.kept kR kK,fun Sn cU=>QJ.ok hW hb ((dB.SX kR kK).step cU)⟩
end
def zv3(W:Q7)(c:Int)(j:Nat):Bool:=((Q8 W (j:Int)).state==1)&&((Q8 W (j:Int)).R9==c)
def zfd(W:Q7)(c:Int)(j:Nat):Int:=if zv3 W c j=true then 1 else 0
def zer(W:Q7)(c:Int)(j:Nat):Int:=if zv3 W c j=true then (Q8 W (j:Int)).load else 0
def zhf(W:Q7)(c:Int):Int:=XR (zfd W c) W.tasks.length
def zes(W:Q7)(c:Int):Int:=XR (zer W c) W.tasks.length
def zs1(W:Q7)(a b:Int):Bool:=decide (zes W a<zes W b)||((zes W a==zes W b)&&decide (zhf W a<zhf W b))
def P5(W:Q7)(m:Int):Nat->Int
 | 0 => -1
 | k+1=>if (Ze m (k:Int)&&(decide (P5 W m k<0)||zs1 W (k:Int) (P5 W m k)))=true then (k:Int) else P5 W m k
def Pe(W:Q7)(m:Int):Int:=P5 W m W.IE.length
theorem zhd{W:Q7}{m:Int}{k:Nat}(h:(Ze m (k:Int)&&(decide (P5 W m k<0)||zs1 W (k:Int) (P5 W m k)))=true):P5 W m (k+1)=(k:Int):=E' h
theorem zli{W:Q7}{m:Int}{k:Nat}(h:(Ze m (k:Int)&&(decide (P5 W m k<0)||zs1 W (k:Int) (P5 W m k)))=false):P5 W m (k+1)=P5 W m k:=C' (by rw[h]; decide)
theorem Ch(W:Q7)(m:Int):∀k:Nat,-1<=P5 W m k/\P5 W m k<(k:Int)/\(0<=P5 W m k->Ze m (P5 W m k)=true)
 | 0=>⟨I3 _,by show (-1:Int)<0; decide,fun h=>by have:(0:Int)<=-1:=h; omega⟩
 | k+1=>by
  have ih:=Ch W m k;simp only[P5];split
  ·rename_i h;simp only[A'] at h;exact⟨Qo,Qo,fun _=>h.1⟩
  ·exact⟨ih.1,Qo,ih.2.2⟩
theorem zcp{W:Q7}{m:Int}{j:Nat}(h:Ze m (j:Int)=true):∀k:Nat,j<k->0<=P5 W m k
 | 0,hk=>Is hk (Nat.not_lt_zero j)
 | k+1,hk=>by
  by_cases e:j=k
  ·subst e
   by_cases hn:P5 W m j<0
   ·rw[zhd (by rw[h,Ii hn]; rfl)]; omega
   ·simp only[P5]; split <;> omega
  ·have:=zcp (W:=W) h k Qo;simp only[P5]
   split <;> omega
theorem zvs{W:Q7}(ha:WA W){m:Int}(hm:Ow m=true)(h0:m≠0)(hs:∀c:Int,Ze m c=true->0<=c/\c<(W.IE.length:Int)):0<=Pe W m/\Pe W m<(W.IE.length:Int)/\Ze m (Pe W m)=true:=by
 have hf:=D0 hm h0;have hr:=hs _ hf;have e:((LJ m).toNat:Int)=LJ m:=Qo;have h1:=zcp (W:=W) (m:=m) (j:=(LJ m).toNat) (by rw[e]; exact hf) W.IE.length Qo;have h2:=Ch W m W.IE.length;exact⟨h1,h2.2.1,h2.2.2 h1⟩
theorem Lk{W:Q7}(ha:WA W)(g mask:Int):0<=Pe W (Qv W g mask)/\Pe W (Qv W g mask)<(W.IE.length:Int)/\Ze (Qv W g mask) (Pe W (Qv W g mask))=true:=
 zvs ha (L5 ha g mask).1 (L5 ha g mask).2 fun _ h=>Kn ha h
def GE(m:Int):Nat->Int
 | 0=>0
 | k+1=>if Ze m (k:Int)=true then GE m k+1 else GE m k
theorem AJ(m:Int):∀k:Nat,0<=GE m k/\GE m k<=(k:Int)
 | 0=>by simp[GE]
 | k+1=>by
  have:=AJ m k;simp only[GE]
  split <;> omega
def zw6(W:Q7):Prop:=∀t:Int,0<=t->t<12->0<=(Q8 W t).load/\(Q8 W t).load<=8000000
theorem zpq{W:Q7}(wp:XA W):zw6 W:=fun t t0 t1=>by
 rcases wp.t t t0 t1 with h | ⟨_,h⟩
 ·rw[h.2]; decide
 ·exact⟨h.l1,h.l2⟩
theorem zjn(W:Q7)(c:Int)(j:Nat):0<=zfd W c j/\zfd W c j<=1:=by unfold zfd; split <;> omega
theorem zjo{W:Q7}(c:Int)(k:Nat):0<=XR (zfd W c) k/\XR (zfd W c) k<=(k:Int)*1:=UX (zjn W c) k
theorem AE{W:Q7}(hl:zw6 W)(c:Int):∀k:Nat,k<=12->0<=XR (zer W c) k/\XR (zer W c) k<=(k:Int)*8000000
 | 0,_=>by simp[XR]
 | k+1,hk=>by
  have ih:=AE hl c k Qo;have h1:=hl (k:Int) Qo Qo;simp only[XR];have h2:0<=zer W c k/\zer W c k<=8000000:=by unfold zer; split <;> omega
  omega
section
variable {W:Q7}{m:MW}{w:Wo}{bs:List Nat}{p:OA}
theorem Oa{c:Int}(h:Xb bs w W m)(jV:W.tasks.length=12):PX bs XF #[.agg (Qa W m).toArray,I c] w (I (zhf W c)):=
 BT _ _ _ _ _ _ _ _ _ _ c fun wr hx=>by
  have h:=(h.ext hx).less (cs:=[]) Qs;intro _ _;refine TN W.tasks.length 0 rfl (fun x k=>k<=W.tasks.length/\x=XR (zfd W c) k) ⟨Ie _,rfl⟩ fun x k ⟨hk,R6⟩=>⟨fun IQ=>?_,fun RH=>?_⟩
  ·have IQ:=Ot IQ;have hr:=zjo (W:=W) c k;refine⟨h.t.ix QL Qo IQ,_,h.t.f Qo IQ (j:=0) rfl,fun _=>h.t.ix QL Qo IQ,_,fun _=>h.t.f Qo IQ (j:=2) rfl,fun g2=>⟨⟨Qo,Qo⟩,⟨Qo,Qo⟩,QF Qo ⟨Qo,?_⟩⟩,fun g2=>⟨⟨Qo,Qo⟩,QF Qo ⟨Qo,?_⟩⟩⟩
   ·have g2:zv3 W c k=true:=g2;simp only[XR,zfd]; rw[E' g2,R6]
   ·have g2:zv3 W c k=false:=g2;simp only[XR,zfd]; rw[C' (by rw[g2]; decide),R6,Int.add_zero]
  ·have RH:=Ou RH;have:k=W.tasks.length:=Qo;subst this;rw[R6]; rfl
theorem Uw{c:Int}(h:Xb bs w W m)(jV:W.tasks.length=12)(hl:zw6 W):PX bs X0 #[.agg (Qa W m).toArray,I c] w (I (zes W c)):=
 BR _ _ _ _ _ _ _ _ _ _ c fun wr hx=>by
  have h:=(h.ext hx).less (cs:=[]) Qs;intro _ _;refine TN W.tasks.length 0 rfl (fun x k=>k<=W.tasks.length/\x=XR (zer W c) k) ⟨Ie _,rfl⟩ fun x k ⟨hk,R6⟩=>⟨fun IQ=>?_,fun RH=>?_⟩
  ·have IQ:=Ot IQ;have hr:=AE hl c k Qo;have zO:=hl (k:Int) Qo Qo;refine⟨h.t.ix QL Qo IQ,_,h.t.f Qo IQ (j:=0) rfl,fun _=>h.t.ix QL Qo IQ,_,fun _=>h.t.f Qo IQ (j:=2) rfl,fun g2=>⟨h.t.ix QL Qo IQ,(Q8 W (k:Int)).load,h.t.f Qo IQ (j:=8) rfl,⟨Qo,Qo⟩,⟨Qo,Qo⟩,QF Qo ⟨Qo,?_⟩⟩,fun g2=>⟨⟨Qo,Qo⟩,QF Qo ⟨Qo,?_⟩⟩⟩
   ·have g2:zv3 W c k=true:=g2;simp only[XR,zer]; rw[E' g2,R6]
   ·have g2:zv3 W c k=false:=g2;simp only[XR,zer]; rw[C' (by rw[g2]; decide),R6,Int.add_zero]
  ·have RH:=Ou RH;have:k=W.tasks.length:=Qo;subst this;rw[R6]; rfl
theorem MT{x:Int}(h:Xb bs w W m)(ha:WA W)(hl:zw6 W):PX bs JT #[.agg (Qa W m).toArray,I x] w (I (Pe W x)):=
 BS _ _ _ _ _ _ _ _ _ _ x fun wr hx=>by
  have h:=(h.ext hx).less (cs:=[]) Qs;have qW:=ha.c2;have jV:=ha.t;intro _ _;refine TN W.IE.length 0 rfl (fun b k=>k<=W.IE.length/\b=P5 W x k) ⟨Ie _,rfl⟩ fun b k ⟨hk,hb⟩=>⟨fun IQ=>?_,fun RH=>?_⟩
  ·have IQ:=Ot IQ;have key:(((decide (b<0))||(decide (zes W (k:Int)<zes W b)))||((zes W (k:Int)==zes W b)&&(decide (zhf W (k:Int)<zhf W b))))=(decide (P5 W x k<0)||zs1 W (k:Int) (P5 W x k)):=by rw[hb,Bool.or_assoc]; rfl
   refine⟨_,ZT,fun g=>⟨⟨Qo,Qo⟩,QF Qo ⟨Qo,?_⟩⟩,fun g=>⟨_,fun _=>Uw h jV hl,_,fun _=>Uw h jV hl,_,fun _=>Uw h jV hl,_,fun _=>Uw h jV hl,_,fun _ _=>Oa h jV,_,fun _ _=>Oa h jV,fun g2=>⟨⟨Qo,Qo⟩,QF Qo ⟨Qo,?_⟩⟩,fun g2=>⟨⟨Qo,Qo⟩,QF Qo ⟨Qo,?_⟩⟩⟩⟩
   ·have g:Ze x (k:Int)=false:=by simpa using g
    rw[hb,zli (by rw[g]; rfl)]
   ·have g:Ze x (k:Int)=true:=by simpa using g
    rw[zhd (by rw[g,<-key,g2]; rfl)]
   ·have g:Ze x (k:Int)=true:=by simpa using g
    rw[hb,zli (by rw[g,<-key,g2]; rfl)]
  ·have RH:=Ou RH;have:k=W.IE.length:=Qo;subst this;rw[hb]; rfl
theorem Eo{x:Int}:PX bs Vp #[I x] w (I (GE x 4)):=
 EO x fun wr hx=>by
  refine TN 4 0 rfl (fun n k=>k<=4/\n=GE x k) ⟨Qd,rfl⟩ fun n k ⟨hk,hn⟩=>⟨fun IQ=>?_,fun RH=>?_⟩
  ·have IQ:=Ot IQ;have hr:=AJ x k;refine⟨_,ZT,fun g=>⟨⟨Qo,Qo⟩,⟨Qo,Qo⟩,QF Qo ⟨Qo,?_⟩⟩,fun g=>⟨⟨Qo,Qo⟩,QF Qo ⟨Qo,?_⟩⟩⟩
   ·simp only[GE]; rw[E' g,hn]
   ·simp only[GE]; rw[C' (by rw[g]; decide),hn]
  ·have RH:=Ou RH;have:k=4:=Qo;subst this;rw[hn]
end
def Ng(n:Int):Int:=if Yx n 1 4=true then (if n=1 then 0 else if n=2 then 1 else 2) else 0
theorem zm6{n:Int}(h:Yx n 1 4=true):(n=1/\Ng n=0)\/(n=2/\Ng n=1)\/(n=3/\Ng n=2)\/(n=4/\Ng n=2):=by
 have:=Qt.1 h;have:n=1\/n=2\/n=3\/n=4:=Qo;rcases this with rfl | rfl | rfl | rfl
 ·exact .inl ⟨rfl,Qd⟩
 ·exact .inr (.inl ⟨rfl,Qd⟩)
 ·exact .inr (.inr (.inl ⟨rfl,Qd⟩))
 ·exact .inr (.inr (.inr ⟨rfl,Qd⟩))
def zp2(c lv j:Int):Bool:=Int.fdiv j (2 ^ (min (Int.toNat (lv+1)) 64))==Int.fdiv c (2 ^ (min (Int.toNat (lv+1)) 64))
def zqs(c lv:Int):Nat->Int
 | 0=>0
 | k+1=>if zp2 c lv (k:Int)=true then zqs c lv k+Jw k else zqs c lv k
theorem zqt(c lv:Int):∀k:Nat,k<=4->0<=zqs c lv k/\zqs c lv k<Jw k
 | 0,_=>by simp[zqs,Jw]
 | k+1,h=>by
  have ih:=zqt c lv k Qo
  have hb:Jw (k+1)=2*Jw k/\0<=Jw k:=by
   have:k=0\/k=1\/k=2\/k=3:=Qo;rcases this with rfl | rfl | rfl | rfl <;> decide
  simp only[zqs]
  split <;> omega
def EZ(n c lv:Int):Bool:=(Yx n 1 4&&Yx c 0 (n-1))&&Yx lv 0 (Ng n-1)
def zwz(n c lv:Int):Int:=if EZ n c lv=true then zqs c lv n.toNat else 0
section
variable {w:Wo}{bs:List Nat}{n c lv:Int}
theorem zs2{n:Int}{k:Nat}(h:Yx n 1 4=true)(hk:(k:Int)<=Ng n):(decide ((1*2 ^ (min (Int.toNat (k:Int)) 64):Int)<n)=true->(k:Int)+1<=Ng n)/\(decide ((1*2 ^ (min (Int.toNat (k:Int)) 64):Int)<n)=false->(k:Int)=Ng n):=by
 rcases zm6 h with ⟨rfl,e⟩ | ⟨rfl,e⟩ | ⟨rfl,e⟩ | ⟨rfl,e⟩ <;> rw[e] at hk ⊢
 ·have:k=0:=Qo;subst this; decide
 ·have:k=0\/k=1:=Qo;rcases this with rfl | rfl <;> decide
 ·have:k=0\/k=1\/k=2:=Qo;rcases this with rfl | rfl | rfl <;> decide
 ·have:k=0\/k=1\/k=2:=Qo;rcases this with rfl | rfl | rfl <;> decide
theorem zk6(n:Int):0<=Ng n/\Ng n<=2:=by
 unfold Ng;split
 ·split
  ·omega
  ·split <;> omega
 ·omega
theorem Oi:PX bs Xn #[I n] w (I (Ng n)):=
 LM n fun wr hx=>by
  refine⟨_,Qm,fun q=>?_,fun q=>?_⟩
  ·have q:Yx n 1 4=false:=by simpa using q
   have:Ng n=0:=C' (by rw[q]; decide);rw[this]
  ·have q:Yx n 1 4=true:=by simpa using q
   have hl:=zk6 n;refine⟨fun vs=>∃k:Nat,vs=[I (k:Int)]/\(k:Int)<=Ng n,fun vs=>(2-Y5 0 vs).toNat,⟨0,rfl,hl.1⟩,?_⟩;rintro k' ⟨k,he,hk⟩;simp only[I5,I6,true_and,and_true] at he;subst he;have hb:=E1 (k:=k) Qo;have nG:(1*2 ^ (min (Int.toNat (k:Int)) 64):Int)=Jw k:=rfl;obtain⟨s1,s2⟩:=zs2 q hk;refine⟨⟨Qo,Qo⟩,⟨Qo,by rw[nG]; exact⟨Qo,Qo⟩⟩,fun g=>⟨⟨Qo,Qo⟩,⟨k+1,Qs,by have:=s1 g; omega⟩,?_⟩,fun g=>by rw[<-s2 g]⟩;have:=s1 g;show (2-((k:Int)+1)).toNat<(2-(k:Int)).toNat;omega
theorem znq(h:EZ n c lv=true):Yx n 1 4=true/\0<=c/\c<n/\0<=lv/\lv<=1:=by
 unfold EZ at h;simp only[A'] at h;have h1:=Qt.1 h.1.2;have h2:=Qt.1 h.2;have:=zk6 n;exact⟨h.1.1,h1.1,Qo,h2.1,Qo⟩
theorem HP:PX bs UL #[I n,I c,I lv] w (I (zwz n c lv)):=
 Da n c lv fun wr hx=>by
  have hl:=zk6 n
  have e:(((!Yx n 1 4)||(!Yx c 0 (n-1)))||(!Yx lv 0 (Ng n-1))) = !EZ n c lv:=by
   unfold EZ; rw[Bool.not_and,Bool.not_and]
  refine⟨_,Qm,fun q=>?_,_,fun _=>Qm,_,fun _=>Oi,fun _=>⟨Qo,Qo⟩,_,fun _=>Qm,fun q=>?_,fun q=>?_⟩
  ·have q:=Qt.1 (by simpa using q:Yx n 1 4=true);exact⟨Qo,Qo⟩
  ·rw[e] at q;have:zwz n c lv=0:=C' (by simpa using q);rw[this]
  ·rw[e] at q;have q:EZ n c lv=true:=by simpa using q
   obtain⟨h1,c0,c1,l0,l1⟩:=znq q;have hn:=Qt.1 h1;obtain⟨N,rfl⟩:∃N:Nat,n=(N:Int):=⟨n.toNat,Qo⟩;have hD:zwz (N:Int) c lv=zqs c lv N:=by unfold zwz; rw[E' q,Ih]
   rw[hD];refine TN N 0 rfl (fun x k=>k<=N/\x=zqs c lv k) ⟨Ie _,rfl⟩ fun x k ⟨hk,R6⟩=>⟨fun IQ=>?_,fun RH=>?_⟩
   ·have IQ:=Ot IQ;have hb:=E1 (k:=k) Qo;have hs:=zqt c lv k Qo;have nG:(1*2 ^ (min (Int.toNat (k:Int)) 64):Int)=Jw k:=rfl;refine⟨⟨Qo,Qo⟩,⟨Qo,Qo⟩,Qo,⟨Qo,Qo⟩,⟨Qo,Qo⟩,Qo,fun hu=>?_,fun hu=>?_⟩
    ·rw[nG,R6];refine⟨⟨Qo,Qo⟩,⟨Qo,Qo,Qo⟩,⟨Qo,Qo⟩,⟨Qo,Qo⟩,QF Qo ⟨Qo,?_⟩⟩;simp only[zqs]; rw[E' (show zp2 c lv (k:Int)=true from hu)]
    ·refine⟨⟨Qo,Qo⟩,QF Qo ⟨Qo,?_⟩⟩;rw[R6]; simp only[zqs]; rw[C' (by rw[show zp2 c lv (k:Int)=false from hu]; decide)]
   ·have RH:=Ou RH;have:k=N:=Qo;subst this;rw[R6]
end
def N4(W:Q7)(g:Int):List Int:=Z2 W.ID g++[0]
def zoy(W:Q7)(g c:Int):Bool:=(N4 W g).any fun x=>V4 W x c
theorem zh2(W:Q7):N4 W 0=[0]:=by unfold N4; rw[show Z2 W.ID 0=[] from Zi W.ID 3]; rfl
theorem zh3{W:Q7}(ht:ZX W.ID){g:Int}(hu:Q6 W.ID g=true)(hz:g≠0):N4 W g=g::N4 W (gi W.ID g).parent:=by
 unfold N4;rw[Yl ht hu hz,List.cons_append]
theorem zra{W:Q7}(ht:ZX W.ID){g:Int}(hu:Q6 W.ID g=true):∀x∈N4 W g,Q6 W.ID x=true:=by
 have hr:Q6 W.ID 0=true:=Q5.2 ⟨Qd,by have:=ht.len; omega,ht.ru⟩;refine P3 ht (Q:=fun h=>∀x∈N4 W h,Q6 W.ID x=true) ?_ (fun h hu hz ih=>?_) g hu
 ·rw[zh2];intro x hx;have:x=0:=by simpa using hx
  rw[this]; exact hr
 ·rw[zh3 ht hu hz];intro x hx;rcases Ij.1 hx with rfl | hx
  ·exact hu
  ·exact ih x hx
theorem Ce(gs:List Zr):∀(f:Nat) (g:Int),(U2 f gs g).length<=f
 | 0,_=>I8 _
 | f+1,g=>by
  simp only[U2];split
  ·simp
  ·have:=Ce gs f (gi gs g).parent;simp; omega
theorem zlz(W:Q7)(g:Int):(N4 W g).length<=4:=by
 unfold N4;have:=Ce W.ID 3 g;simp; omega
def U5(W:Q7)(t c:Int):Bool:=
 (!(((((((Q8 W t).state != 1)||((Q8 W t).R9==c))||((gi W.IE (Q8 W t).R9).cur==t))||(!ZE W t))||(!Ze (Qv W (Q8 W t).group (Q8 W t).mask) c)))) && !zoy W (Q8 W t).group c
def zl7(W:Q7)(b c:Int):Bool:=VN (fun t=>((Q8 W (t:Int)).R9==b)&&U5 W (t:Int) c) 12
theorem Fe{W:Q7}{t c:Int}(h:U5 W t c=true):(Q8 W t).state=1/\(Q8 W t).R9≠c:=by
 unfold U5 at h;simp only[A',IC,I0,bne_eq_false_iff_eq,beq_eq_false_iff_ne] at h;exact⟨h.1.1.1.1.1,h.1.1.1.1.2⟩
section
variable {W:Q7}{m:MW}{w:Wo}{bs:List Nat}{p:OA}
def zhh(W:Q7)(g:Int):List Int:=if g=0 then [] else N4 W (gi W.ID g).parent
theorem zcs{W:Q7}(ht:ZX W.ID){g:Int}(hu:Q6 W.ID g=true):g::zhh W g=N4 W g:=by
 unfold zhh
 by_cases hz:g=0
 ·subst hz; rw[E' rfl,zh2]
 ·rw[C' hz,zh3 ht hu hz]
theorem MX{t:Int}(h:Xb [] w W m)(ht:ZX W.ID)(t0:0<=t)(t1:t<(W.tasks.length:Int))(hu:Q6 W.ID (Q8 W t).group=true) :
  Cz JW #[.agg (Qa W m).toArray,I t] w fun e w'=>∃o c',e=.returned (.slice o (N4 W (Q8 W t).group).length c')/\XU YR 1 Qb w.heap.size w' o c' (N4 W (Q8 W t).group)/\Q0 [] w w':=by
 refine(Bp _ _ _ _ _ _ _ _ _ _ t (R:=fun v w'=>∃o c',v=.slice o (N4 W (Q8 W t).group).length c'/\XU YR 1 Qb w.heap.size w' o c' (N4 W (Q8 W t).group)/\Q0 [] w w') ?_).mono fun e w' ⟨v,he,o,c',hv,h1⟩=>⟨o,c',by rw[he,hv],h1⟩
 intro b hb;refine⟨h.t.ix QL t0 t1,_,h.t.f t0 t1 (j:=1) rfl,fun b1 wb So eY aO hn=>?_⟩;have hlen:=zlz W (Q8 W t).group;have hO0:XU YR 1 Qb w.heap.size wb (some ⟨b1,0,none⟩) 1 [(Q8 W t).group]:=.inr ⟨b1,[],rfl,eY,aO,by simp[YR],Qs⟩;have hbn:∀x∈[b],w.heap.size<=x:=by simpa using hb
 refine⟨fun vs w1=>∃(g:Int) (l:List Int) (o:OA) (c':Nat),vs=[I g,.slice o l.length c']/\Q6 W.ID g=true/\l++zhh W g=N4 W (Q8 W t).group/\Sc w [b] w1/\Ob YR 1 Qb w.heap.size [b] w1 o c' l,fun vs _=>(dep 3 W.ID (Y5 0 vs)).toNat,
  fun wr hx _=>⟨_,[(Q8 W t).group],_,1,rfl,hu,zcs ht hu,(Sc.mk So hbn).step hx,⟨hO0.ext hx (by simp[Qy]; exact fun e=>hn (by simp[e])),by simp[Qy]; exact fun e=>hn (by simp[e])⟩⟩,?_⟩
 rintro g oO oL oC w1 dX ⟨g',l,o',c',he,hug,hI,s1,hO⟩;simp only[I5,I6,Iw,true_and,and_true] at he;obtain⟨rfl,rfl,rfl,rfl⟩:=he;have hg:=((h.wide (cs:=[b]) fun x hm=>.inr (hbn x hm)).ext s1.ext.of_nil).g
 have hll:l.length<=4:=by
  have:=congrArg List.length hI;simp at this;omega
 refine⟨fun hz=>?_,fun hz wr hx=>?_⟩
 ·have hz:g≠0:=by simpa using hz
  obtain⟨hp,a,b',d,e,e2,hd⟩:=Y3 ht hug hz;refine⟨hg.ix a b',_,hg.parent a b',fun b2 cD R2 R6 SY CE3=>?_⟩;have s2:=s1.put R6 cD;have uD:=hO.put R6 cD;obtain⟨o2,c2,w2,U',uG,hO3,Rm⟩:=uD.AD2 ZO Uo (x:=(gi W.ID g).parent) SY s2.ext.size CE3 (zvm _) Qo Qd Z1 #[false,false];have s3:=s2.call Rm fun x hm=>(uD.own.lt x hm).1
  refine⟨_,_,_,w2,U',uG,fun O' SZ _=>⟨⟨_,l++[(gi W.ID g).parent],o2,c2,rfl,hp,?_,(s3.step SZ).sub Qs,(hO3.step SZ).sub Qs⟩,?_⟩⟩
  ·rw[List.append_assoc,List.singleton_append,zcs ht hp,<-hI];unfold zhh;rw[C' hz]
  ·show (dep 3 W.ID (gi W.ID g).parent).toNat<(dep 3 W.ID g).toNat;omega
 ·have hz:g=0:=by simpa using hz
  subst hz
  have hl:l=N4 W (Q8 W t).group:=by
   rw[<-hI];unfold zhh;rw[E' rfl,List.append_nil]
  subst hl;exact⟨oO,oC,rfl,(hO.step hx).own,(s1.step hx).ext⟩
theorem MU{t c:Int}(h:Xb bs w W m)(wp:XA W)(t0:0<=t)(t1:t<(W.tasks.length:Int))(c0:0<=c)(c1:c<(W.IE.length:Int)):PX bs JU #[.agg (Qa W m).toArray,I t,I c] w (.bool (U5 W t c)):=by
 refine Dd fun wr0 uV=>Bl _ _ _ _ _ _ _ _ _ _ t c (R:=fun v w'=>v=.bool (U5 W t c)/\Q0 [] wr0 w') ?_
 have h:=(h.ext uV).less (cs:=[]) Qs;have li:((Q8 W t).state != 1)=false->Q6 W.ID (Q8 W t).group=true/\0<=(Q8 W t).R9/\(Q8 W t).R9<(W.IE.length:Int):=fun hs=>wp.li t0 t1 (by simpa using hs)
 intro b hb;refine⟨h.t.ix QL t0 t1,_,_,_,_,_,_,_,_,_,h.t t t0 t1,fun b1 eY=>?_⟩;refine⟨fun g=>?_,(gi W.IE (Q8 W t).R9).cur,fun g=>?_,ZE W t,fun g=>?_,Qv W (Q8 W t).group (Q8 W t).mask,fun g=>?_,_,fun g=>ZT,fun g wr hx=>?_,fun g R2 So dX=>?_⟩
 ·have g:(((Q8 W t).state != 1)||((Q8 W t).R9==c))=false:=g;simp only[I0] at g;have:=li g.1;exact h.c.ix Y0 this.2.1 this.2.2
 ·have g:(((Q8 W t).state != 1)||((Q8 W t).R9==c))=false:=g;simp only[I0] at g;have:=li g.1;exact(h.c _ this.2.1 this.2.2).get 1 _ rfl
 ·exact Uy h wp.a t0 t1 fun hs=>wp.li t0 t1 hs
 ·have g:(((((Q8 W t).state != 1)||((Q8 W t).R9==c))||((gi W.IE (Q8 W t).R9).cur==t))||(!ZE W t))=false:=g;simp only[I0] at g;exact XH h wp.a.c2 wp.a.tree (li g.1.1.1).1
 ·have:U5 W t c=false:=by
   unfold U5;rw[show ((((((Q8 W t).state != 1)||((Q8 W t).R9==c))||((gi W.IE (Q8 W t).R9).cur==t))||(!ZE W t))||(!Ze (Qv W (Q8 W t).group (Q8 W t).mask) c))=true from g];rfl
  rw[this]; exact⟨rfl,hx⟩
 have g:((((((Q8 W t).state != 1)||((Q8 W t).R9==c))||((gi W.IE (Q8 W t).R9).cur==t))||(!ZE W t))||(!Ze (Qv W (Q8 W t).group (Q8 W t).mask) c))=false:=g;have eC:U5 W t c = !zoy W (Q8 W t).group c:=by unfold U5; rw[g]; rfl
 simp only[I0] at g;obtain⟨hu,_,_⟩:=li g.1.1.1.1;rw[eC]
 have hbn:∀x∈[b,b1],wr0.heap.size<=x:=by
  intro x hm;simp only[Ij,List.not_mem_nil,or_false] at hm;rcases hm with rfl | rfl
  ·exact hb
  ·exact eY
 refine(MX (h.ext So) wp.a.tree t0 t1 hu).mono fun e w2 ⟨o,c',he,hO,R6⟩=>⟨_,_,_,he,Qe R6 dX,?_⟩
 have C44:=zlz W (Q8 W t).group;have s2:Sc wr0 [b,b1] w2:=⟨So.trans R6,hbn⟩;have uD:Ob YR 1 Qb R2.heap.size [b,b1] w2 o c' (N4 W (Q8 W t).group):=Ob.of hO dX
 refine P1 (N4 W (Q8 W t).group).length 0 rfl (fun k w3=>k<=(N4 W (Q8 W t).group).length/\Sc wr0 [b,b1] w3/\Ob YR 1 Qb R2.heap.size [b,b1] w3 o c' (N4 W (Q8 W t).group)/\∀j:Nat,j<k->V4 W (gi (N4 W (Q8 W t).group) (j:Int)) c=false)
  (fun w3 Rm _=>⟨Ie _,s2.step Rm,uD.step Rm,fun j hj=>Is hj (Nat.not_lt_zero j)⟩) fun k w3 _ ⟨hk,s3,hO3,hI⟩=>⟨fun IQ=>?_,fun RH wr hx=>?_⟩
 ·have IQ:=Ot IQ;have hR:=hO3.rd ZO.len;have hgm:=zix (l:=N4 W (Q8 W t).group) (i:=(k:Int)) Qo IQ;have hW3:=(h.wide (cs:=[b,b1]) fun x hm=>.inr (hbn x hm)).ext s3.ext.of_nil;refine⟨hR.ix Vg Qo IQ,_,hR (k:Int) Qo IQ,_,Mz hW3 wp.a (zra wp.a.tree hu _ hgm) c0 c1,fun gd wr hx=>⟨?_,(s3.step hx).ext⟩,fun gd=>⟨⟨Qo,Qo⟩,fun wr hx _=>Z7 Qo ⟨Qo,s3.step hx,hO3.step hx,fun j hj=>?_⟩⟩⟩
  ·have:zoy W (Q8 W t).group c=true:=List.any_eq_true.2 ⟨_,hgm,gd⟩;rw[this]; rfl
  ·by_cases gG:j<k
   ·exact hI j gG
   ·have:j=k:=Qo;subst this; exact gd
 ·have RH:=Ou RH;have hkn:k=(N4 W (Q8 W t).group).length:=Qo
  have:zoy W (Q8 W t).group c=false:=by
   cases hd:zoy W (Q8 W t).group c with
   | false=>rfl
   | true=>
    obtain⟨x,hx,hdx⟩:=List.any_eq_true.1 hd;obtain⟨j,hj,hjx⟩:=List.getElem_of_mem hx;have:=hI j Qo;rw[Jr hj,hjx,hdx] at this;cases this
  rw[this]; exact⟨rfl,(s3.step hx).ext⟩
end
end Go.Proofs.YtnclplgaicdapaaGreatDoor
