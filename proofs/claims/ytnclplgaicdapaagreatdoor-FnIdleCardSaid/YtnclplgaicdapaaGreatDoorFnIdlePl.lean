/- Part 12 of what the law FnIdle needs. -/
import Derived.Test.YtnclplgaicdapaaGreatDoorFnIdlePk
import Derived.Laws.BytesArg
set_option linter.unusedVariables false
set_option linter.unusedSimpArgs false
set_option maxRecDepth 100000
set_option maxHeartbeats 8000000
namespace Go.Proofs.YtnclplgaicdapaaGreatDoor
open Go.RowKit
theorem zve{α:Type}[Inhabited α]{l:List α}{i:Int}(h0:0<=i)(h1:i<(l.length:Int)):l.set i.toNat (gi l i)=l:=by
 obtain⟨k,rfl⟩:=Int.eq_ofNat_of_zero_le h0;rw[JX Qo,Ig,List.set_getElem_self]
def z6b(G:ZX)(K:Int):Int:=K+1+1+1+1+1+1+1+1+1+1+1+1*(G.IP.locals.length:Int)+1*(G.IP.Ry.length:Int)+5*(G.IF.length:Int)
def gK(gs:List ZX)(k:Int):Nat->Int
 | 0=>k
 | i+1=>z6b (gi gs (i:Int)) (gK gs k i)
section
variable {n base:Nat}{W:Q8}{m:MW}{w w':Wo}{G G':ZX}{i:Int}
end
def kC(W:Q8):Int:=1+5*(W.IE.length:Int)
def kT(W:Q8):Int:=kC W+9*(W.tasks.length:Int)
def mK(W:Q8):Int:=gK W.ID (kT W) W.ID.length
section
variable {n base:Nat}{W:Q8}{m:MW}{w w':Wo}{bs:List Nat}
end
def za5:Lm:=⟨0,0,0,0,0,0,0,0,0⟩
def Z4(W:Q8)(t:Int):Q8:=if (gi W.IE (Q7 W t).IZ).cur=t then Rz W (Q7 W t).IZ else W
noncomputable def P9(W:Q8)(t:Int):Int:=if ZB W t=false then 2 else if QT W=false then 10 else 0
def AM(W:Q8)(t:Int):Q8:=Qg (IU (Z4 W t) t za5)
theorem zod{K:Int}{W:Q8}(h:SW K W){t:Int}(t0:0<=t)(t1:t<12)(n:(Q7 W t).state≠0):SW K (Z4 W t):=by
 unfold Z4;split
 ·exact h.Rz (h.t t t0 t1 n).2.1 (h.t t t0 t1 n).2.2
 ·exact h
theorem zlo{W:Q8}{t:Int}(hW:QD W=true)(hb:P9 W t=0):ZB W t=true/\QT W=true/\SW Qn W/\SW Qn (IU W t za5)/\SW Qn (IU (Z4 W t) t za5):=by
 have wp:=Qj.1 hW;unfold P9 at hb
 split at hb
 ·cases hb
 ·rename_i h1
  split at hb
  ·cases hb
  ·rename_i h3;have h1:ZB W t=true:=by simpa using h1
   have h3:QT W=true:=by simpa using h3
   have sw:=MR wp (Qj.1 h3);obtain⟨t0,t1,n⟩:=Yv h1;have hl:=wp.a.t;exact⟨h1,h3,sw,sw.IU t0 Qo (λh=>Ir rfl h) Qd Qd,(zod sw t0 Qo n).IU t0 Qo (λh=>Ir rfl h) Qd Qd⟩
section
variable {W:Q8}{m:MW}{w:Wo}{bar:Int}
theorem v9{t:Int}(h:XE [] w W m)(hl:Ua W) :
  Cz Oj #[.agg (Qb W m).toArray,I t] w λe w'=>∃v,e=.returned v/\QR (YY W (P9 W t) (AM W t)) w v w':=by
 refine CP _ _ _ _ _ _ _ _ _ _ t (R:=λv w'=>QR (YY W (P9 W t) (AM W t)) w v w') ?_;intro x hx x1 RZ wr R5 SR;refine I3 (Zh (h.ext R5) hl) ?_;rintro e wv (⟨hW,he,hy⟩ | ⟨hW,m',he,hM,hy⟩)
 ·exact⟨_,_,_,_,_,_,_,_,_,_,_,he,Qf hy SR,λ_ I' R6=>QR.bad hW ((R5.trans hy).fresh R6 λy hm=>.inl (Xa hx RZ y hm)),λg=>by simp at g⟩
 have hK:=Wk.begin hx RZ R5 SR hM hy;have hr:=hK.rd;refine⟨_,_,_,_,_,_,_,_,_,_,_,he,Qf hy SR,λg=>by split at g <;> simp at g,λ_=>⟨_,Xx hr hl.t,λg M' R6=>?_,λg=>?_⟩⟩
 ·have g:ZB W t=false:=by simpa using g
  have hb:P9 W t=2:=by unfold P9; rw[C' g]
  exact QR.no hW (by rw[hb]; decide) (hK.step R6) hb
 have g:ZB W t=true:=by simpa using g
 obtain⟨t0,t1,tn⟩:=Yv g;have Wg:=hr.t.ix QF t0 t1;refine⟨λg3 Ru R6=>?_,λg3=>?_⟩
 ·have aZ:¬QT W=true:=λhr=>by rw[C' hr] at g3; simp at g3
  have hb:P9 W t=10:=by unfold P9; rw[B' (by rw[g]; decide),C' (by simpa using aZ)]
  rw[B' aZ];exact QR.no hW (by rw[hb]; decide) (hK.step R6) hb
 have aZ:QT W=true:=Iq λhr=>by rw[B' hr] at g3; simp at g3
 have hb:P9 W t=0:=by unfold P9; rw[B' (by rw[g]; decide),B' (by rw[aZ]; decide)]
 obtain⟨_,_,sw,sw1,sw2⟩:=zlo hW hb;obtain⟨_,c0,c1⟩:=sw.t t t0 (by have:=sw.a.t; omega) tn;have SN:Zo 8 w.heap.size (R9 wv m'.tO (Int.toNat t*9) (XS za5)) (IU W t za5) m':=hK.own.AD6 t0 t1 (j:=0) (vs:=XS za5) (x:=za5) rfl Qd;have hKs:=hK.R9 SN Hm;have e5:∀mm,Qb (IU W t za5) mm=Qb W mm:=λmm=>by simp[Qb,IU]
 refine⟨Wg,_,hr.t.f t0 t1 (j:=2) rfl,Wg,zts hK.own hK.nb t0 t1 (j:=0) Qd,hr.c.ix Y6 c0 c1,_,hKs.rd.c.f c0 c1 (j:=1) rfl,λg4 RN Sm kK=>?_,λg4 RN Sm kK=>?_⟩
 ·have g4:(gi (IU W t za5).IE (Q7 W t).IZ).cur=t:=by simpa using g4
  have hE:AM W t=Qg (Rz (IU W t za5) (Q7 W t).IZ):=by unfold AM Z4; rw[C' (show (gi W.IE (Q7 W t).IZ).cur=t from g4)]; rfl
  rw[hE];have dR:=hKs.step Sm;have Rq:=ZG dR.own c0 c1;rw[e5] at Rq;refine I3 Rq ?_;rintro e1 R8 ⟨gP,cP⟩;refine⟨_,_,_,_,_,_,_,_,_,_,gP,dR.kept cP kK,λSj WT hs6=>?_⟩;have uH:=(dR.Sn cP kK).step WT;refine I3 (QA uH.own (sw1.Rz c0 c1) Qd Qd uH.base) ?_;rintro e2 RF ⟨m1,aR,SI⟩;exact⟨_,_,_,_,_,_,_,_,_,_,aR,uH.kept SI hs6,λSM eB=>QR.ok hW hb ((uH.Sn SI hs6).step eB)⟩
 ·have g4:¬(gi (IU W t za5).IE (Q7 W t).IZ).cur=t:=by simpa using g4
  have hE:AM W t=Qg (IU W t za5):=by unfold AM Z4; rw[B' (show ¬(gi W.IE (Q7 W t).IZ).cur=t from g4)]
  rw[hE];have dR:=hKs.step Sm;have Rq:=QA dR.own sw1 Qd Qd dR.base;rw[e5] at Rq;refine I3 Rq ?_;rintro e2 RF ⟨m1,aR,SI⟩;exact⟨_,_,_,_,_,_,_,_,_,_,aR,dR.kept SI kK,λSM eB=>QR.ok hW hb ((dR.Sn SI kK).step eB)⟩
theorem zz9{base pb b:Nat}{w w':Wo}{W W':Q8}{m m':MW}{o:Obj}(h:PW base pb w W m)(hb:b<base)(hpb:base<=pb)(hc:w.heap[b]? = some o)(hM:Mp base pb [] w m w' W' m'):w'.heap[b]? = some o:=
 QB hc hM.v.ext λhm=>by
  have:=(h.own.lt b hm).1;omega
end
abbrev L7(W:Q8)(t n:Int):Int:=(Qa W (Q7 W t).group (Q7 W t).IZ).floor+ZT ((Q7 W t).v-(Qa W (Q7 W t).group (Q7 W t).IZ).floor) (Qe n)
def Ju(W:Q8)(t n:Int):Lm:={ Q7 W t with nice:=n,v:=if (Q7 W t).state=1 then L7 W t n else (Q7 W t).v }
noncomputable def PP(W:Q8)(t n:Int):Int:=if Qe n=0 then 1 else P9 W t
def H9(W:Q8)(t n:Int):Q8:=Qg (if (Q7 W t).state=1 then Z4 (IU W t (Ju W t n)) t else IU W t (Ju W t n))
theorem zsw{W:Q8}{t n:Int}(h:(Q7 W t).state=1):Ju W t n={ Q7 W t with nice:=n,v:=L7 W t n }:=by unfold Ju; rw[C' h]
theorem zsv{W:Q8}{t n:Int}(h:¬(Q7 W t).state=1):Ju W t n={ Q7 W t with nice:=n }:=by unfold Ju; rw[B' h]
theorem LK{W:Q8}{t:Int}{x:Lm}(t0:0<=t)(t1:t<(W.tasks.length:Int)):Q7 (IU W t x) t=x:=by
 show gi (W.tasks.set t.toNat x) t=x;rw[QM _ _ t0 t1 t0,C' rfl]
theorem set_set{W:Q8}{t:Int}{x y:Lm}:IU (IU W t x) t y=IU W t y:=by simp[IU]
abbrev K1:Int:=Qn+Qi
structure z4g (W:Q8) (t n:Int):Prop where
 th:ZB W t=true
 room:QT W=true
 sw:SW Qn W
 f:(Q7 W t).state=1->0<=(Qa W (Q7 W t).group (Q7 W t).IZ).floor/\(Qa W (Q7 W t).group (Q7 W t).IZ).floor<=Qn/\0<=L7 W t n/\L7 W t n<=K1
 s1:SW K1 (IU W t (Ju W t n))
 s2:SW K1 (Z4 (IU W t (Ju W t n)) t)
theorem zsx{W:Q8}{t n:Int}(hW:QD W=true)(hb:PP W t n=0):z4g W t n:=by
 have hw:¬Qe n=0:=λh=>by unfold PP at hb; rw[C' h] at hb; cases hb
 have hb:P9 W t=0:=by unfold PP at hb; rwa[B' hw] at hb
 obtain⟨h1,h3,sw,_,_⟩:=zlo hW hb;obtain⟨t0,t1,tn⟩:=Yv h1;have hl:=sw.a.t;have hg:=sw.t t t0 Qo tn;have hv:=sw.tv t t0 Qo;have hf:=sw.s _ _ hg.1 hg.2.1 hg.2.2;have lc:=ZH ((Q7 W t).v-(Qa W (Q7 W t).group (Q7 W t).IZ).floor) (Qe n);have lm:=Y0 (Qe n);have f:0<=L7 W t n/\L7 W t n<=K1:=by unfold L7; simp only[K1,Qi]; omega
 have f1:0<=(Ju W t n).v/\(Ju W t n).v<=K1:=by
  unfold Ju
  dsimp only
  split
  ·exact f
  ·simp only[K1,Qi]; omega
 have s1:SW K1 (IU W t (Ju W t n)):=(sw.mono Qd).IU t0 Qo (λ_=>hg) f1.1 f1.2;exact⟨h1,h3,sw,λ_=>⟨hf.1,hf.2.1,f⟩,s1,zod s1 t0 Qo (by rw[LK t0 t1]; exact tn)⟩
section
variable {W:Q8}{m:MW}{w:Wo}{bar:Int}
theorem DY{bs:List Nat}{t:Int}(h:XE bs w W m)(t0:0<=t)(t1:t<(W.tasks.length:Int))(g0:0<=(Q7 W t).group)(g1:(Q7 W t).group<(W.ID.length:Int))(c0:0<=(Q7 W t).IZ)(c1:(Q7 W t).IZ<((gi W.ID (Q7 W t).group).IF.length:Int))(hr:Ql .i64 ((Q7 W t).v-(Qa W (Q7 W t).group (Q7 W t).IZ).floor)) :
  PX bs TN #[.agg (Qb W m).toArray,I t] w (I (ZT ((Q7 W t).v-(Qa W (Q7 W t).group (Q7 W t).IZ).floor) (Qe (Q7 W t).nice))):=
 ziq _ _ _ _ _ _ _ _ _ _ t λwr hx=>by
  have h:=(h.ext hx).less (cs:=[]) Qs;intro b hb;exact⟨h.t.ix QF t0 t1,_,_,_,_,_,_,_,_,_,h.t t t0 t1,λb1 cJ=>⟨h.g.ix g0 g1,_,_,_,h.g.R0 g0 g1,(h.g.IF _ g0 g1).ix X0 c0 c1,_,(h.g.IF _ g0 g1).f c0 c1 (j:=0) rfl,hr,_,ZZ,_,KB,rfl⟩⟩
theorem z7{t n:Int}(h:XE [] w W m)(hl:Ua W) :
  Cz Ol #[.agg (Qb W m).toArray,I t,I n] w λe w'=>∃v,e=.returned v/\QR (YY W (PP W t n) (H9 W t n)) w v w':=by
 refine CS _ _ _ _ _ _ _ _ _ _ t n (R:=λv w'=>QR (YY W (PP W t n) (H9 W t n)) w v w') ?_;intro x hx x1 RZ wr R5 SR;refine I3 (Zh (h.ext R5) hl) ?_;rintro e wv (⟨hW,he,hy⟩ | ⟨hW,m',he,hM,hy⟩)
 ·exact⟨_,_,_,_,_,_,_,_,_,_,_,he,Qf hy SR,0,λg=>by simp at g,λ_ I' R6=>QR.bad hW ((R5.trans hy).fresh R6 λy hm=>.inl (Xa hx RZ y hm)),λg=>by simp at g⟩
 have hK:=Wk.begin hx RZ R5 SR hM hy;have hr:=hK.rd;have sS:((if QT W=true then 0 else 10:Int)==1)=false:=by split <;> rfl
 refine⟨_,_,_,_,_,_,_,_,_,_,_,he,Qf hy SR,_,λ_=>ZZ (n:=n),λg I' R6=>?_,λg0=>⟨_,Xx hr hl.t,λg M' R6=>?_,λg=>?_⟩⟩
 ·rw[sS] at g;have g:Qe n=0:=by simpa using g
  have hb:PP W t n=1:=by unfold PP; rw[C' g]
  exact QR.no hW (by rw[hb]; decide) (hK.step R6) hb
 ·rw[sS] at g0;have g0:¬Qe n=0:=by simpa using g0
  have g:ZB W t=false:=by simpa using g
  have hb:PP W t n=2:=by unfold PP P9; rw[B' g0,C' g]
  exact QR.no hW (by rw[hb]; decide) (hK.step R6) hb
 rw[sS] at g0;have gw:¬Qe n=0:=by simpa using g0
 have g:ZB W t=true:=by simpa using g
 obtain⟨t0,t1,tn⟩:=Yv g;have Wg:=hr.t.ix QF t0 t1;refine⟨λg3 Ru R6=>?_,λg3=>?_⟩
 ·have aZ:¬QT W=true:=λhr=>by rw[C' hr] at g3; simp at g3
  have hb:PP W t n=10:=by unfold PP P9; rw[B' gw,B' (by rw[g]; decide),C' (by simpa using aZ)]
  rw[B' aZ];exact QR.no hW (by rw[hb]; decide) (hK.step R6) hb
 have aZ:QT W=true:=Iq λhr=>by rw[B' hr] at g3; simp at g3
 have hb:PP W t n=0:=by unfold PP P9; rw[B' gw,B' (by rw[g]; decide),B' (by rw[aZ]; decide)]
 have hN:=zsx hW hb;have sw:=hN.sw;have eM:=sw.a.t;obtain⟨hu,c0,c1⟩:=sw.t t t0 Qo tn;obtain⟨q0,q1,_⟩:=Q4.1 hu;have hsl:=sw.a.sl hu;have fK:Wk 8 [x,x1] w (R9 wv m'.tO (Int.toNat t*9) (XS { Q7 W t with nice:=n })) (IU W t { Q7 W t with nice:=n }) m':=hK.R9 (hK.own.AD6 t0 t1 (j:=0) (vs:=XS { Q7 W t with nice:=n }) (x:={ Q7 W t with nice:=n }) rfl (by show 0+9<=9; decide)) Hm;have e5:∀x mm,Qb (IU W t x) mm=Qb W mm:=λx mm=>by simp[Qb,IU]
 refine⟨Wg,_,_,_,_,_,_,_,_,_,hr.t t t0 t1,λb2 bR=>⟨Wg,zts hK.own hK.nb t0 t1 (j:=0) Qd,λg4=>?_,λg4 WS gL hs9=>?_⟩⟩
 ·have g4:(Q7 W t).state=1:=by simpa[Q7] using g4
  have hT:=zsw (n:=n) g4;obtain⟨f0,f1,v0,v1⟩:=hN.f g4;have hv:=sw.tv t t0 Qo;have hh:Qn=50000000000000000:=rfl;have hk:K1=50000034686091440:=rfl;have tZ:=fK.rd;have etk:Q7 (IU W t { Q7 W t with nice:=n }) t={ Q7 W t with nice:=n }:=LK t0 t1;have t1':t<((IU W t { Q7 W t with nice:=n }).tasks.length:Int):=by simpa[IU] using t1
  have CQ5:=DY (t:=t) tZ t0 t1' (by rw[etk]; exact q0) (by rw[etk]; exact q1) (by rw[etk]; exact c0) (by rw[etk]; show (Q7 W t).IZ<(((gi W.ID (Q7 W t).group).IF.length:Nat):Int); omega) (by rw[etk]; exact⟨by show _<=(Q7 W t).v-(Qa W (Q7 W t).group (Q7 W t).IZ).floor; omega,by show (Q7 W t).v-(Qa W (Q7 W t).group (Q7 W t).IZ).floor<=_; omega⟩);rw[etk,e5] at CQ5;have lc:=ZH ((Q7 W t).v-(Qa W (Q7 W t).group (Q7 W t).IZ).floor) (Qe n);have lm:=Y0 (Qe n);have SN:Zo 8 w.heap.size (R9 (R9 wv m'.tO (Int.toNat t*9) (XS { Q7 W t with nice:=n })) m'.tO (Int.toNat t*9) (XS { Q7 W t with nice:=n,v:=L7 W t n })) (IU (IU W t { Q7 W t with nice:=n }) t { Q7 W t with nice:=n,v:=L7 W t n }) m':=fK.own.AD6 t0 t1' (j:=0) (vs:=XS { Q7 W t with nice:=n,v:=L7 W t n }) (x:={ Q7 W t with nice:=n,v:=L7 W t n }) (by rw[show gi (IU W t { Q7 W t with nice:=n }).tasks t={ Q7 W t with nice:=n } from etk]; rfl) (by show 0+9<=9; decide);rw[set_set,<-hT] at SN;have qD:Wk 8 ([x,x1]++[b2]) w _ (IU W t (Ju W t n)) m':=(hK.add bR).R9 SN (Hm.trans Hm)
  have oH:∀vs0 vs:List Va,XS { Q7 W t with nice:=n }=vs0->XS (Ju W t n)=vs->Wk 8 ([x,x1]++[b2]) w (R9 (R9 wv m'.tO (Int.toNat t*9) vs0) m'.tO (Int.toNat t*9) vs) (IU W t (Ju W t n)) m':=λvs0 vs h0 h1=>by
   subst h0;subst h1;rw[hT] at qD ⊢;exact qD
  have CC6:∀y∈[x,x1],y∈[x,x1]++[b2]:=λy hy=>Ia _ hy
  have CL4:Wk 8 [x,x1] w _ (IU W t (Ju W t n)) m':=qD.sub CC6;have Cr3:Q1 [x,x1] (R9 wv m'.tO (Int.toNat t*9) (XS { Q7 W t with nice:=n })) (m'.ms (Q7 W t).group.toNat).sO (Int.toNat (Q7 W t).IZ*5+0) [I (Qa W (Q7 W t).group (Q7 W t).IZ).floor]:=(tZ.g.IF _ q0 q1).f c0 (by show (Q7 W t).IZ<(((gi W.ID (Q7 W t).group).IF.length:Nat):Int); omega) (j:=0) rfl;have ecp:(Q7 (IU W t (Ju W t n)) t).IZ=(Q7 W t).IZ:=by rw[LK t0 t1]; rfl
  refine⟨hr.g.ix q0 q1,_,_,_,tZ.g.R0 q0 q1,(tZ.g.IF _ q0 q1).ix X0 c0 (by show (Q7 W t).IZ<(((gi W.ID (Q7 W t).group).IF.length:Nat):Int); omega),(Qa W (Q7 W t).group (Q7 W t).IZ).floor,Cr3,ZT ((Q7 W t).v-(Qa W (Q7 W t).group (Q7 W t).IZ).floor) (Qe n),CQ5,⟨?_,?_⟩,Wg,zts fK.own fK.nb t0 t1' (j:=0) Qd,hr.c.ix Y6 c0 c1,(gi W.IE (Q7 W t).IZ).cur,?_,λg5 Ru SK eZ=>?_,λg5 SM eB hs7=>?_⟩
  ·show _<=L7 W t n; omega
  ·show L7 W t n<=_; omega
  ·rw[hT] at CL4;exact CL4.rd.c.f c0 c1 (j:=1) rfl
  ·have g5:(gi W.IE (Q7 W t).IZ).cur=t:=by simpa using g5
   have hE:H9 W t n=Qg (Rz (IU W t (Ju W t n)) (Q7 W t).IZ):=by unfold H9 Z4; rw[C' g4,ecp,C' (show (gi (IU W t (Ju W t n)).IE (Q7 W t).IZ).cur=t from g5)]
   rw[hE];have dR:=(oH _ _ (by rfl) (by rw[hT]; rfl)).step (SK.mono CC6);have Rq:=ZG dR.own c0 c1;rw[e5] at Rq;refine I3 Rq ?_;rintro e1 R8 ⟨gP,cP⟩;refine⟨_,_,_,_,_,_,_,_,_,_,gP,dR.kept cP eZ,λSj WT hs6=>?_⟩;have uH:=(dR.Sn cP eZ).step WT;refine I3 (QA uH.own (hN.s1.Rz c0 c1) Qd Qd uH.base) ?_;rintro e2 RF ⟨m1,aR,SI⟩;exact⟨_,_,_,_,_,_,_,_,_,_,aR,uH.kept SI hs6,λSM eB=>QR.ok hW hb ((uH.Sn SI hs6).step eB)⟩
  ·have g5:¬(gi W.IE (Q7 W t).IZ).cur=t:=by simpa using g5
   have hE:H9 W t n=Qg (IU W t (Ju W t n)):=by unfold H9 Z4; rw[C' g4,ecp,B' (show ¬(gi (IU W t (Ju W t n)).IE (Q7 W t).IZ).cur=t from g5)]
   rw[hE];have dR:=(oH _ _ (by rfl) (by rw[hT]; rfl)).step (eB.mono CC6);have Rq:=QA dR.own hN.s1 Qd Qd dR.base;rw[e5] at Rq;refine I3 Rq ?_;rintro e2 RF ⟨m1,aR,SI⟩;exact⟨_,_,_,_,_,_,_,_,_,_,aR,dR.kept SI hs7,λSM eB=>QR.ok hW hb ((dR.Sn SI hs7).step eB)⟩
 ·have g4:¬(Q7 W t).state=1:=by simpa[Q7] using g4
  have hE:H9 W t n=Qg (IU W t (Ju W t n)):=by unfold H9; rw[B' g4]
  have bX:=hN.s1;rw[hE,zsv g4];rw[zsv g4] at bX;have qD:Wk 8 ([x,x1]++[b2]) w _ (IU W t { Q7 W t with nice:=n }) m':=(hK.add bR).R9 fK.own Hm;have dR:=qD.step (gL.mono λy hy=>Ia _ hy);have Rq:=QA dR.own bX Qd Qd dR.base;rw[e5] at Rq;refine I3 Rq ?_;rintro e2 RF ⟨m1,aR,SI⟩;exact⟨_,_,_,_,_,_,_,_,_,_,aR,dR.kept SI hs9,λSM eB=>QR.ok hW hb ((dR.Sn SI hs9).step eB)⟩
theorem B6{bs:List Nat}{p:OA}{t:Int}(h:Tj bs w p W m)(t0:0<=t)(t1:t<(W.tasks.length:Int))(g0:0<=(Q7 W t).group)(g1:(Q7 W t).group<(W.ID.length:Int))(c0:0<=(Q7 W t).IZ)(c1:(Q7 W t).IZ<((gi W.ID (Q7 W t).group).IF.length:Int)) :
  PX bs Ji #[.pointer p,I t] w (I (Qa W (Q7 W t).group (Q7 W t).IZ).floor):=
 EP p t λwr hx=>by
  have h:=(h.ext hx).less (cs:=[]) Qs;exact⟨h.some,_,_,_,h.tasks,h.rd.t.ix QF t0 t1,_,_,_,_,_,_,_,_,_,h.rd.t t t0 t1,λb hb=>⟨_,_,ZR,_,Zj h g0 g1 c0 c1,(h.sh g0 g1 c0 c1).1,_,(h.sh g0 g1 c0 c1).2 (j:=0) rfl,rfl⟩⟩
end
noncomputable def Ku(W:Q8)(g:Int)(ok:Bool):Int:=if ok=false\/g=0 then 1 else if Q6 W.ID g=false then 2 else if QT W=false then 10 else 0
theorem zlu{W:Q8}{g:Int}{ok:Bool}(h:Ku W g ok=0):ok=true/\g≠0/\Q6 W.ID g=true/\QT W=true:=by
 unfold Ku at h
 split at h
 ·cases h
 ·rename_i h1
  split at h
  ·cases h
  ·rename_i h2
   split at h
   ·cases h
   ·rename_i h3;exact⟨by cases ok <;> simp_all,λe=>h1 (.inr e),by simpa using h2,by simpa using h3⟩
def z17:Ve:=⟨0,0,0,[],[]⟩
def Jt(q:Int)(n:Nat):Ve:=⟨q,q,0,List.replicate n 0,List.replicate n false⟩
def E1(q p:Int):Bool:=q==0&&p==0
def zjs(q p:Int):Bool:=E1 q p||(YP q 1 10000&&YP p 1 1000)
def KC(W:Q8)(g q p:Int):ZX:=if E1 q p=true then { gi W.ID g with period:=0,next:=0,IP:=z17 } else { gi W.ID g with period:=p,next:=W.now+p,IP:=Jt q W.IE.length }
noncomputable def zoe(W:Q8)(g q p:Int):Int:=Ku W g (zjs q p)
def z1a(W:Q8)(g q p:Int):Q8:=Qg (Rn W g (KC W g q p))
theorem AA(n:Nat):∀k:Nat,k<=n->Xg (List.replicate n (0:Int)) k=0
 | 0,_=>rfl
 | k+1,hk=>by
  simp only[Xg];rw[AA n k Qo,MB _ _ Qo Qo]; rfl
theorem zuw{q:Int}{n:Nat}(q1:1<=q)(q2:q<=10000)(n1:1<=n)(n2:n<=4):P0 (Jt q n):=by
 refine⟨q1,q2,by simpa[Jt] using n1,by simpa[Jt] using n2,by simp[Jt],by simp only[Jt]; omega,I2 _,by simp[Jt],by simp only[Jt]; omega,λc c0 c1=>?_,?_⟩
 ·simp only[Jt,List.length_replicate] at c1 ⊢;rw[MB _ _ c0 c1,MB _ _ c0 c1];exact⟨I2 _,Qo,λh=>by cases h⟩
 ·simp only[Jt,List.length_replicate];rw[AA n n (I7 _)]; omega
theorem zl6{W:Q8}{g q p:Int}:(KC W g q p).used=(gi W.ID g).used/\(KC W g q p).parent=(gi W.ID g).parent/\(KC W g q p).name=(gi W.ID g).name/\(KC W g q p).IF=(gi W.ID g).IF/\(KC W g q p).weight=(gi W.ID g).weight/\(KC W g q p).IE=(gi W.ID g).IE/\(KC W g q p).sum=(gi W.ID g).sum:=by
 unfold KC; split <;> exact⟨rfl,rfl,rfl,rfl,rfl,rfl,rfl⟩
theorem SW.Rn{K:Int}{W:Q8}(h:SW K W){g:Int}{x:ZX}(hu:Q6 W.ID g=true)(u:x.used=(gi W.ID g).used)(p:x.parent=(gi W.ID g).parent)(n:x.name=(gi W.ID g).name)(s:x.IF=(gi W.ID g).IF)(hx:zpm W g x):SW K (Rn W g x):=by
 obtain⟨u0,u1,ut⟩:=Q4.1 hu;have hl:=h.a.gl;have hT:=U9 (x:=x) u0 u1 u p n
 have es:∀k c:Int,0<=k->Qa (YtnclplgaicdapaaGreatDoor.Rn W g x) k c=Qa W k c:=λk c k0=>by
  unfold Qa;rw[Xk u0 u1 k0];split
  ·rename_i e; subst e; rw[s]
  ·rfl
 refine⟨h.a.set u0 Qo u p n (λhn=>by rw[u,ut] at hn; cases hn) λ_=>hx,λt a b n=>by rw[hT.cQ]; exact h.t t a b n,h.tv,λk c uk a b=>?_,h.cu⟩;rw[hT.cQ] at uk;rw[es k c (Q4.1 uk).1];exact h.s k c uk a b
theorem zxw{W:Q8}{g q p:Int}(hW:QD W=true)(hb:zoe W g q p=0):Q6 W.ID g=true/\g≠0/\zjs q p=true/\QT W=true/\SW Qn W/\SW Qn (Rn W g (KC W g q p)):=by
 obtain⟨h1,h2,h3,h4⟩:=zlu hb;have wp:=Qj.1 hW;have sw:=MR wp (Qj.1 h4);obtain⟨u0,u1,hg⟩:=wp.a.u h3;have hl:=zl6 (W:=W) (g:=g) (q:=q) (p:=p);have sS:=wp.a.c1;have hc2:=wp.a.c2;refine⟨h3,h2,h1,h4,sw,sw.Rn h3 hl.1 hl.2.1 hl.2.2.1 hl.2.2.2.1 ⟨by rw[hl.2.2.2.2.1]; exact hg.w1,by rw[hl.2.2.2.2.1]; exact hg.w2,by rw[hl.2.2.2.2.2.1]; exact hg.m,by rw[hl.2.2.2.2.2.1]; exact hg.m0,by rw[hl.2.2.2.2.2.2]; exact hg.s,by rw[hl.2.2.2.1]; exact hg.len,λh=>Ir h h2,λhq=>?_,λhq=>?_⟩⟩
 ·unfold KC at hq ⊢;split
  ·exact⟨show OJ z17=true by decide,rfl,rfl⟩
  ·rename_i hn;rw[B' hn] at hq;unfold zjs at h1;rw[show E1 q p=false by simpa using hn,Bool.false_or,A'] at h1;have:=Qv.1 h1.1;have:q=0:=hq;omega
 ·unfold KC at hq ⊢;split
  ·rename_i hn;rw[C' hn] at hq;exact Ir rfl hq
  ·rename_i hn;unfold zjs at h1;rw[show E1 q p=false by simpa using hn,Bool.false_or,A'] at h1;have h5:=Qv.1 h1.1;have h6:=Qv.1 h1.2;exact⟨zuw h5.1 h5.2 sS hc2,by simp[Jt],h6.1,h6.2,by show W.now<W.now+p; omega,by show W.now+p-W.now<=p; omega⟩
theorem zsl{W:Q8}{g q p:Int}(h:E1 q p=true):KC W g q p={ gi W.ID g with period:=0,next:=0,IP:=z17 }:=by unfold KC; rw[C' h]
theorem zof{W:Q8}{g q p:Int}(h:E1 q p=false):KC W g q p={ gi W.ID g with period:=p,next:=W.now+p,IP:=Jt q W.IE.length }:=by unfold KC; rw[B' (by rw[h]; decide)]
def zai:MG:=⟨none,0,none,0,none,0⟩
theorem z1n(base:Nat)(w:Wo):Zs base w z17 zai:=⟨.inl ⟨rfl,rfl,rfl⟩,.inl ⟨rfl,rfl,rfl⟩⟩
theorem zuz:∀x∈YN zai,False:=λx hx=>by simp[YN,zai,QL] at hx
section
variable {W W':Q8}{m:MW}{w:Wo}{bar:Int}
theorem z3r{b:Nat}{bs:List Nat}{w w1 w2 w3:Wo}{q:Int}{n:Nat}(s:Sc w [b] w1)(h2:Q0 [b] (w1.alloc (.cells ((List.replicate n (0:Int)).flatMap Jz).toArray Qc)) w2)(bX:∀y∈[b],y<w1.heap.size)(SR:∀y∈[b],y<w2.heap.size)(h3:Q0 [b] (w2.alloc (.cells ((List.replicate n false).flatMap MY).toArray Yg)) w3)(_:bs=[]) :
  Zs w.heap.size w3 (Jt q n) ⟨some ⟨w1.heap.size,0,none⟩,n,some ⟨w2.heap.size,0,none⟩,n,none,0⟩/\Q0 [] w w3:=by
 have hL0:Ob Jz 1 Qc w1.heap.size [b] _ (some ⟨w1.heap.size,0,none⟩) n (List.replicate n (0:Int)):=Ob.of (Vv (enc:=Jz) Y5.len Qc n (0:Int) w1) bX;have s1:=(s.R4 (Z7 w1 (.cells ((List.replicate n (0:Int)).flatMap Jz).toArray Qc))).step h2;have hL1:=((hL0.step h2).R4 (Z7 w2 (.cells ((List.replicate n false).flatMap MY).toArray Yg))).step h3;have hD0:Ob MY 1 Yg w2.heap.size [b] _ (some ⟨w2.heap.size,0,none⟩) n (List.replicate n false):=Ob.of (Vv (enc:=MY) XZ.len Yg n false w2) SR;have hD1:=hD0.step h3;have s2:=(s1.R4 (Z7 w2 (.cells ((List.replicate n false).flatMap MY).toArray Yg))).step h3;exact⟨⟨hL1.own.mono s.ext.size,hD1.own.mono s1.ext.size⟩,s2.ext⟩
theorem z1m{b:Nat}{w w1 w2 w3:Wo}{q:Int}{n:Nat}(s:Sc w [b] w1)(h2:Q0 [b] (w1.alloc (.cells ((List.replicate n false).flatMap MY).toArray Yg)) w2)(bX:∀y∈[b],y<w1.heap.size)(SR:∀y∈[b],y<w2.heap.size)(h3:Q0 [b] (w2.alloc (.cells ((List.replicate n (0:Int)).flatMap Jz).toArray Qc)) w3) :
  Zs w.heap.size w3 (Jt q n) ⟨some ⟨w2.heap.size,0,none⟩,n,some ⟨w1.heap.size,0,none⟩,n,none,0⟩/\Q0 [] w w3:=by
 have hL0:Ob MY 1 Yg w1.heap.size [b] _ (some ⟨w1.heap.size,0,none⟩) n (List.replicate n false):=Ob.of (Vv (enc:=MY) XZ.len Yg n false w1) bX;have s1:=(s.R4 (Z7 w1 (.cells ((List.replicate n false).flatMap MY).toArray Yg))).step h2;have hL1:=((hL0.step h2).R4 (Z7 w2 (.cells ((List.replicate n (0:Int)).flatMap Jz).toArray Qc))).step h3;have hD0:Ob Jz 1 Qc w2.heap.size [b] _ (some ⟨w2.heap.size,0,none⟩) n (List.replicate n (0:Int)):=Ob.of (Vv (enc:=Jz) Y5.len Qc n (0:Int) w2) SR;have hD1:=hD0.step h3;have s2:=(s1.R4 (Z7 w2 (.cells ((List.replicate n (0:Int)).flatMap Jz).toArray Qc))).step h3;exact⟨⟨hD1.own.mono s1.ext.size,hL1.own.mono s.ext.size⟩,s2.ext⟩
theorem zd7{q:Int}{n:Nat}(hq:YP q 1 10000=true)(hn:YP (n:Int) 1 4=true) :
  Cz Ps #[I q,I (n:Int)] w λe w'=>∃p:MG,e=.returned (.tuple #[.agg (Zy (Jt q n) p).toArray,.bool true])/\Zs w.heap.size w' (Jt q n) p/\Q0 [] w w':=by
 refine(zc4 q (n:Int) (R:=λv w'=>∃p:MG,v=.tuple #[.agg (Zy (Jt q n) p).toArray,.bool true]/\Zs w.heap.size w' (Jt q n) p/\Q0 [] w w') ?_).mono λe w' ⟨v,he,p,hv,h3⟩=>⟨p,by rw[he,hv],h3⟩
 have hm9:=ZV;have h4:=(Qv.1 hn).2;intro b hb;have s0:Sc w [b] w:=(Sc.start w).add hb;have k1:=Qm (n:=q) (a:=1) (b:=10000) (w:=w) (bs:=[]);have k2:=Qm (n:=(n:Int)) (a:=1) (b:=4) (w:=w) (bs:=[]);rw[hq] at k1;rw[hn] at k2;refine⟨true,k1,true,λ_=>k2,λg=>by simp at g,λ_=>⟨λI' RZ bX=>⟨_,_,_,_,KF Y5 Vx n Qo Qo I',Qf (Z7 _ _) bX,λM' R5 SR=>⟨_,_,_,_,KF XZ Li n Qo Qo M',Qf (Z7 _ _) SR,λRr R6=>?_⟩⟩,λI' RZ bX=>⟨_,_,_,_,KF XZ Li n Qo Qo I',Qf (Z7 _ _) bX,λM' R5 SR=>⟨_,_,_,_,KF Y5 Vx n Qo Qo M',Qf (Z7 _ _) SR,λRr R6=>?_⟩⟩⟩⟩
 ·exact⟨_,by simp[Zy,Jt],z3r (bs:=[]) (s0.R4 RZ) R5 bX SR R6 rfl⟩
 ·exact⟨_,by simp[Zy,Jt],z1m (s0.R4 RZ) R5 bX SR R6⟩
theorem z3o{base:Nat}(h:Zo 8 base w W m){g:Int}(u0:0<=g)(u1:g<8){G:ZX}{p:MG}(hp:Zs base w G.IP p)(hb:∀x∈YN p,x∉QU 8 m)(es:G.IF=(gi W.ID g).IF){j:Nat}{vs:List Va}(he:YJ G (KE (m.ms g.toNat) p)=(YJ (gi W.ID g) (m.ms g.toNat)).take j++vs++(YJ (gi W.ID g) (m.ms g.toNat)).drop (j+vs.length))(hj:j+vs.length<=14) :
  Zo 8 base (R9 w m.gO (Int.toNat g*14+j) vs) (Rn W g G) (Gl m g.toNat (KE (m.ms g.toNat) p)):=
 h.Bm3 u0 u1 (g:=G) (p:=KE (m.ms g.toNat) p) ⟨hp.loc,hp.Ry,by rw[es]; exact(h.each u0 u1).shl⟩ (λx hx=>by
  rcases OL x hx with h1 | h1
  ·exact .inl (hb x h1)
  ·exact .inr h1) he hj
theorem Wk.gr{bs:List Nat}{w0:Wo}(h:Wk 8 bs w0 w W m){g:Int}(u0:0<=g)(u1:g<8){G:ZX}{p:MG}(hp:Zs w0.heap.size w G.IP p)(hb:∀x∈YN p,x∉QU 8 m/\x∉bs)(es:G.IF=(gi W.ID g).IF){j:Nat}{vs:List Va}(he:YJ G (KE (m.ms g.toNat) p)=(YJ (gi W.ID g) (m.ms g.toNat)).take j++vs++(YJ (gi W.ID g) (m.ms g.toNat)).drop (j+vs.length))(hj:j+vs.length<=14) :
  Wk 8 bs w0 (YtnclplgaicdapaaGreatDoor.R9 w m.gO (Int.toNat g*14+j) vs) (Rn W g G) (Gl m g.toNat (KE (m.ms g.toNat) p)):=
 ⟨h.s.call za3 λx hx=>(h.own.lt x hx).1,⟨z3o h.own u0 u1 hp (λx hx=>(hb x hx).1) es he hj,λx hx=>by
  rcases OM x hx with h1 | h1
  ·exact h.nb x h1
  ·rcases OL x h1 with h2 | h2
   ·exact(hb x h2).2
   ·exact h.nb x (UK Qo h2)⟩⟩
theorem VM{g:Int}{ok:Bool}(h:XE [] w W m)(hl:Ua W) :
  Cz XB #[.agg (Qb W m).toArray,I g,.bool ok] w λe w'=>(QD W=false/\e=.returned (.tuple #[.agg (Qb Ll zzt).toArray,I 1])/\Q0 [] w w')\/(QD W=true/\∃m',e=.returned (.tuple #[.agg (Qb W m').toArray,I (Ku W g ok)])/\Zo 8 w.heap.size w' W m'/\Q0 [] w w'):=by
 refine(j8 _ _ _ _ _ _ _ _ _ _ g ok (R:=λv w'=>(QD W=false/\v=.tuple #[.agg (Qb Ll zzt).toArray,I 1]/\Q0 [] w w')\/(QD W=true/\∃m',v=.tuple #[.agg (Qb W m').toArray,I (Ku W g ok)]/\Zo 8 w.heap.size w' W m'/\Q0 [] w w')) ?_).mono λe w' ⟨v,he,h3⟩=>by
  rw[he];rcases h3 with ⟨a,b,c⟩ | ⟨a,m',b,c⟩
  ·exact .inl ⟨a,by rw[b],c⟩
  ·exact .inr ⟨a,m',by rw[b],c⟩
 intro x hx x1 RZ wr R5 SR;refine I3 (Zh (h.ext R5) hl) ?_;rintro e wv (⟨hW,he,hy⟩ | ⟨hW,m',he,hM,hy⟩)
 ·exact⟨_,_,_,_,_,_,_,_,_,_,_,he,Qf hy SR,λ_ I' R6=>.inl ⟨hW,rfl,(R5.trans hy).fresh R6 λy hm=>.inl (Xa hx RZ y hm)⟩,λg=>by simp at g⟩
 have hK:=Wk.begin hx RZ R5 SR hM hy;have sS:((if QT W=true then 0 else 10:Int)==1)=false:=by split <;> rfl
 refine⟨_,_,_,_,_,_,_,_,_,_,_,he,Qf hy SR,λg1 I' R6=>.inr ⟨hW,m',?_,(hK.step R6).fin⟩,λg1=>⟨_,X8 hK.rd.g,λg2 M' R6=>.inr ⟨hW,m',?_,(hK.step R6).fin⟩,λg2 Rr R6=>.inr ⟨hW,m',?_,(hK.step R6).fin⟩⟩⟩
 ·have hb:Ku W g ok=1:=by
   unfold Ku;rw[C'];rw[sS] at g1
   simpa using g1
  rw[hb]; rfl
 ·rw[sS] at g1;have g1:¬(ok=false\/g=0):=by simpa using g1
  have hb:Ku W g ok=2:=by unfold Ku; rw[B' g1,C' (by simpa using g2)]
  rw[hb]; rfl
 ·rw[sS] at g1;have g1:¬(ok=false\/g=0):=by simpa using g1
  have hb:Ku W g ok=if QT W=true then 0 else 10:=by
   unfold Ku; rw[B' g1,B' (by simpa using g2)]
   cases QT W <;> rfl
  rw[hb]; rfl
theorem B9{g q p:Int}(h:XE [] w W m)(hl:Ua W) :
  Cz T0 #[.agg (Qb W m).toArray,I g,I q,I p] w λe w'=>∃v,e=.returned v/\QR (YY W (zoe W g q p) (z1a W g q p)) w v w':=by
 refine FR _ _ _ _ _ _ _ _ _ _ g q p (R:=λv w'=>QR (YY W (zoe W g q p) (z1a W g q p)) w v w') ?_;intro x hx x1 RZ;refine⟨_,λ_=>Qm,_,λ_ _=>Qm,λwr R5 SR=>?_⟩;refine I3 (VM (g:=g) (ok:=zjs q p) (h.ext R5) hl) ?_;rintro e wv (⟨hW,he,hy⟩ | ⟨hW,m',he,hM,hy⟩)
 ·exact⟨_,_,_,_,_,_,_,_,_,_,_,he,Qf hy SR,λ_ I' R6=>QR.bad hW ((R5.trans hy).fresh R6 λy hm=>.inl (Xa hx RZ y hm)),λg=>by simp at g⟩
 have hK:=Wk.begin hx RZ R5 SR hM hy;refine⟨_,_,_,_,_,_,_,_,_,_,_,he,Qf hy SR,λg1 I' R6=>QR.no hW (by simpa[zoe] using g1) (hK.step R6) rfl,λg1=>?_⟩;have hb:zoe W g q p=0:=by simpa[zoe] using g1
 have hr:=hK.rd;obtain⟨hu,hz,hok,AA8,sw,s1⟩:=zxw hW hb;obtain⟨u0,u1,_⟩:=Q4.1 hu;have bZ:=sw.a.gl;have sS:=sw.a.c1;have hc2:=sw.a.c2;have hn1:=sw.a.n1;have hn2:=sw.a.n2;have Wg:=hr.g.ix (i:=g) u0 u1;have e5:∀G mm,mm={ m' with ms:=mm.ms }->Qb (Rn W g G) mm=Qb W m':=λG mm hm=>by rw[hm]; simp[Qb,Rn]
 have eb:Qb W m'=Qb W m':=rfl;refine⟨Wg,_,_,_,_,_,_,_,_,_,_,_,_,_,_,_,_,_,_,_,_,hr.g.cells g u0 u1,λb2 bR=>⟨λg2 M' R6 fQ=>?_,λg2=>?_⟩⟩
 ·have g2:E1 q p=false:=by unfold E1; simpa only[IC] using g2
  have hlm:YP q 1 10000=true/\YP p 1 1000=true:=by unfold zjs at hok; rw[g2,Bool.false_or,A'] at hok; exact hok
  have hp:=Qv.1 hlm.2;have fK:=(hK.add bR).step (R6.mono λy hy=>Ia _ hy);refine I3 (zd7 (n:=W.IE.length) hlm.1 (Qv.2 ⟨Qo,Qo⟩)) ?_;rintro e1 R8 ⟨pb,gP,hO,cP⟩;refine⟨_,_,_,_,_,_,_,_,_,_,gP,Qf cP fQ,λb3 vK=>⟨⟨Qo,Qo⟩,Wg,?_,λRr SK eZ=>?_⟩⟩
  ·exact ztr (fK.R4 cP).own (fK.R4 cP).nb u0 Qo (j:=0) Qd
  have qD:=(fK.R4 cP).add vK
  have dY:=(qD.gr u0 Qo (G:=KC W g q p) (p:=pb) (j:=0) (vs:=YJ (KC W g q p) (KE (m'.ms g.toNat) pb)) (by rw[zof g2]; exact hO.mono fK.base) (λy hy=>?_) zl6.2.2.2.1 (by simp[YJ]) (by simp[YJ])).step (w':=Rr) (by
   rw[zof g2];exact SK.mono λy hy=>Ia _ hy)
  ·have Rq:=QA dY.own s1 Qd Qd dY.base;rw[e5 _ _ rfl] at Rq;refine I3 Rq ?_;rintro e2 RF ⟨m2,aR,SI⟩;exact⟨_,_,_,_,_,_,_,_,_,_,aR,dY.kept SI eZ,λRu Sm=>QR.ok hW hb ((dY.Sn SI eZ).step Sm)⟩
  ·have:=hO.lt y hy;refine⟨λhm=>?_,λhm=>?_⟩
   ·have:=(fK.own.lt y hm).2; omega
   ·rcases Im.1 hm with h1 | h1
    ·have:=fQ y h1; omega
    ·have:y=b3:=by simpa using h1
     omega
 ·have g2:E1 q p=true:=by unfold E1; simpa only[I6] using g2
  refine⟨Wg,?_,λRr SK eZ=>?_⟩
  ·exact ztr hK.own hK.nb u0 Qo (j:=0) Qd
  have qD:=hK.add bR
  have dY:=(qD.gr u0 Qo (G:=KC W g q p) (p:=zai) (j:=0) (vs:=YJ (KC W g q p) (KE (m'.ms g.toNat) zai)) (by rw[zsl g2]; exact z1n _ _) (λy hy=>(zuz y hy).elim) zl6.2.2.2.1 (by simp[YJ]) (by simp[YJ])).step (w':=Rr) (by
   rw[zsl g2];exact SK.mono λy hy=>Ia _ hy)
  have Rq:=QA dY.own s1 Qd Qd dY.base;rw[e5 _ _ rfl] at Rq;refine I3 Rq ?_;rintro e2 RF ⟨m2,aR,SI⟩;exact⟨_,_,_,_,_,_,_,_,_,_,aR,dY.kept SI eZ,λRu Sm=>QR.ok hW hb ((dY.Sn SI eZ).step Sm)⟩
theorem E4.pre{base pb:Nat}{ex:List Nat}{w0 w w':Wo}{W':Q8}{m m':MW}(hx:Q0 [] w0 w)(h:E4 base pb ex w m w' W' m'):E4 base pb ex w0 m w' W' m':=
 ⟨h.own,h.pt,hx.of_nil.trans h.ext,λx hy=>(h.sub x hy).imp id λhz=>IB hx.size hz⟩
theorem E4.post{base pb:Nat}{ex:List Nat}{w w' w1:Wo}{W':Q8}{m m':MW}(h:E4 base pb ex w m w' W' m')(hx:Q0 [] w' w1):E4 base pb ex w m w1 W' m':=
 ⟨h.own.Wt hx,QB h.pt hx Qs,h.ext.trans hx.of_nil,h.sub⟩
end
def Du(W:Q8)(t:Int):Int:=ZT ((Q7 W t).v-(Qa W (Q7 W t).group (Q7 W t).IZ).floor) (Qe (Q7 W t).nice)
def T6(W:Q8)(t g c:Int):Lm:={ Q7 W t with group:=g,IZ:=c,v:=(Qa W g c).floor+Du W t }
def XW(W:Q8)(t g c:Int):Q8:=if (Q7 W t).state=1 then Rz (IU W t (T6 W t g c)) c else IU W t (T6 W t g c)
theorem EF(W:Q8)(t:Int):0<=Du W t/\Du W t<=Qi:=by
 have lc:=ZH ((Q7 W t).v-(Qa W (Q7 W t).group (Q7 W t).IZ).floor) (Qe (Q7 W t).nice);have lm:=Y0 (Qe (Q7 W t).nice);unfold Du;simp only[Qi];omega
theorem SF.IU{F K:Int}{W:Q8}(h:SF F K W){t:Int}(t0:0<=t)(t1:t<12){x:Lm}(hx:x.state≠0->Q6 W.ID x.group=true/\0<=x.IZ/\x.IZ<(W.IE.length:Int))(v0:0<=x.v)(v1:x.v<=K):SF F K (IU W t x):=⟨h.w.IU t0 t1 hx v0 v1,h.f⟩
theorem SF.Rz{F K:Int}{W:Q8}(h:SF F K W){c:Int}(c0:0<=c)(c1:c<(W.IE.length:Int)):SF F K (Rz W c):=
 ⟨h.w.Rz c0 c1,λk d u a b=>h.f k d u a (by
  have b:d<(((W.IE.set c.toNat (XT (gi W.IE c))).length:Nat):Int):=b
  rwa[E'] at b)⟩
theorem zs6{F K:Int}{W:Q8}(h:SF F K W)(hk:F+Qi<=K){t g c:Int}(hg:Q6 W.ID g=true)(c0:0<=c)(c1:c<(W.IE.length:Int)):0<=(T6 W t g c).v/\(T6 W t g c).v<=K:=by
 have hf:=h.f g c hg c0 c1;have hs:=h.w.s g c hg c0 c1;have hl:=EF W t;show 0<=(Qa W g c).floor+Du W t/\(Qa W g c).floor+Du W t<=K;omega
theorem zbl{F K:Int}{W:Q8}(h:SF F K W)(hk:F+Qi<=K){t g c:Int}(t0:0<=t)(t1:t<12)(hg:Q6 W.ID g=true)(c0:0<=c)(c1:c<(W.IE.length:Int)):SF F K (IU W t (T6 W t g c))/\SF F K (XW W t g c):=by
 have hv:=zs6 h hk (t:=t) hg c0 c1;have h1:=h.IU t0 t1 (x:=T6 W t g c) (λ_=>⟨hg,c0,c1⟩) hv.1 hv.2;refine⟨h1,?_⟩;unfold XW;split
 ·exact h1.Rz c0 c1
 ·exact h1
theorem zq4(W:Q8)(t g c:Int):(XW W t g c).now=W.now/\(XW W t g c).IE.length=W.IE.length/\(XW W t g c).tasks.length=W.tasks.length/\(XW W t g c).ID=W.ID:=by
 unfold XW;split
 ·exact⟨rfl,by simp[Rz,S9,IU],by simp[Rz,S9,IU],rfl⟩
 ·exact⟨rfl,rfl,by simp[IU],rfl⟩
def Dv(m:Int):Int:=if QZ m 0=true then 0 else if QZ m 1=true then 1 else if QZ m 2=true then 2 else if QZ m 3=true then 3 else -1
theorem z0m:∀a:Fin 16,a.val≠0->QZ (a.val:Int) (Dv (a.val:Int))=true:=by decide +kernel
theorem Bn{m:Int}(h:M1 m=true)(h0:m≠0):QZ m (Dv m)=true:=by
 obtain⟨f,rfl⟩:=Ke h;exact z0m f λe=>h0 (by rw[e]; rfl)
theorem z3x(gs:List ZX)(g u:Int):M1 (Ti gs g u)=true:=by
 unfold Ti;rw[List.foldl_append];exact zbh _ _
theorem Hx{W:Q8}(ha:WA W)(g mask:Int):M1 (Qx W g mask)=true/\Qx W g mask≠0:=by
 unfold Qx;split
 ·rename_i h; exact⟨zbh _ _,h⟩
 ·split
  ·rename_i h;refine⟨?_,h⟩;exact z3x _ _ _
  ·exact⟨z13 ha.c2,ha.ups⟩
theorem HY{W:Q8}(ha:WA W)(g mask:Int):0<=Dv (Qx W g mask)/\Dv (Qx W g mask)<(W.IE.length:Int):=by
 have h:=Hx ha g mask;exact GB ha (Bn h.1 h.2)
def H6(W:Q8)(t:Int):Bool:=((Q7 W t).state != 0) && !QZ (Qx W (Q7 W t).group (Q7 W t).mask) (Q7 W t).IZ
def UM(W:Q8):Nat->Q8
 | 0=>W
 | t+1=>if H6 (UM W t) (t:Int)=true then XW (UM W t) (t:Int) (Q7 (UM W t) (t:Int)).group (Dv (Qx (UM W t) (Q7 (UM W t) (t:Int)).group (Q7 (UM W t) (t:Int)).mask)) else UM W t
def DB(W:Q8):Q8:=UM W 12
structure C2 (W W':Q8):Prop where
 n:W'.now=W.now
 c:W'.IE.length=W.IE.length
 t:W'.tasks.length=W.tasks.length
 g:W'.ID=W.ID
theorem C2.refl(W:Q8):C2 W W:=⟨rfl,rfl,rfl,rfl⟩
theorem C2.trans{A B C:Q8}(h:C2 A B)(k:C2 B C):C2 A C:=⟨k.n.trans h.n,k.c.trans h.c,k.t.trans h.t,k.g.trans h.g⟩
theorem C2.put(W:Q8)(t g c:Int):C2 W (XW W t g c):=by
 obtain⟨h1,h2,h3,h4⟩:=zq4 W t g c;exact⟨h1,h2,h3,h4⟩
theorem zmq{F K:Int}{W:Q8}(h:SF F K W)(hk:F+Qi<=K):∀t:Nat,t<=12->SF F K (UM W t)/\C2 W (UM W t)
 | 0,_=>⟨h,C2.refl _⟩
 | t+1,ht=>by
  obtain⟨a,b⟩:=zmq h hk t Qo;simp only[UM];split
  ·rename_i hm;unfold H6 at hm;simp only[A',It,ne_eq] at hm;have hg:=a.w.t (t:Int) Qo Qo hm.1;have hf:=HY a.w.a (Q7 (UM W t) (t:Int)).group (Q7 (UM W t) (t:Int)).mask;exact⟨(zbl a hk Qo Qo hg.1 hf.1 hf.2).2,b.trans (C2.put _ _ _ _)⟩
  ·exact⟨a,b⟩
theorem HP{F K:Int}{W:Q8}(h:SF F K W)(hk:F+Qi<=K):SF F K (DB W)/\C2 W (DB W):=zmq h hk 12 (I7 _)
theorem z1e{m:Int}{k:Nat}(h4:k<4)(iX:∀j:Nat,j<k->QZ m (j:Int)=false)(h:QZ m (k:Int)=true):Dv m=(k:Int):=by
 have h0:=iX 0;have h1:=iX 1;have h2:=iX 2;have:k=0\/k=1\/k=2\/k=3:=Qo;unfold Dv;rcases this with rfl | rfl | rfl | rfl
 ·rw[C' (show QZ m 0=true from h)]; rfl
 ·rw[B' (by rw[show QZ m 0=false from h0 Qd]; decide),C' (show QZ m 1=true from h)]; rfl
 ·rw[B' (by rw[show QZ m 0=false from h0 Qd]; decide),B' (by rw[show QZ m 1=false from h1 Qd]; decide),C' (show QZ m 2=true from h)]; rfl
 ·rw[B' (by rw[show QZ m 0=false from h0 Qd]; decide),B' (by rw[show QZ m 1=false from h1 Qd]; decide),B' (by rw[show QZ m 2=false from h2 Qd]; decide),C' (show QZ m 3=true from h)]; rfl
theorem z1f{m:Int}(iX:∀j:Nat,j<4->QZ m (j:Int)=false):Dv m = -1:=by
 unfold Dv;rw[B' (by rw[show QZ m 0=false from iX 0 Qd]; decide),B' (by rw[show QZ m 1=false from iX 1 Qd]; decide),B' (by rw[show QZ m 2=false from iX 2 Qd]; decide),B' (by rw[show QZ m 3=false from iX 3 Qd]; decide)]
section
variable {base:Nat}{W W':Q8}{m:MW}{w:Wo}{bar:Int}
theorem KX{x:Int}{bs:List Nat}:PX bs Uh #[I x] w (I (Dv x)):=
 Al x λwr hx=>by
  refine YV 4 0 rfl (λk=>k<=4/\∀j:Nat,j<k->QZ x (j:Int)=false) ⟨Qd,λj hj=>Ir hj (Nat.not_lt_zero j)⟩ λk ⟨hk,iX⟩=>⟨λIN=>?_,λRx=>?_⟩
  ·have IN:=Ot IN;refine⟨_,ZS,λg=>?_,λg=>⟨⟨Qo,Qo⟩,Qu Qo ⟨Qo,λj hj=>?_⟩⟩⟩
   ·rw[z1e Qo iX g]
   ·by_cases e:j=k
    ·rw[e]; exact g
    ·exact iX j Qo
  ·have Rx:=Ou Rx;have:k=4:=Qo;subst this;rw[z1f iX]
theorem Kb(W:Q8)(t:Int)(x:Lm)(m:MW):Qb (IU W t x) m=Qb W m:=by simp[Qb,IU]
theorem Vu{F K:Int}(h:Zo 8 base w W m)(dI:SF F K W)(hk:F+Qi<=K)(hK:K<=1000000000000000000){t g c:Int}(t0:0<=t)(t1:t<12)(hs:(Q7 W t).state≠0)(hg:Q6 W.ID g=true)(c0:0<=c)(c1:c<(W.IE.length:Int)) :
  Cz XG #[.agg (Qb W m).toArray,I t,I g,I c] w λe w'=>e=.returned (.agg (Qb W m).toArray)/\Mv 8 base [] w m w' (XW W t g c) m:=by
 refine(zhi _ _ _ _ _ _ _ _ _ _ t g c (R:=λv w'=>v=.agg (Qb W m).toArray/\Mv 8 base [] w m w' (XW W t g c) m) ?_).mono λe w' ⟨v,he,hv,h3⟩=>⟨by rw[he,hv],h3⟩
 intro y hy y1 cP;obtain⟨g0,g1,_⟩:=Q4.1 hg;have eM:=dI.w.a.t;have bZ:=dI.w.a.gl;have hsl:=dI.w.a.sl hg;have mX:t<(W.tasks.length:Int):=Qo;obtain⟨hu,d0,d1⟩:=dI.w.t t t0 t1 hs;obtain⟨q0,q1,_⟩:=Q4.1 hu;have hql:=dI.w.a.sl hu;have s1:=dI.w.s g c hg c0 c1;have s2:=dI.w.s _ _ hu d0 d1;have hv:=dI.w.tv t t0 t1;have hlr:=EF W t;simp only[Qi] at hlr;have hM:=Mv.two h hy cP;have hr:=(Mv.start h).rd;have Wg:=hr.t.ix QF t0 mX;have SN:=h.AD6 t0 mX (j:=0) (vs:=XS (T6 W t g c)) (x:=T6 W t g c) (by simp[XS]) (by simp[XS]);have e5:Qb (IU W t (T6 W t g c)) m=Qb W m:=Kb _ _ _ _;have e6:Qb (Rz (IU W t (T6 W t g c)) c) m=Qb W m:=(J0 (zdl _ _)).trans e5;refine⟨Du W t,DY hr t0 mX q0 q1 d0 Qo ⟨by show _<=(Q7 W t).v-(Qa W (Q7 W t).group (Q7 W t).IZ).floor; omega,by show (Q7 W t).v-(Qa W (Q7 W t).group (Q7 W t).IZ).floor<=_; omega⟩,Wg,_,_,_,_,_,_,_,_,_,hr.t t t0 mX,λb2 bR=>⟨hr.g.ix g0 g1,_,_,_,hr.g.R0 g0 g1,(hr.g.IF g g0 g1).ix X0 c0 Qo,(Qa W g c).floor,zna.f (hr.g.IF g g0 g1) c0 Qo (j:=0) rfl,⟨Qo,Qo⟩,Wg,zts h Qs t0 mX (j:=0) Qd,λg4 wr hx eZ=>?_,λg4 wr hx=>⟨rfl,?_⟩⟩⟩
 ·have g4:(Q7 W t).state=1:=Iz g4;have Wz:=((hM.add bR).Sn SN Hm).step (hx.of_nil);have Rq:=ZG Wz.own (W:=IU W t (T6 W t g c)) c0 c1;rw[e5,e6] at Rq;refine I3 Rq ?_;rintro e wv ⟨gP,SI⟩;refine⟨_,_,_,_,_,_,_,_,_,_,gP,Wz.kept SI eZ,λM' SK=>⟨rfl,?_⟩⟩;unfold XW;rw[C' g4];exact((Wz.call SI eZ).step SK).close
 ·have g4:¬(Q7 W t).state=1:=ne_of_beq_false g4;unfold XW;rw[B' g4];exact((Mv.start h).Sn SN Hm).R4 hx
theorem JQ{F K:Int}(h:Zo 8 base w W m)(dI:SF F K W)(hk:F+Qi<=K)(hK:K<=1000000000000000000) :
  Cz YH #[.agg (Qb W m).toArray] w λe w'=>e=.returned (.agg (Qb W m).toArray)/\Mv 8 base [] w m w' (DB W) m:=by
 refine(Es _ _ _ _ _ _ _ _ _ _ (R:=λv w'=>v=.agg (Qb W m).toArray/\Mv 8 base [] w m w' (DB W) m) ?_).mono λe w' ⟨v,he,hv,h3⟩=>⟨by rw[he,hv],h3⟩
 intro y hy y1 cP;have eM:=dI.w.a.t;refine⟨λvs w1=>∃(k:Nat),vs=I (k:Int)::Qb W m/\k<=12/\Mv 8 base [y,y1] w m w1 (UM W k) m,Zt 12 0,λw1 mZ _=>⟨0,rfl,Qd,(Mv.two h hy cP).R4 mZ⟩,?_⟩;rintro c1 l S5 Sb Sh S6 Se Sg S7 S8 Sa RF SR ⟨k,he,uI,hM⟩;obtain⟨hS,hF⟩:=zmq dI hk k uI;have W5:UM W (k+1)=if H6 (UM W k) (k:Int)=true then XW (UM W k) (k:Int) (Q7 (UM W k) (k:Int)).group (Dv (Qx (UM W k) (Q7 (UM W k) (k:Int)).group (Q7 (UM W k) (k:Int)).mask)) else UM W k:=rfl;have rL:k=12->DB W=UM W k:=λe=>by rw[e]; rfl
 have e0:Qb (UM W k) m=Qb W m:=by simp only[Qb,hF.n,hF.c,hF.t,hF.g]
 have eC:=hF.c;have eT:=hF.t;simp only[Qb,I4,I5,Iv,true_and,and_true] at he;obtain⟨rfl,rfl,⟨rfl,rfl,rfl⟩,⟨rfl,rfl,rfl⟩,rfl,rfl,rfl⟩:=he;generalize UM W k=V at hM hS hF W5 rL e0 eC eT;have hr:=hM.rd;refine⟨λIN=>?_,λRx w3 R6=>⟨rfl,?_⟩⟩
 ·have IN:=Ot IN;have t1:(k:Int)<(V.tasks.length:Int):=Qo;have Wg:Ix m.tO W.tasks.length (k:Int):=by have:=hr.t.ix QF (i:=(k:Int)) Qo t1; rwa[eT] at this
  have next:∀{w9 w8:Wo},Q0 [y,y1] RF w9->H6 V (k:Int)=false->(∃(k':Nat),[I ((k:Int)+1),I W.now,.slice m.cO W.IE.length m.cC,.slice m.tO W.tasks.length m.tC,.slice m.gO W.ID.length m.gC]=I (k':Int)::Qb W m/\k'<=12/\Mv 8 base [y,y1] w m w9 (UM W k') m)/\Zt 12 0 [I ((k:Int)+1),I W.now,.slice m.cO W.IE.length m.cC,.slice m.tO W.tasks.length m.tC,.slice m.gO W.ID.length m.gC] w9<Zt 12 0 [I (k:Int),I W.now,.slice m.cO W.IE.length m.cC,.slice m.tO W.tasks.length m.tC,.slice m.gO W.ID.length m.gC] w8:=λ{w9 w8} hx hm=>by
   refine⟨⟨k+1,rfl,Qo,?_⟩,?_⟩
   ·rw[W5,B' (by rw[hm]; decide)];exact hM.step hx
   ·simp only[Zt,Xy,ZE,Ie]; omega
  refine⟨Wg,_,zrw.f hr.t Qo t1 (j:=0) rfl,λg=>⟨⟨Qo,Qo⟩,λRu SK _=>next SK (by unfold H6; rw[show (Q7 V (k:Int)).state=0 from Iz g]; rfl)⟩,λg=>?_⟩;have oH:(Q7 V (k:Int)).state≠0:=ne_of_beq_false g;obtain⟨hu,d0,d1⟩:=hS.w.t (k:Int) Qo Qo oH;have hwh:=XI (g:=(Q7 V (k:Int)).group) (mask:=(Q7 V (k:Int)).mask) hr hS.w.a.c2 hS.w.a.tree hu;rw[e0] at hwh;have hf:=HY hS.w.a (Q7 V (k:Int)).group (Q7 V (k:Int)).mask;refine⟨Wg,_,zrw.f hr.t Qo t1 (j:=1) rfl,Wg,_,zrw.f hr.t Qo t1 (j:=4) rfl,_,hwh,Wg,_,zrw.f hr.t Qo t1 (j:=2) rfl,_,ZS,λg2=>⟨Wg,_,zrw.f hr.t Qo t1 (j:=1) rfl,_,KX,λRN Sm kK=>?_⟩,λg2=>⟨⟨Qo,Qo⟩,λRu SK _=>next SK (by unfold H6; rw[show QZ (Qx V (Q7 V (k:Int)).group (Q7 V (k:Int)).mask) (Q7 V (k:Int)).IZ=true from (by have h:=g2; rw[I6] at h; exact h)]; simp)⟩⟩;have hM5:=hM.step Sm;have Rq:=Vu hM5.own hS hk hK (t:=(k:Int)) (g:=(Q7 V (k:Int)).group) (c:=Dv (Qx V (Q7 V (k:Int)).group (Q7 V (k:Int)).mask)) Qo Qo oH hu hf.1 hf.2;rw[e0] at Rq;refine I3 Rq ?_;rintro e1 RU ⟨gP,gH⟩;refine⟨_,_,_,_,_,_,_,_,_,_,gP,hM5.kept gH kK,⟨Qo,Qo⟩,λSj WT _=>⟨⟨k+1,rfl,Qo,?_⟩,?_⟩⟩
  ·have hm:H6 V (k:Int)=true:=by
    unfold H6;rw[A'];exact⟨by simpa using oH,g2⟩
   rw[W5,C' hm];exact(hM5.call gH kK).step WT
  ·simp only[Zt,Xy,ZE,Ie]; omega
 ·have Rx:=Ou Rx;rw[rL Qo];exact(hM.step R6).close
section
variable {pb:Nat}
theorem zqm{F K:Int}(h:PW base pb w W m)(dI:SF F K W)(hk:F+Qi<=K)(hK:K<=1000000000000000000){t g c:Int}(t0:0<=t)(t1:t<12)(hs:(Q7 W t).state≠0)(hg:Q6 W.ID g=true)(c0:0<=c)(c1:c<(W.IE.length:Int)) :
  Cz Tu #[.pointer (pA pb),I t,I g,I c] w λe w'=>e=.returned (.tuple #[])/\Mp base pb [] w m w' (XW W t g c) m:=by
 refine(Nw (pA pb) t g c (R:=λv w'=>v=.tuple #[]/\Mp base pb [] w m w' (XW W t g c) m) ?_).mono λe w' ⟨v,he,hv,h3⟩=>⟨by rw[he,hv],h3⟩
 obtain⟨g0,g1,_⟩:=Q4.1 hg;have eM:=dI.w.a.t;have bZ:=dI.w.a.gl;have hsl:=dI.w.a.sl hg;have mX:t<(W.tasks.length:Int):=Qo;obtain⟨hu,d0,d1⟩:=dI.w.t t t0 t1 hs;obtain⟨q0,q1,_⟩:=Q4.1 hu;have hql:=dI.w.a.sl hu;have s1:=dI.w.s g c hg c0 c1;have s2:=dI.w.s _ _ hu d0 d1;have hv:=dI.w.tv t t0 t1;have hlr:=EF W t;simp only[Qi] at hlr;have hM:=Mp.start h;have hp:=hM.wpt;have BM4:=hM.own.AD6 t0 mX (j:=1) (vs:=[I g]) (x:={ Q7 W t with group:=g }) rfl Qs;have hM1:Mp base pb [] w m _ (IU W t { Q7 W t with group:=g }) m:=hM.Sn BM4 Hm (Kb _ _ _ _);have ht1:t<((IU W t { Q7 W t with group:=g }).tasks.length:Int):=by simpa[IU] using mX
 have e1:gi (IU W t { Q7 W t with group:=g }).tasks t={ Q7 W t with group:=g }:=LK t0 mX;have BM5:=hM1.own.AD6 t0 ht1 (j:=2) (vs:=[I c]) (x:={ Q7 W t with group:=g,IZ:=c }) (by rw[e1]; rfl) Qs;have Wz:Mp base pb [] w m _ (IU (IU W t { Q7 W t with group:=g }) t { Q7 W t with group:=g,IZ:=c }) m:=hM1.Sn BM5 Hm (Kb _ _ _ _);rw[set_set] at Wz;have ht2:t<((IU W t { Q7 W t with group:=g,IZ:=c }).tasks.length:Int):=by simpa[IU] using mX
 have e2:gi (IU W t { Q7 W t with group:=g,IZ:=c }).tasks t={ Q7 W t with group:=g,IZ:=c }:=LK t0 mX;have e2':Q7 (IU W t { Q7 W t with group:=g,IZ:=c }) t={ Q7 W t with group:=g,IZ:=c }:=e2;have cN:=Wz.wpt;have CO3:=B6 (t:=t) cN t0 ht2 (by rw[e2']; exact g0) (by rw[e2']; exact g1) (by rw[e2']; exact c0) (by rw[e2']; show c<(((gi W.ID g).IF.length:Nat):Int); omega);rw[e2'] at CO3;have CT4:=Wz.own.AD6 t0 ht2 (j:=5) (vs:=[I ((Qa W g c).floor+Du W t)]) (x:=T6 W t g c) (by rw[e2]; rfl) Qs;have iV:Mp base pb [] w m _ (IU (IU W t { Q7 W t with group:=g,IZ:=c }) t (T6 W t g c)) m:=Wz.Sn CT4 Hm (Kb _ _ _ _);rw[set_set] at iV;have ht3:t<((IU W t (T6 W t g c)).tasks.length:Int):=by simpa[IU] using mX
 have e3:gi (IU W t (T6 W t g c)).tasks t=T6 W t g c:=LK t0 mX;have hp3:=iV.wpt;have oH:=zrw.f hp3.rd.t t0 ht3 (j:=0) rfl;rw[e3] at oH;refine⟨hp.some,_,_,_,hp.tasks,hp.rd.t.ix QF t0 mX,_,zrw.f hp.rd.t t0 mX (j:=5) rfl,_,B6 hp t0 mX q0 q1 d0 Qo,⟨by show _<=(Q7 W t).v-(Qa W (Q7 W t).group (Q7 W t).IZ).floor; omega,by show (Q7 W t).v-(Qa W (Q7 W t).group (Q7 W t).IZ).floor<=_; omega⟩,_,OT hp t0 mX,_,Kw,zts hM.own hM.nb t0 mX (j:=1) Qd,zts hM1.own hM1.nb t0 ht1 (j:=2) Qd,_,CO3,⟨by show _<=(Qa W g c).floor+Du W t; omega,by show (Qa W g c).floor+Du W t<=_; omega⟩,zts Wz.own Wz.nb t0 ht2 (j:=5) Qd,_,oH,λg4=>⟨_,_,ZR,λwr hx _=>?_⟩,λg4 M' hx=>⟨rfl,?_⟩⟩
 ·have g4:(Q7 W t).state=1:=Iz g4;have gN:=iV.nil hx;refine I3 (V1 gN.pw (W:=IU W t (T6 W t g c)) c0 c1) ?_;rintro e wv ⟨he,hy⟩;refine⟨he,Ys,λI' RZ=>⟨rfl,?_⟩⟩;unfold XW;rw[C' g4];exact(gN.call hy Qs).nil RZ
 ·have g4:¬(Q7 W t).state=1:=ne_of_beq_false g4;unfold XW;rw[B' g4];exact iV.nil hx
end
end
theorem Lh{W:Q8}(sw:SW Qn W):SF Qn (Qn+Qi) W:=sw.sf.mono (I2 _) (by simp only[Qi]; decide)
noncomputable def EY(W:Q8)(t x:Int):Int:=if M1 x=false\/x=0 then 1 else if ZB W t=false then 2 else if QT W=false then 10 else 0
def zqz(W:Q8)(t x:Int):Lm:={ Q7 W t with mask:=x }
def zyn(W:Q8)(t x:Int):Q8:=Qg (DB (IU W t (zqz W t x)))
theorem zyo{W:Q8}{t x:Int}(hW:QD W=true)(hb:EY W t x=0):ZB W t=true/\SF Qn (Qn+Qi) W/\SF Qn (Qn+Qi) (IU W t (zqz W t x)):=by
 have wp:=Qj.1 hW;unfold EY at hb
 split at hb
 ·cases hb
 ·split at hb
  ·cases hb
  ·rename_i h2
   split at hb
   ·cases hb
   ·rename_i h3;have h1:ZB W t=true:=by simpa using h2
    have h3:QT W=true:=by simpa using h3
    have sw:=MR wp (Qj.1 h3);obtain⟨t0,t1,n⟩:=Yv h1;have hl:=wp.a.t;have hv:=sw.tv t t0 Qo;exact⟨h1,Lh sw,Lh (sw.IU t0 Qo (λ_=>sw.t t t0 Qo n) hv.1 hv.2)⟩
theorem FY{W:Q8}{m:MW}{F K:Int}(sf:SF F K W)(hk:F+Qi<=K):Qb (DB W) m=Qb W m:=by
 have hF:=(HP sf hk).2;simp only[Qb,hF.n,hF.c,hF.t,hF.g]
section
variable {base pb:Nat}{W W':Q8}{m:MW}{w:Wo}{bar:Int}
theorem zd9{t x:Int}(h:XE [] w W m)(hl:Ua W) :
  Cz Pu #[.agg (Qb W m).toArray,I t,I x] w λe w'=>∃v,e=.returned v/\QR (YY W (EY W t x) (zyn W t x)) w v w':=by
 refine zc5 _ _ _ _ _ _ _ _ _ _ t x (R:=λv w'=>QR (YY W (EY W t x) (zyn W t x)) w v w') ?_;intro y hy y1 cP wr R5 SR;refine I3 (Zh (h.ext R5) hl) ?_;rintro e wv (⟨hW,he,SI⟩ | ⟨hW,m',he,hM,SI⟩)
 ·exact⟨_,_,_,_,_,_,_,_,_,_,_,he,Qf SI SR,false,λg=>by simp at g,λ_ I' R6=>QR.bad hW ((R5.trans SI).fresh R6 λz hm=>.inl (Xa hy cP z hm)),λg=>by simp at g⟩
 have hK:=Wk.begin hy cP R5 SR hM SI;have hr:=hK.rd;have sS:((if QT W=true then 0 else 10:Int)==1)=false:=by split <;> rfl
 refine⟨_,_,_,_,_,_,_,_,_,_,_,he,Qf SI SR,_,λ_=>Xw,λg I' R6=>?_,λg0=>⟨_,Xx hr hl.t,λg M' R6=>?_,λg=>⟨λg3 Ru R6=>?_,λg3=>?_⟩⟩⟩
 ·rw[sS] at g;have g:M1 x=false\/x=0:=by simpa using g
  have hb:EY W t x=1:=by unfold EY; rw[C' g]
  exact QR.no hW (by rw[hb]; decide) (hK.step R6) hb
 ·rw[sS] at g0;have g0:¬(M1 x=false\/x=0):=by simpa using g0
  have g:ZB W t=false:=by simpa using g
  have hb:EY W t x=2:=by unfold EY; rw[B' g0,C' g]
  exact QR.no hW (by rw[hb]; decide) (hK.step R6) hb
 ·rw[sS] at g0;have g0:¬(M1 x=false\/x=0):=by simpa using g0
  have g:ZB W t=true:=by simpa using g
  have aZ:¬QT W=true:=λhr=>by rw[C' hr] at g3; simp at g3
  have hb:EY W t x=10:=by unfold EY; rw[B' g0,B' (by rw[g]; decide),C' (by simpa using aZ)]
  rw[B' aZ];exact QR.no hW (by rw[hb]; decide) (hK.step R6) hb
 rw[sS] at g0;have g0:¬(M1 x=false\/x=0):=by simpa using g0
 have g:ZB W t=true:=by simpa using g
 have aZ:QT W=true:=Iq λhr=>by rw[B' hr] at g3; simp at g3
 have hb:EY W t x=0:=by unfold EY; rw[B' g0,B' (by rw[g]; decide),B' (by rw[aZ]; decide)]
 obtain⟨_,sf0,sf⟩:=zyo hW hb;obtain⟨t0,t1,tn⟩:=Yv g;have SN:Wk 8 [y,y1] w (R9 wv m'.tO (Int.toNat t*9+4) [I x]) (IU W t (zqz W t x)) m':=hK.R9 (hK.own.AD6 t0 t1 (j:=4) (vs:=[I x]) (x:=zqz W t x) rfl Qs) Hm;refine⟨hr.t.ix QF t0 t1,zts hK.own hK.nb t0 t1 (j:=4) Qd,λRu SK eZ=>?_⟩;have e5:Qb (IU W t (zqz W t x)) m'=Qb W m':=Kb _ _ _ _;have hE:zyn W t x=Qg (DB (IU W t (zqz W t x))):=rfl;rw[hE];generalize IU W t (zqz W t x)=V at SN sf e5;have dY:=SN.step SK;have Rq:=JQ dY.own sf (I2 _) (by simp only[Qi]; decide);rw[e5] at Rq;refine I3 Rq ?_;rintro e1 R8 ⟨gP,gH⟩;refine⟨_,_,_,_,_,_,_,_,_,_,gP,dY.kept gH eZ,λRN Sm kK=>?_⟩;have dR:=(dY.Sn gH eZ).step Sm;have aE:=QA dR.own (HP sf (I2 _)).1.w (by simp only[Qi]; decide) (by simp only[Qi]; decide) dR.base;rw[FY sf (I2 _),e5] at aE;refine I3 aE ?_;rintro e2 RF ⟨m2,aR,iY⟩;exact⟨_,_,_,_,_,_,_,_,_,_,aR,dR.kept iY kK,λSj WT=>QR.ok hW hb ((dR.Sn iY kK).step WT)⟩
def zlt(W:Q8)(g x:Int):ZX:={ gi W.ID g with IE:=x }
noncomputable def zn2(W:Q8)(g x:Int):Int:=Ku W g (M1 x&&(x != 0))
def zxd(W:Q8)(g x:Int):Q8:=Qg (DB (Rn W g (zlt W g x)))
theorem zxe{W:Q8}{g x:Int}(hW:QD W=true)(hb:zn2 W g x=0):Q6 W.ID g=true/\QT W=true/\SF Qn (Qn+Qi) W/\SF Qn (Qn+Qi) (Rn W g (zlt W g x))/\Z1 W.ID (Rn W g (zlt W g x)).ID:=by
 obtain⟨h1,h2,h3,h4⟩:=zlu hb;have wp:=Qj.1 hW;have sw:=MR wp (Qj.1 h4);obtain⟨u0,u1,hg⟩:=wp.a.u h3;have hl:=wp.a.gl;simp only[A',It,ne_eq] at h1;exact⟨h3,h4,Lh sw,Lh (sw.Rn (x:=zlt W g x) h3 rfl rfl rfl rfl ⟨hg.w1,hg.w2,h1.1,h1.2,hg.s,hg.len,λh=>Ir h h2,hg.none,hg.IP⟩),U9 u0 Qo rfl rfl rfl⟩
theorem v8{g x:Int}(h:XE [] w W m)(hl:Ua W) :
  Cz Oi #[.agg (Qb W m).toArray,I g,I x] w λe w'=>∃v,e=.returned v/\QR (YY W (zn2 W g x) (zxd W g x)) w v w':=by
 refine CO _ _ _ _ _ _ _ _ _ _ g x (R:=λv w'=>QR (YY W (zn2 W g x) (zxd W g x)) w v w') ?_;intro y hy y1 cP;refine⟨_,Xw,λwr R5 SR=>?_⟩;refine I3 (VM (g:=g) (ok:=M1 x&&(x != 0)) (h.ext R5) hl) ?_;rintro e wv (⟨hW,he,SI⟩ | ⟨hW,m',he,hM,SI⟩)
 ·exact⟨_,_,_,_,_,_,_,_,_,_,_,he,Qf SI SR,λ_ I' R6=>QR.bad hW ((R5.trans SI).fresh R6 λz hm=>.inl (Xa hy cP z hm)),λg=>by simp at g⟩
 have hK:=Wk.begin hy cP R5 SR hM SI;refine⟨_,_,_,_,_,_,_,_,_,_,_,he,Qf SI SR,λg1 I' R6=>QR.no hW (by simpa[zn2] using g1) (hK.step R6) rfl,λg1=>?_⟩;have hb:zn2 W g x=0:=by simpa[zn2] using g1
 have hr:=hK.rd;obtain⟨hu,AA8,sf0,sf,hT⟩:=zxe hW hb;obtain⟨u0,u1,_⟩:=Q4.1 hu;have bZ:=sf0.w.a.gl;have SN:Wk 8 [y,y1] w (R9 wv m'.gO (Int.toNat g*14+4) [I x]) (Rn W g (zlt W g x)) m':=hK.R9 (hK.own.A48 u0 Qo (g:=zlt W g x) rfl rfl rfl (j:=4) (vs:=[I x]) rfl Qs) za3;refine⟨hr.g.ix (i:=g) u0 u1,ztr hK.own hK.nb (i:=g) u0 Qo (j:=4) (k:=1) Qd,λRu SK eZ=>?_⟩;have e5:Qb (Rn W g (zlt W g x)) m'=Qb W m':=by simp[Qb,Rn]
 have hE:zxd W g x=Qg (DB (Rn W g (zlt W g x))):=rfl;rw[hE];generalize Rn W g (zlt W g x)=V at SN sf e5;have dY:=SN.step SK;have Rq:=JQ dY.own sf (I2 _) (by simp only[Qi]; decide);rw[e5] at Rq;refine I3 Rq ?_;rintro e1 R8 ⟨gP,gH⟩;refine⟨_,_,_,_,_,_,_,_,_,_,gP,dY.kept gH eZ,λRN Sm kK=>?_⟩;have dR:=(dY.Sn gH eZ).step Sm;have aE:=QA dR.own (HP sf (I2 _)).1.w (by simp only[Qi]; decide) (by simp only[Qi]; decide) dR.base;rw[FY sf (I2 _),e5] at aE;refine I3 aE ?_;rintro e2 RF ⟨m2,aR,iY⟩;exact⟨_,_,_,_,_,_,_,_,_,_,aR,dR.kept iY kK,λSj WT=>QR.ok hW hb ((dR.Sn iY kK).step WT)⟩
end
def z4a(W:Q8)(c:Int)(j:Nat):Bool:=((Q7 W (j:Int)).state==1)&&((Q7 W (j:Int)).IZ==c)
def zmp(W:Q8)(c:Int)(j:Nat):Int:=if z4a W c j=true then 1 else 0
def zl4(W:Q8)(c:Int)(j:Nat):Int:=if z4a W c j=true then (Q7 W (j:Int)).load else 0
def zou(W:Q8)(c:Int):Int:=X9 (zmp W c) W.tasks.length
def zl5(W:Q8)(c:Int):Int:=X9 (zl4 W c) W.tasks.length
def z1d(W:Q8)(a b:Int):Bool:=decide (zl5 W a<zl5 W b)||((zl5 W a==zl5 W b)&&decide (zou W a<zou W b))
def MM(W:Q8)(m:Int):Nat->Int
 | 0 => -1
 | k+1=>if (QZ m (k:Int)&&(decide (MM W m k<0)||z1d W (k:Int) (MM W m k)))=true then (k:Int) else MM W m k
def K2(W:Q8)(m:Int):Int:=MM W m W.IE.length
theorem zoq{W:Q8}{m:Int}{k:Nat}(h:(QZ m (k:Int)&&(decide (MM W m k<0)||z1d W (k:Int) (MM W m k)))=true):MM W m (k+1)=(k:Int):=C' h
theorem zs3{W:Q8}{m:Int}{k:Nat}(h:(QZ m (k:Int)&&(decide (MM W m k<0)||z1d W (k:Int) (MM W m k)))=false):MM W m (k+1)=MM W m k:=B' (by rw[h]; decide)
theorem zfh(W:Q8)(m:Int):∀k:Nat,-1<=MM W m k/\MM W m k<(k:Int)/\(0<=MM W m k->QZ m (MM W m k)=true)
 | 0=>⟨I2 _,by show (-1:Int)<0; decide,λh=>by have:(0:Int)<=-1:=h; omega⟩
 | k+1=>by
  have ih:=zfh W m k;simp only[MM];split
  ·rename_i h;simp only[A'] at h;exact⟨Qo,Qo,λ_=>h.1⟩
  ·exact⟨ih.1,Qo,ih.2.2⟩
theorem zj4{W:Q8}{m:Int}{j:Nat}(h:QZ m (j:Int)=true):∀k:Nat,j<k->0<=MM W m k
 | 0,hk=>Ir hk (Nat.not_lt_zero j)
 | k+1,hk=>by
  by_cases e:j=k
  ·subst e
   by_cases hn:MM W m j<0
   ·rw[zoq (by rw[h,Ih hn]; rfl)]; omega
   ·simp only[MM]; split <;> omega
  ·have:=zj4 (W:=W) h k Qo;simp only[MM]
   split <;> omega
theorem z3y{W:Q8}(ha:WA W){m:Int}(hm:M1 m=true)(h0:m≠0)(hs:∀c:Int,QZ m c=true->0<=c/\c<(W.IE.length:Int)):0<=K2 W m/\K2 W m<(W.IE.length:Int)/\QZ m (K2 W m)=true:=by
 have hf:=Bn hm h0;have hr:=hs _ hf;have e:((Dv m).toNat:Int)=Dv m:=Qo;have h1:=zj4 (W:=W) (m:=m) (j:=(Dv m).toNat) (by rw[e]; exact hf) W.IE.length Qo;have h2:=zfh W m W.IE.length;exact⟨h1,h2.2.1,h2.2.2 h1⟩
theorem HN{W:Q8}(ha:WA W)(g mask:Int):0<=K2 W (Qx W g mask)/\K2 W (Qx W g mask)<(W.IE.length:Int)/\QZ (Qx W g mask) (K2 W (Qx W g mask))=true:=
 z3y ha (Hx ha g mask).1 (Hx ha g mask).2 λ_ h=>GB ha h
def EH(m:Int):Nat->Int
 | 0=>0
 | k+1=>if QZ m (k:Int)=true then EH m k+1 else EH m k
theorem zei(m:Int):∀k:Nat,0<=EH m k/\EH m k<=(k:Int)
 | 0=>by simp[EH]
 | k+1=>by
  have:=zei m k;simp only[EH]
  split <;> omega
def z5g(W:Q8):Prop:=∀t:Int,0<=t->t<12->0<=(Q7 W t).load/\(Q7 W t).load<=8000000
theorem zxv{W:Q8}(wp:YI W):z5g W:=λt t0 t1=>by
 rcases wp.t t t0 t1 with h | ⟨_,h⟩
 ·rw[h.2]; decide
 ·exact⟨h.l1,h.l2⟩
theorem zq6(W:Q8)(c:Int)(j:Nat):0<=zmp W c j/\zmp W c j<=1:=by unfold zmp; split <;> omega
theorem zq7{W:Q8}(c:Int)(k:Nat):0<=X9 (zmp W c) k/\X9 (zmp W c) k<=(k:Int)*1:=T9 (zq6 W c) k
theorem zee{W:Q8}(hl:z5g W)(c:Int):∀k:Nat,k<=12->0<=X9 (zl4 W c) k/\X9 (zl4 W c) k<=(k:Int)*8000000
 | 0,_=>by simp[X9]
 | k+1,hk=>by
  have ih:=zee hl c k Qo;have h1:=hl (k:Int) Qo Qo;simp only[X9];have h2:0<=zl4 W c k/\zl4 W c k<=8000000:=by unfold zl4; split <;> omega
  omega
section
variable {W:Q8}{m:MW}{w:Wo}{bs:List Nat}{p:OA}
theorem PA{c:Int}(h:XE bs w W m)(eM:W.tasks.length=12):PX bs Jr #[.agg (Qb W m).toArray,I c] w (I (zou W c)):=
 zat _ _ _ _ _ _ _ _ _ _ c λwr hx=>by
  have h:=(h.ext hx).less (cs:=[]) Qs;intro _ _;refine TX W.tasks.length 0 rfl (λx k=>k<=W.tasks.length/\x=X9 (zmp W c) k) ⟨Ic _,rfl⟩ λx k ⟨hk,R5⟩=>⟨λIN=>?_,λRx=>?_⟩
  ·have IN:=Ot IN;have hr:=zq7 (W:=W) c k;refine⟨h.t.ix QF Qo IN,_,h.t.f Qo IN (j:=0) rfl,λ_=>h.t.ix QF Qo IN,_,λ_=>h.t.f Qo IN (j:=2) rfl,λg2=>⟨⟨Qo,Qo⟩,⟨Qo,Qo⟩,QH Qo ⟨Qo,?_⟩⟩,λg2=>⟨⟨Qo,Qo⟩,QH Qo ⟨Qo,?_⟩⟩⟩
   ·have g2:z4a W c k=true:=g2;simp only[X9,zmp]; rw[C' g2,R5]
   ·have g2:z4a W c k=false:=g2;simp only[X9,zmp]; rw[B' (by rw[g2]; decide),R5,Int.add_zero]
  ·have Rx:=Ou Rx;have:k=W.tasks.length:=Qo;subst this;rw[R5]; rfl
theorem VL{c:Int}(h:XE bs w W m)(eM:W.tasks.length=12)(hl:z5g W):PX bs XA #[.agg (Qb W m).toArray,I c] w (I (zl5 W c)):=
 zar _ _ _ _ _ _ _ _ _ _ c λwr hx=>by
  have h:=(h.ext hx).less (cs:=[]) Qs;intro _ _;refine TX W.tasks.length 0 rfl (λx k=>k<=W.tasks.length/\x=X9 (zl4 W c) k) ⟨Ic _,rfl⟩ λx k ⟨hk,R5⟩=>⟨λIN=>?_,λRx=>?_⟩
  ·have IN:=Ot IN;have hr:=zee hl c k Qo;have mX:=hl (k:Int) Qo Qo;refine⟨h.t.ix QF Qo IN,_,h.t.f Qo IN (j:=0) rfl,λ_=>h.t.ix QF Qo IN,_,λ_=>h.t.f Qo IN (j:=2) rfl,λg2=>⟨h.t.ix QF Qo IN,(Q7 W (k:Int)).load,h.t.f Qo IN (j:=8) rfl,⟨Qo,Qo⟩,⟨Qo,Qo⟩,QH Qo ⟨Qo,?_⟩⟩,λg2=>⟨⟨Qo,Qo⟩,QH Qo ⟨Qo,?_⟩⟩⟩
   ·have g2:z4a W c k=true:=g2;simp only[X9,zl4]; rw[C' g2,R5]
   ·have g2:z4a W c k=false:=g2;simp only[X9,zl4]; rw[B' (by rw[g2]; decide),R5,Int.add_zero]
  ·have Rx:=Ou Rx;have:k=W.tasks.length:=Qo;subst this;rw[R5]; rfl
theorem G1{x:Int}(h:XE bs w W m)(ha:WA W)(hl:z5g W):PX bs UX #[.agg (Qb W m).toArray,I x] w (I (K2 W x)):=
 zas _ _ _ _ _ _ _ _ _ _ x λwr hx=>by
  have h:=(h.ext hx).less (cs:=[]) Qs;have rV:=ha.c2;have eM:=ha.t;intro _ _;refine TX W.IE.length 0 rfl (λb k=>k<=W.IE.length/\b=MM W x k) ⟨Ic _,rfl⟩ λb k ⟨hk,hb⟩=>⟨λIN=>?_,λRx=>?_⟩
  ·have IN:=Ot IN;have key:(((decide (b<0))||(decide (zl5 W (k:Int)<zl5 W b)))||((zl5 W (k:Int)==zl5 W b)&&(decide (zou W (k:Int)<zou W b))))=(decide (MM W x k<0)||z1d W (k:Int) (MM W x k)):=by rw[hb,Bool.or_assoc]; rfl
   refine⟨_,ZS,λg=>⟨⟨Qo,Qo⟩,QH Qo ⟨Qo,?_⟩⟩,λg=>⟨_,λ_=>VL h eM hl,_,λ_=>VL h eM hl,_,λ_=>VL h eM hl,_,λ_=>VL h eM hl,_,λ_ _=>PA h eM,_,λ_ _=>PA h eM,λg2=>⟨⟨Qo,Qo⟩,QH Qo ⟨Qo,?_⟩⟩,λg2=>⟨⟨Qo,Qo⟩,QH Qo ⟨Qo,?_⟩⟩⟩⟩
   ·have g:QZ x (k:Int)=false:=by simpa using g
    rw[hb,zs3 (by rw[g]; rfl)]
   ·have g:QZ x (k:Int)=true:=by simpa using g
    rw[zoq (by rw[g,<-key,g2]; rfl)]
   ·have g:QZ x (k:Int)=true:=by simpa using g
    rw[hb,zs3 (by rw[g,<-key,g2]; rfl)]
  ·have Rx:=Ou Rx;have:k=W.IE.length:=Qo;subst this;rw[hb]; rfl
theorem NY{x:Int}:PX bs TH #[I x] w (I (EH x 4)):=
 Ak x λwr hx=>by
  refine TX 4 0 rfl (λn k=>k<=4/\n=EH x k) ⟨Qd,rfl⟩ λn k ⟨hk,hn⟩=>⟨λIN=>?_,λRx=>?_⟩
  ·have IN:=Ot IN;have hr:=zei x k;refine⟨_,ZS,λg=>⟨⟨Qo,Qo⟩,⟨Qo,Qo⟩,QH Qo ⟨Qo,?_⟩⟩,λg=>⟨⟨Qo,Qo⟩,QH Qo ⟨Qo,?_⟩⟩⟩
   ·simp only[EH]; rw[C' g,hn]
   ·simp only[EH]; rw[B' (by rw[g]; decide),hn]
  ·have Rx:=Ou Rx;have:k=4:=Qo;subst this;rw[hn]
end
def L3(n:Int):Int:=if YP n 1 4=true then (if n=1 then 0 else if n=2 then 1 else 2) else 0
theorem zju{n:Int}(h:YP n 1 4=true):(n=1/\L3 n=0)\/(n=2/\L3 n=1)\/(n=3/\L3 n=2)\/(n=4/\L3 n=2):=by
 have:=Qv.1 h;have:n=1\/n=2\/n=3\/n=4:=Qo;rcases this with rfl | rfl | rfl | rfl
 ·exact .inl ⟨rfl,Qd⟩
 ·exact .inr (.inl ⟨rfl,Qd⟩)
 ·exact .inr (.inr (.inl ⟨rfl,Qd⟩))
 ·exact .inr (.inr (.inr ⟨rfl,Qd⟩))
def zjx(c lv j:Int):Bool:=Int.fdiv j (2 ^ (min (Int.toNat (lv+1)) 64))==Int.fdiv c (2 ^ (min (Int.toNat (lv+1)) 64))
def zre(c lv:Int):Nat->Int
 | 0=>0
 | k+1=>if zjx c lv (k:Int)=true then zre c lv k+XU k else zre c lv k
theorem zmu(c lv:Int):∀k:Nat,k<=4->0<=zre c lv k/\zre c lv k<XU k
 | 0,_=>by simp[zre,XU]
 | k+1,h=>by
  have ih:=zmu c lv k Qo
  have hb:XU (k+1)=2*XU k/\0<=XU k:=by
   have:k=0\/k=1\/k=2\/k=3:=Qo;rcases this with rfl | rfl | rfl | rfl <;> decide
  simp only[zre]
  split <;> omega
def LJ(n c lv:Int):Bool:=(YP n 1 4&&YP c 0 (n-1))&&YP lv 0 (L3 n-1)
def Gn(n c lv:Int):Int:=if LJ n c lv=true then zre c lv n.toNat else 0
theorem z1x:∀(m:Fin 16) (c:Fin 4),(m.val:Int)<XU c.val->QZ (m.val:Int) (c.val:Int)=false:=by decide +kernel
theorem zy1{n:Nat}{c lv:Int}{b:Nat}(hn:n<=b)(hb:b<4):QZ (Gn (n:Int) c lv) (b:Int)=false:=by
 have h:0<=Gn (n:Int) c lv/\Gn (n:Int) c lv<XU b:=by
  unfold Gn;split
  ·rename_i hs;rw[Ig];have h1:=zmu c lv n Qo
   have:XU n<=XU b:=by
    have key:∀x y:Fin 4,x.val<=y.val->XU x.val<=XU y.val:=by decide +kernel
    exact key ⟨n,Qo⟩ ⟨b,hb⟩ hn
   omega
  ·have:=Kq (k:=b) Qo;omega
 have h2:=Kq (k:=b) Qo;have:=z1x ⟨(Gn (n:Int) c lv).toNat,Qo⟩ ⟨b,hb⟩ (by show ((Gn (n:Int) c lv).toNat:Int)<XU b; omega);have e:((Gn (n:Int) c lv).toNat:Int)=Gn (n:Int) c lv:=Qo;simp only[e] at this;exact this
section
variable {w:Wo}{bs:List Nat}{n c lv:Int}
theorem zsp{n:Int}{k:Nat}(h:YP n 1 4=true)(hk:(k:Int)<=L3 n):(decide ((1*2 ^ (min (Int.toNat (k:Int)) 64):Int)<n)=true->(k:Int)+1<=L3 n)/\(decide ((1*2 ^ (min (Int.toNat (k:Int)) 64):Int)<n)=false->(k:Int)=L3 n):=by
 rcases zju h with ⟨rfl,e⟩ | ⟨rfl,e⟩ | ⟨rfl,e⟩ | ⟨rfl,e⟩ <;> rw[e] at hk ⊢
 ·have:k=0:=Qo;subst this; decide
 ·have:k=0\/k=1:=Qo;rcases this with rfl | rfl <;> decide
 ·have:k=0\/k=1\/k=2:=Qo;rcases this with rfl | rfl | rfl <;> decide
 ·have:k=0\/k=1\/k=2:=Qo;rcases this with rfl | rfl | rfl <;> decide
theorem zeh(n:Int):0<=L3 n/\L3 n<=2:=by
 unfold L3;split
 ·split
  ·omega
  ·split <;> omega
 ·omega
theorem PO:PX bs J6 #[I n] w (I (L3 n)):=
 DA n λwr hx=>by
  refine⟨_,Qm,λq=>?_,λq=>?_⟩
  ·have q:YP n 1 4=false:=by simpa using q
   have:L3 n=0:=B' (by rw[q]; decide);rw[this]
  ·have q:YP n 1 4=true:=by simpa using q
   have hl:=zeh n;refine⟨λvs=>∃k:Nat,vs=[I (k:Int)]/\(k:Int)<=L3 n,λvs=>(2-ZE 0 vs).toNat,⟨0,rfl,hl.1⟩,?_⟩;rintro k' ⟨k,he,hk⟩;simp only[I4,I5,true_and,and_true] at he;subst he;have hb:=Kq (k:=k) Qo;have dH:(1*2 ^ (min (Int.toNat (k:Int)) 64):Int)=XU k:=rfl;obtain⟨s1,s2⟩:=zsp q hk;refine⟨⟨Qo,Qo⟩,⟨Qo,by rw[dH]; exact⟨Qo,Qo⟩⟩,λg=>⟨⟨Qo,Qo⟩,⟨k+1,Qs,by have:=s1 g; omega⟩,?_⟩,λg=>by rw[<-s2 g]⟩;have:=s1 g;show (2-((k:Int)+1)).toNat<(2-(k:Int)).toNat;omega
theorem PM:PX bs J2 #[I n] w (I (L3 n)):=
 Dw n λwr hx=>by
  refine⟨_,QC,λq=>?_,λq=>?_⟩
  ·have q:YP n 1 4=false:=by simpa using q
   have:L3 n=0:=B' (by rw[q]; decide);rw[this]
  ·have q:YP n 1 4=true:=by simpa using q
   have hl:=zeh n;refine⟨λvs=>∃k:Nat,vs=[I (k:Int)]/\(k:Int)<=L3 n,λvs=>(2-ZE 0 vs).toNat,⟨0,rfl,hl.1⟩,?_⟩;rintro k' ⟨k,he,hk⟩;simp only[I4,I5,true_and,and_true] at he;subst he;have hb:=Kq (k:=k) Qo;have dH:(1*2 ^ (min (Int.toNat (k:Int)) 64):Int)=XU k:=rfl;obtain⟨s1,s2⟩:=zsp q hk;refine⟨⟨Qo,by rw[dH]; exact⟨Qo,Qo⟩⟩,λg=>⟨⟨Qo,Qo⟩,⟨k+1,Qs,by have:=s1 g; omega⟩,?_⟩,λg=>by rw[<-s2 g]⟩;have:=s1 g;show (2-((k:Int)+1)).toNat<(2-(k:Int)).toNat;omega
theorem zkg(h:LJ n c lv=true):YP n 1 4=true/\0<=c/\c<n/\0<=lv/\lv<=1:=by
 unfold LJ at h;simp only[A'] at h;have h1:=Qv.1 h.1.2;have h2:=Qv.1 h.2;have:=zeh n;exact⟨h.1.1,h1.1,Qo,h2.1,Qo⟩
theorem B8:PX bs VZ #[I n,I c,I lv] w (I (Gn n c lv)):=
 Bz n c lv λwr hx=>by
  have hl:=zeh n
  have e:(((!YP n 1 4)||(!YP c 0 (n-1)))||(!YP lv 0 (L3 n-1))) = !LJ n c lv:=by
   unfold LJ; rw[Bool.not_and,Bool.not_and]
  refine⟨_,Qm,λq=>?_,_,λ_=>Qm,_,λ_=>PO,λ_=>⟨Qo,Qo⟩,_,λ_=>Qm,λq=>?_,λq=>?_⟩
  ·have q:=Qv.1 (by simpa using q:YP n 1 4=true);exact⟨Qo,Qo⟩
  ·rw[e] at q;have:Gn n c lv=0:=B' (by simpa using q);rw[this]
  ·rw[e] at q;have q:LJ n c lv=true:=by simpa using q
   obtain⟨h1,c0,c1,l0,l1⟩:=zkg q;have hn:=Qv.1 h1;obtain⟨N,rfl⟩:∃N:Nat,n=(N:Int):=⟨n.toNat,Qo⟩;have hD:Gn (N:Int) c lv=zre c lv N:=by unfold Gn; rw[C' q,Ig]
   rw[hD];refine TX N 0 rfl (λx k=>k<=N/\x=zre c lv k) ⟨Ic _,rfl⟩ λx k ⟨hk,R5⟩=>⟨λIN=>?_,λRx=>?_⟩
   ·have IN:=Ot IN;have hb:=Kq (k:=k) Qo;have hs:=zmu c lv k Qo;have dH:(1*2 ^ (min (Int.toNat (k:Int)) 64):Int)=XU k:=rfl;refine⟨⟨Qo,Qo⟩,⟨Qo,Qo⟩,Qo,⟨Qo,Qo⟩,⟨Qo,Qo⟩,Qo,λhu=>?_,λhu=>?_⟩
    ·rw[dH,R5];refine⟨⟨Qo,Qo⟩,⟨Qo,Qo,Qo⟩,⟨Qo,Qo⟩,⟨Qo,Qo⟩,QH Qo ⟨Qo,?_⟩⟩;simp only[zre]; rw[C' (show zjx c lv (k:Int)=true from hu)]
    ·refine⟨⟨Qo,Qo⟩,QH Qo ⟨Qo,?_⟩⟩;rw[R5]; simp only[zre]; rw[B' (by rw[show zjx c lv (k:Int)=false from hu]; decide)]
   ·have Rx:=Ou Rx;have:k=N:=Qo;subst this;rw[R5]
def zpk(c lv:Int)(k i:Nat):Bool:=decide (i<k)&&zjx c lv (i:Int)
theorem NS{N:Nat}(hN:N<=4)(l0:0<=lv)(l1:lv<=1):PX bs Tz #[I (N:Int),I c,I lv] w (.agg #[.bool (zpk c lv N 0),.bool (zpk c lv N 1),.bool (zpk c lv N 2),.bool (zpk c lv N 3)]):=
 Ai (N:Int) c lv λwr hx=>by
  refine λ_ _ _ _=>⟨λvs=>∃k:Nat,vs=[I (k:Int),.bool (zpk c lv k 0),.bool (zpk c lv k 1),.bool (zpk c lv k 2),.bool (zpk c lv k 3)]/\k<=N,λvs=>(4-ZE 0 vs).toNat,⟨0,rfl,Ic _⟩,?_⟩
  rintro k' b0 b1 b2 b3 ⟨k,he,hk⟩;simp only[I4,I5,Value.bool.injEq,true_and,and_true] at he;obtain⟨rfl,rfl,rfl,rfl,rfl⟩:=he;refine⟨λIN=>?_,λRx=>?_⟩
  ·have IN:=Ot IN;have hk4:k<4:=Qo;refine⟨⟨Qo,Qo⟩,Qo,⟨Qo,Qo⟩,Qo,⟨Qo,Qo⟩,Qo,zpk c lv (k+1) 0,zpk c lv (k+1) 1,zpk c lv (k+1) 2,zpk c lv (k+1) 3,?_,⟨Qo,Qo⟩,⟨k+1,Qs,Qo⟩,?_⟩
   ·rw[Ig,Nat.add_zero];have:k=0\/k=1\/k=2\/k=3:=Qo;rcases this with rfl | rfl | rfl | rfl <;> simp[zpk,zjx]
   ·show (4-((k:Int)+1)).toNat<(4-(k:Int)).toNat;omega
  ·have Rx:=Ou Rx;have:k=N:=Qo;subst this;rfl
theorem B5:PX bs VT #[I n,I c,I lv] w (I (Gn n c lv)):=
 Br n c lv λwr hx=>by
  have hl:=zeh n
  have e:(((!YP n 1 4)||(!YP c 0 (n-1)))||(!YP lv 0 (L3 n-1))) = !LJ n c lv:=by
   unfold LJ; rw[Bool.not_and,Bool.not_and]
  refine⟨_,QC,λq=>?_,_,λ_=>QC,_,λ_=>PM,λ_=>⟨Qo,Qo⟩,_,λ_=>QC,λq=>?_,λq=>?_⟩
  ·have q:=Qv.1 (by simpa using q:YP n 1 4=true);exact⟨Qo,Qo⟩
  ·rw[e] at q;have:Gn n c lv=0:=B' (by simpa using q);rw[this]
  ·rw[e] at q;have q:LJ n c lv=true:=by simpa using q
   obtain⟨h1,c0,c1,l0,l1⟩:=zkg q;have hn:=Qv.1 h1;obtain⟨N,rfl⟩:∃N:Nat,n=(N:Int):=⟨n.toNat,Qo⟩;have hD:Gn (N:Int) c lv=zre c lv (min 4 N):=by unfold Gn; rw[C' q,Ig,Nat.min_eq_right Qo]
   rw[hD];refine⟨_,_,_,_,NS Qo l0 l1,?_⟩;refine TX 4 0 rfl (λx k=>k<=4/\x=zre c lv (min k N)) ⟨Ic _,by rw[Nat.zero_min]; rfl⟩ λx k ⟨hk,R5⟩=>⟨λIN=>?_,λRx=>?_⟩
   ·have IN:=Ot IN;have hk4:k<4:=Qo;have hb:=Kq (k:=k) Qo;have dH:(1*2 ^ (min (Int.toNat (k:Int)) 64):Int)=XU k:=rfl;refine⟨zpk c lv N k,⟨Qo,Qo,?_⟩,λhu=>?_,λhu=>?_⟩
    ·rw[Ig];have:k=0\/k=1\/k=2\/k=3:=Qo;rcases this with rfl | rfl | rfl | rfl <;> rfl
    ·unfold zpk at hu;simp only[A',Ij] at hu;have hm:min k N=k:=Nat.min_eq_left Qo;have hs:=zmu c lv k Qo;rw[dH,R5,hm,zyg hk4 hs.1 hs.2];refine⟨⟨Qo,Qo,Qo⟩,⟨Qo,Qo⟩,QH hk4 ⟨Qo,?_⟩⟩;rw[Nat.min_eq_left Qo];simp only[zre]; rw[C' hu.2]
    ·refine⟨⟨Qo,Qo⟩,QH hk4 ⟨Qo,?_⟩⟩;rw[R5]
     by_cases hkN:k<N
     ·have hn:zjx c lv (k:Int)=false:=by
       unfold zpk at hu;rw[Ih hkN,Bool.true_and] at hu;exact hu
      rw[Nat.min_eq_left Qo,Nat.min_eq_left Qo];simp only[zre]; rw[B' (by rw[hn]; decide)]
     ·rw[Nat.min_eq_right Qo,Nat.min_eq_right Qo]
   ·have Rx:=Ou Rx;have:k=4:=Qo;subst this;rw[R5]
end
def AV(W:Q8)(g:Int):List Int:=QP W.ID g++[0]
def Lu(W:Q8)(g c:Int):Bool:=(AV W g).any λx=>Yx W x c
theorem zf4(W:Q8):AV W 0=[0]:=by unfold AV; rw[show QP W.ID 0=[] from Zi W.ID 3]; rfl
theorem zf5{W:Q8}(ht:Y8 W.ID){g:Int}(hu:Q6 W.ID g=true)(hz:g≠0):AV W g=g::AV W (gi W.ID g).parent:=by
 unfold AV;rw[Yt ht hu hz,List.cons_append]
theorem zzl{W:Q8}(ht:Y8 W.ID){g:Int}(hu:Q6 W.ID g=true):∀x∈AV W g,Q6 W.ID x=true:=by
 have hr:Q6 W.ID 0=true:=Q4.2 ⟨Qd,by have:=ht.len; omega,ht.ru⟩;refine Pf ht (Q:=λh=>∀x∈AV W h,Q6 W.ID x=true) ?_ (λh hu hz ih=>?_) g hu
 ·rw[zf4];intro x hx;have:x=0:=by simpa using hx
  rw[this]; exact hr
 ·rw[zf5 ht hu hz];intro x hx;rcases Ii.1 hx with rfl | hx
  ·exact hu
  ·exact ih x hx
theorem zfd(gs:List ZX):∀(f:Nat) (g:Int),(Vc f gs g).length<=f
 | 0,_=>I7 _
 | f+1,g=>by
  simp only[Vc];split
  ·simp
  ·have:=zfd gs f (gi gs g).parent;simp; omega
theorem ztm(W:Q8)(g:Int):(AV W g).length<=4:=by
 unfold AV;have:=zfd W.ID 3 g;simp; omega
theorem zji(W:Q8)(c:Int):Lu W 0 c=Yx W 0 c:=by
 unfold Lu; rw[zf4]; simp
theorem zjj{W:Q8}(ht:Y8 W.ID){g c:Int}(hu:Q6 W.ID g=true)(hz:g≠0):Lu W g c=(Yx W g c||Lu W (gi W.ID g).parent c):=by
 unfold Lu;rw[zf5 ht hu hz]; rfl
def Zw(W:Q8)(t c:Int):Bool:=
 (!(((((((Q7 W t).state != 1)||((Q7 W t).IZ==c))||((gi W.IE (Q7 W t).IZ).cur==t))||(!Z3 W t))||(!QZ (Qx W (Q7 W t).group (Q7 W t).mask) c)))) && !Lu W (Q7 W t).group c
def Pl(W:Q8)(b c:Int):Bool:=O8 (λt=>((Q7 W (t:Int)).IZ==b)&&Zw W (t:Int) c) 12
theorem GA{W:Q8}{t c:Int}(h:Zw W t c=true):(Q7 W t).state=1/\(Q7 W t).IZ≠c:=by
 unfold Zw at h;simp only[A',IC,H',bne_eq_false_iff_eq,beq_eq_false_iff_ne] at h;exact⟨h.1.1.1.1.1,h.1.1.1.1.2⟩
section
variable {W:Q8}{m:MW}{w:Wo}{bs:List Nat}{p:OA}
def zow(W:Q8)(g:Int):List Int:=if g=0 then [] else AV W (gi W.ID g).parent
theorem zj6{W:Q8}(ht:Y8 W.ID){g:Int}(hu:Q6 W.ID g=true):g::zow W g=AV W g:=by
 unfold zow
 by_cases hz:g=0
 ·subst hz; rw[C' rfl,zf4]
 ·rw[B' hz,zf5 ht hu hz]
theorem G4{t:Int}(h:XE [] w W m)(ht:Y8 W.ID)(t0:0<=t)(t1:t<(W.tasks.length:Int))(hu:Q6 W.ID (Q7 W t).group=true) :
  Cz V0 #[.agg (Qb W m).toArray,I t] w λe w'=>∃o c',e=.returned (.slice o (AV W (Q7 W t).group).length c')/\V3 Jz 1 Qc w.heap.size w' o c' (AV W (Q7 W t).group)/\Q0 [] w w':=by
 refine(y7 _ _ _ _ _ _ _ _ _ _ t (R:=λv w'=>∃o c',v=.slice o (AV W (Q7 W t).group).length c'/\V3 Jz 1 Qc w.heap.size w' o c' (AV W (Q7 W t).group)/\Q0 [] w w') ?_).mono λe w' ⟨v,he,o,c',hv,h1⟩=>⟨o,c',by rw[he,hv],h1⟩
 intro b hb;refine⟨h.t.ix QF t0 t1,_,h.t.f t0 t1 (j:=1) rfl,λb1 wb RZ cJ Ss hn=>?_⟩;have hlen:=ztm W (Q7 W t).group;have hO0:V3 Jz 1 Qc w.heap.size wb (some ⟨b1,0,none⟩) 1 [(Q7 W t).group]:=.inr ⟨b1,[],rfl,cJ,Ss,by simp[Jz],Qs⟩;have hbn:∀x∈[b],w.heap.size<=x:=by simpa using hb
 refine⟨λvs w1=>∃(g:Int) (l:List Int) (o:OA) (c':Nat),vs=[I g,.slice o l.length c']/\Q6 W.ID g=true/\l++zow W g=AV W (Q7 W t).group/\Sc w [b] w1/\Ob Jz 1 Qc w.heap.size [b] w1 o c' l,λvs _=>(dep 3 W.ID (ZE 0 vs)).toNat,
  λwr hx _=>⟨_,[(Q7 W t).group],_,1,rfl,hu,zj6 ht hu,(Sc.mk RZ hbn).step hx,⟨hO0.ext hx (by simp[QL]; exact λe=>hn (by simp[e])),by simp[QL]; exact λe=>hn (by simp[e])⟩⟩,?_⟩
 rintro g oO oL oC w1 bX ⟨g',l,o',c',he,hug,hI,s1,hO⟩;simp only[I4,I5,Iv,true_and,and_true] at he;obtain⟨rfl,rfl,rfl,rfl⟩:=he;have hg:=((h.wide (cs:=[b]) λx hm=>.inr (hbn x hm)).ext s1.ext.of_nil).g
 have hll:l.length<=4:=by
  have:=congrArg List.length hI;simp at this;omega
 refine⟨λhz=>?_,λhz wr hx=>?_⟩
 ·have hz:g≠0:=by simpa using hz
  obtain⟨hp,a,b',d,e,e2,hd⟩:=Y3 ht hug hz;refine⟨hg.ix a b',_,hg.parent a b',λb2 bR I' R5 SR AP3=>?_⟩;have s2:=s1.put R5 bR;have jQ:=hO.put R5 bR;obtain⟨o2,c2,w2,W8,uP,zW,R6⟩:=jQ.AA1 Y5 Vx (x:=(gi W.ID g).parent) SR s2.ext.size AP3 (zu0 _) Qo Qd Z9 #[false,false];have s3:=s2.call R6 λx hm=>(jQ.own.lt x hm).1
  refine⟨_,_,_,w2,W8,uP,λM' SK _=>⟨⟨_,l++[(gi W.ID g).parent],o2,c2,rfl,hp,?_,(s3.step SK).sub Qs,(zW.step SK).sub Qs⟩,?_⟩⟩
  ·rw[List.append_assoc,List.singleton_append,zj6 ht hp,<-hI];unfold zow;rw[B' hz]
  ·show (dep 3 W.ID (gi W.ID g).parent).toNat<(dep 3 W.ID g).toNat;omega
 ·have hz:g=0:=by simpa using hz
  subst hz
  have hl:l=AV W (Q7 W t).group:=by
   rw[<-hI];unfold zow;rw[C' rfl,List.append_nil]
  subst hl;exact⟨oO,oC,rfl,(hO.step hx).own,(s1.step hx).ext⟩
theorem G2{t c:Int}(h:XE bs w W m)(wp:YI W)(t0:0<=t)(t1:t<(W.tasks.length:Int))(c0:0<=c)(c1:c<(W.IE.length:Int)):PX bs UY #[.agg (Qb W m).toArray,I t,I c] w (.bool (Zw W t c)):=by
 refine O1 λuU mZ=>j9 _ _ _ _ _ _ _ _ _ _ t c (R:=λv w'=>v=.bool (Zw W t c)/\Q0 [] uU w') ?_
 have h:=(h.ext mZ).less (cs:=[]) Qs;have li:((Q7 W t).state != 1)=false->Q6 W.ID (Q7 W t).group=true/\0<=(Q7 W t).IZ/\(Q7 W t).IZ<(W.IE.length:Int):=λhs=>wp.li t0 t1 (by simpa using hs)
 intro b hb;refine⟨h.t.ix QF t0 t1,_,_,_,_,_,_,_,_,_,h.t t t0 t1,λb1 cJ=>?_⟩;refine⟨λg=>?_,(gi W.IE (Q7 W t).IZ).cur,λg=>?_,Z3 W t,λg=>?_,Qx W (Q7 W t).group (Q7 W t).mask,λg=>?_,_,λg=>ZS,λg wr hx=>?_,λg I' RZ bX=>?_⟩
 ·have g:(((Q7 W t).state != 1)||((Q7 W t).IZ==c))=false:=g;simp only[H'] at g;have:=li g.1;exact h.c.ix Y6 this.2.1 this.2.2
 ·have g:(((Q7 W t).state != 1)||((Q7 W t).IZ==c))=false:=g;simp only[H'] at g;have:=li g.1;exact(h.c _ this.2.1 this.2.2).get 1 _ rfl
 ·exact JZ h wp.a t0 t1 λhs=>wp.li t0 t1 hs
 ·have g:(((((Q7 W t).state != 1)||((Q7 W t).IZ==c))||((gi W.IE (Q7 W t).IZ).cur==t))||(!Z3 W t))=false:=g;simp only[H'] at g;exact XI h wp.a.c2 wp.a.tree (li g.1.1.1).1
 ·have:Zw W t c=false:=by
   unfold Zw;rw[show ((((((Q7 W t).state != 1)||((Q7 W t).IZ==c))||((gi W.IE (Q7 W t).IZ).cur==t))||(!Z3 W t))||(!QZ (Qx W (Q7 W t).group (Q7 W t).mask) c))=true from g];rfl
  rw[this]; exact⟨rfl,hx⟩
 have g:((((((Q7 W t).state != 1)||((Q7 W t).IZ==c))||((gi W.IE (Q7 W t).IZ).cur==t))||(!Z3 W t))||(!QZ (Qx W (Q7 W t).group (Q7 W t).mask) c))=false:=g;have eC:Zw W t c = !Lu W (Q7 W t).group c:=by unfold Zw; rw[g]; rfl
 simp only[H'] at g;obtain⟨hu,_,_⟩:=li g.1.1.1.1;rw[eC]
 have hbn:∀x∈[b,b1],uU.heap.size<=x:=by
  intro x hm;simp only[Ii,List.not_mem_nil,or_false] at hm;rcases hm with rfl | rfl
  ·exact hb
  ·exact cJ
 refine(G4 (h.ext RZ) wp.a.tree t0 t1 hu).mono λe w2 ⟨o,c',he,hO,R5⟩=>⟨_,_,_,he,Qf R5 bX,?_⟩
 have C50:=ztm W (Q7 W t).group;have s2:Sc uU [b,b1] w2:=⟨RZ.trans R5,hbn⟩;have jQ:Ob Jz 1 Qc I'.heap.size [b,b1] w2 o c' (AV W (Q7 W t).group):=Ob.of hO bX
 refine XJ (AV W (Q7 W t).group).length 0 rfl (λk w3=>k<=(AV W (Q7 W t).group).length/\Sc uU [b,b1] w3/\Ob Jz 1 Qc I'.heap.size [b,b1] w3 o c' (AV W (Q7 W t).group)/\∀j:Nat,j<k->Yx W (gi (AV W (Q7 W t).group) (j:Int)) c=false)
  (λw3 R6 _=>⟨Ic _,s2.step R6,jQ.step R6,λj hj=>Ir hj (Nat.not_lt_zero j)⟩) λk w3 _ ⟨hk,s3,zW,hI⟩=>⟨λIN=>?_,λRx wr hx=>?_⟩
 ·have IN:=Ot IN;have hR:=zW.rd Y5.len;have hgm:=NN (l:=AV W (Q7 W t).group) (i:=(k:Int)) Qo IN;have hW3:=(h.wide (cs:=[b,b1]) λx hm=>.inr (hbn x hm)).ext s3.ext.of_nil;refine⟨hR.ix XV Qo IN,_,hR (k:Int) Qo IN,_,PZ hW3 wp.a (zzl wp.a.tree hu _ hgm) c0 c1,λgd wr hx=>⟨?_,(s3.step hx).ext⟩,λgd=>⟨⟨Qo,Qo⟩,λwr hx _=>Qp Qo ⟨Qo,s3.step hx,zW.step hx,λj hj=>?_⟩⟩⟩
  ·have:Lu W (Q7 W t).group c=true:=List.any_eq_true.2 ⟨_,hgm,gd⟩;rw[this]; rfl
  ·by_cases fN:j<k
   ·exact hI j fN
   ·have:j=k:=Qo;subst this; exact gd
 ·have Rx:=Ou Rx;have hkn:k=(AV W (Q7 W t).group).length:=Qo
  have:Lu W (Q7 W t).group c=false:=by
   cases hd:Lu W (Q7 W t).group c with
   | false=>rfl
   | true=>
    obtain⟨x,hx,hdx⟩:=List.any_eq_true.1 hd;obtain⟨j,hj,hjx⟩:=List.getElem_of_mem hx;have:=hI j Qo;rw[JX hj,hjx,hdx] at this;cases this
  rw[this]; exact⟨rfl,(s3.step hx).ext⟩
theorem LX{t c:Int}(h:Tj bs w p W m)(wp:YI W)(t0:0<=t)(t1:t<(W.tasks.length:Int))(c0:0<=c)(c1:c<(W.IE.length:Int)):PX bs XR #[.agg #[.pointer p,I c],I t] w (.bool (Zw W t c)):=
 Hi p c t λwr hx=>by
  have h:=(h.ext hx).less (cs:=[]) Qs;have li:((Q7 W t).state != 1)=false->Q6 W.ID (Q7 W t).group=true/\0<=(Q7 W t).IZ/\(Q7 W t).IZ<(W.IE.length:Int):=λhs=>wp.li t0 t1 (by simpa using hs)
  refine λ_ _=>⟨h.some,_,_,_,h.tasks,h.rd.t.ix QF t0 t1,_,_,_,_,_,_,_,_,_,h.rd.t t t0 t1,λ_ _=>⟨λg=>?_,λg=>?_⟩⟩
  ·have g:(((Q7 W t).state != 1)||((Q7 W t).IZ==c))=true:=g;have:Zw W t c=false:=by unfold Zw; rw[g]; rfl
   rw[this]
  have g1:(((Q7 W t).state != 1)||((Q7 W t).IZ==c))=false:=g;have g2:=g1;simp only[H'] at g2;obtain⟨hu,k0,k1⟩:=li g2.1;have eL:(((Q7 W t).IZ==(Q7 W t).IZ)&&Z3 W t)=Z3 W t:=by rw[beq_self_eq_true,Bool.true_and]
  have sZ:=OS (c:=(Q7 W t).IZ) h wp.a t0 t1 k0 k1 (λhs=>(wp.li t0 t1 hs).1);rw[eL] at sZ;refine⟨p,_,ZR,λ_ _=>⟨Z3 W t,sZ,_,λ_=>OF h k0 k1,λ_=>?_,(gi W.IE (Q7 W t).IZ).cur,λ_=>?_,_,λ_=>GT h wp.a.c2 wp.a.tree t0 t1 hu,_,λ_=>GR,λg=>?_,λg=>?_⟩⟩
  ·obtain⟨a,ha,_⟩:=(h.rd.c _ k0 k1).get 0 _ rfl;rw[ha]; rfl
  ·exact KN (h.rd.c _ k0 k1) (j:=1) rfl
  ·have g:((((!Z3 W t))||((gi W.IE (Q7 W t).IZ).cur==t))||(!QZ (Qx W (Q7 W t).group (Q7 W t).mask) c))=true:=g
   have:Zw W t c=false:=by
    unfold Zw;rw[g1,Bool.false_or]
    revert g
    cases Z3 W t <;> cases ((gi W.IE (Q7 W t).IZ).cur==t) <;> cases QZ (Qx W (Q7 W t).group (Q7 W t).mask) c <;> simp
   rw[this]
  have g:((((!Z3 W t))||((gi W.IE (Q7 W t).IZ).cur==t))||(!QZ (Qx W (Q7 W t).group (Q7 W t).mask) c))=false:=g
  have eC:Zw W t c = !Lu W (Q7 W t).group c:=by
   unfold Zw;rw[g1,Bool.false_or]
   revert g
   cases Z3 W t <;> cases ((gi W.IE (Q7 W t).IZ).cur==t) <;> cases QZ (Qx W (Q7 W t).group (Q7 W t).mask) c <;> simp
  rw[eC];have ht:=wp.a.tree;refine⟨λvs=>∃x:Int,vs=[I x]/\((x = -1/\Lu W (Q7 W t).group c=false)\/(Q6 W.ID x=true/\Lu W x c=Lu W (Q7 W t).group c)),λvs=>if ZE 0 vs = -1 then 0 else (dep 3 W.ID (ZE 0 vs)).toNat+1,⟨_,rfl,.inr ⟨hu,rfl⟩⟩,?_⟩;rintro x ⟨x',he,hI⟩;simp only[I4,I5,true_and,and_true] at he;subst he;refine⟨λbT=>?_,λheq=>?_⟩
  ·have bT:x≠-1:=by simpa using bT
   rcases hI with ⟨h1,_⟩ | ⟨tB,hI⟩
   ·exact Ir h1 bT
   ·obtain⟨x0,x1,_⟩:=Q4.1 tB;refine⟨_,ED h wp.a tB c0 c1,λgd=>?_,λgd=>⟨h.some,_,_,_,h.ID,h.rd.g.ix x0 x1,_,h.rd.g.parent x0 x1,?_,?_⟩⟩
    ·have:Lu W (Q7 W t).group c=true:=by
      rw[<-hI]
      by_cases hz:x=0
      ·subst hz; rw[zji,gd]
      ·rw[zjj ht tB hz,gd]; rfl
     rw[this]; rfl
    ·by_cases hz:x=0
     ·subst hz;exact⟨_,rfl,.inl ⟨ht.rp,by rw[<-hI,zji,gd]⟩⟩
     ·refine⟨_,rfl,.inr ⟨(Y3 ht tB hz).1,?_⟩⟩;rw[<-hI,zjj ht tB hz,gd]; rfl
    ·show (if (gi W.ID x).parent = -1 then 0 else (dep 3 W.ID (gi W.ID x).parent).toNat+1)<(if x = -1 then 0 else (dep 3 W.ID x).toNat+1);rw[B' bT]
     by_cases hz:x=0
     ·subst hz; rw[C' ht.rp]; omega
     ·obtain⟨_,_,_,d,e,e2,_⟩:=Y3 ht tB hz
      split <;> omega
  ·have heq:x = -1:=by simpa using heq
   rcases hI with ⟨_,h2⟩ | ⟨tB,_⟩
   ·rw[h2]; rfl
   ·have:=(Q4.1 tB).1;omega
end
end Go.Proofs.YtnclplgaicdapaaGreatDoor
