/- Part 12 of what the law FnFork needs. -/
import Derived.Test.YtnclplgaicdapaaGreatDoorFnForkPk
import Derived.Laws.BytesArg
set_option linter.unusedVariables false
set_option linter.unusedSimpArgs false
set_option maxRecDepth 100000
set_option maxHeartbeats 8000000
namespace Go.Proofs.YtnclplgaicdapaaGreatDoor
open Go.RowKit
theorem zs9{α:Type}[Inhabited α]{l:List α}{i:Int}(h0:0<=i)(h1:i<(l.length:Int)):l.set i.toNat (gi l i)=l:=by
 obtain⟨k,rfl⟩:=Int.eq_ofNat_of_zero_le h0;rw[Ui Qo,Ih,List.set_getElem_self]
def z3w(G:ZV)(K:Int):Int:=K+1+1+1+1+1+1+1+1+1+1+1+1*(G.IQ.locals.length:Int)+1*(G.IQ.Rz.length:Int)+5*(G.IG.length:Int)
def gK(gs:List ZV)(k:Int):Nat->Int
 | 0=>k
 | i+1=>z3w (gi gs (i:Int)) (gK gs k i)
section
variable {n base:Nat}{W:Q7}{m:MW}{w w':Wo}{G G':ZV}{i:Int}
end
def kC(W:Q7):Int:=1+5*(W.IF.length:Int)
def kT(W:Q7):Int:=kC W+9*(W.tasks.length:Int)
def mK(W:Q7):Int:=gK W.IE (kT W) W.IE.length
section
variable {n base:Nat}{W:Q7}{m:MW}{w w':Wo}{bs:List Nat}
end
def Pv:Kf:=⟨0,0,0,0,0,0,0,0,0⟩
def QH(W:Q7)(t:Int):Q7:=if (gi W.IF (Q9 W t).R3).cur=t then Ry W (Q9 W t).R3 else W
noncomputable def YD(W:Q7)(t:Int):Int:=if ZA W t=false then 2 else if QM W=false then 10 else 0
def XK(W:Q7)(t:Int):Q7:=Qg (IV (QH W t) t Pv)
theorem zl9{K:Int}{W:Q7}(h:SW K W){t:Int}(t0:0<=t)(t1:t<12)(n:(Q9 W t).state≠0):SW K (QH W t):=by
 unfold QH;split
 ·exact h.Ry (h.t t t0 t1 n).2.1 (h.t t t0 t1 n).2.2
 ·exact h
theorem zma(W:Q7)(t:Int):(QH W t).tasks=W.tasks:=by unfold QH; split <;> rfl
theorem k7{W:Q7}{t:Int}(hW:Qw W=true)(hb:YD W t=0):ZA W t=true/\QM W=true/\SW Ql W/\SW Ql (IV W t Pv)/\SW Ql (IV (QH W t) t Pv):=by
 have wp:=Qh.1 hW;unfold YD at hb
 split at hb
 ·cases hb
 ·rename_i h1
  split at hb
  ·cases hb
  ·rename_i h3;have h1:ZA W t=true:=by simpa using h1
   have h3:QM W=true:=by simpa using h3
   have sw:=PH wp (Qh.1 h3);obtain⟨t0,t1,n⟩:=YA h1;have hl:=wp.a.t;exact⟨h1,h3,sw,sw.IV t0 Qo (λh=>Is rfl h) Qd Qd,(zl9 sw t0 Qo n).IV t0 Qo (λh=>Is rfl h) Qd Qd⟩
section
variable {W:Q7}{m:MW}{w:Wo}{bar:Int}
theorem Cd{t:Int}(h:Xg [] w W m)(hl:XM W) :
  Cz O7 #[.agg (Qa W m).toArray,I t] w λe w'=>∃v,e=.returned v/\QU (Xi W (YD W t) (XK W t)) w v w':=by
 refine AQ _ _ _ _ _ _ _ _ _ _ t (R:=λv w'=>QU (Xi W (YD W t) (XK W t)) w v w') ?_;intro x hx x1 RZ wr R2 We;refine I4 (Zh (h.ext R2) hl) ?_;rintro e wv (⟨hW,he,hy⟩ | ⟨hW,m',he,hM,hy⟩)
 ·exact⟨_,_,_,_,_,_,_,_,_,_,_,he,Qe hy We,λ_ M' Rb=>QU.bad hW ((R2.trans hy).fresh Rb λy hm=>.inl (YW hx RZ y hm)),λg=>by simp at g⟩
 have hK:=Wk.begin hx RZ R2 We hM hy;have hr:=hK.rd;refine⟨_,_,_,_,_,_,_,_,_,_,_,he,Qe hy We,λg=>by split at g <;> simp at g,λ_=>⟨_,U2 hr hl.t,λg O' Rb=>?_,λg=>?_⟩⟩
 ·have g:ZA W t=false:=by simpa using g
  have hb:YD W t=2:=by unfold YD; rw[E' g]
  exact QU.no hW (by rw[hb]; decide) (hK.step Rb) hb
 have g:ZA W t=true:=by simpa using g
 obtain⟨t0,t1,tn⟩:=YA g;have Wl:=hr.t.ix QF t0 t1;refine⟨λg3 Rw Rb=>?_,λg3=>?_⟩
 ·have cD:¬QM W=true:=λhr=>by rw[E' hr] at g3; simp at g3
  have hb:YD W t=10:=by unfold YD; rw[C' (by rw[g]; decide),E' (by simpa using cD)]
  rw[C' cD];exact QU.no hW (by rw[hb]; decide) (hK.step Rb) hb
 have cD:QM W=true:=Ir λhr=>by rw[C' hr] at g3; simp at g3
 have hb:YD W t=0:=by unfold YD; rw[C' (by rw[g]; decide),C' (by rw[cD]; decide)]
 obtain⟨_,_,sw,sw1,sw2⟩:=k7 hW hb;obtain⟨_,c0,c1⟩:=sw.t t t0 (by have:=sw.a.t; omega) tn;have SI:Zj 8 w.heap.size (R9 wv m'.tO (Int.toNat t*9) (YK Pv)) (IV W t Pv) m':=hK.own.xS t0 t1 (j:=0) (vs:=YK Pv) (x:=Pv) rfl Qd;have hKs:=hK.R9 SI LR;have e5:∀mm,Qa (IV W t Pv) mm=Qa W mm:=λmm=>by simp[Qa,IV]
 refine⟨Wl,_,hr.t.f t0 t1 (j:=2) rfl,Wl,zik hK.own hK.nb t0 t1 (j:=0) Qd,hr.c.ix Ym c0 c1,_,hKs.rd.c.f c0 c1 (j:=1) rfl,λg4 RQ Sy mM=>?_,λg4 RQ Sy mM=>?_⟩
 ·have g4:(gi (IV W t Pv).IF (Q9 W t).R3).cur=t:=by simpa using g4
  have hE:XK W t=Qg (Ry (IV W t Pv) (Q9 W t).R3):=by unfold XK QH; rw[E' (show (gi W.IF (Q9 W t).R3).cur=t from g4)]; rfl
  rw[hE];have dV:=hKs.step Sy;have RD:=ZF dV.own c0 c1;rw[e5] at RD;refine I4 RD ?_;rintro e1 R7 ⟨jG,dG⟩;refine⟨_,_,_,_,_,_,_,_,_,_,jG,dV.kept dG mM,λSi aS hs6=>?_⟩;have uE:=(dV.SH dG mM).step aS;refine I4 (Qx uE.own (sw1.Ry c0 c1) Qd Qd uE.base) ?_;rintro e2 Rr ⟨m1,aT,SE⟩;exact⟨_,_,_,_,_,_,_,_,_,_,aT,uE.kept SE hs6,λSz kR=>QU.ok hW hb ((uE.SH SE hs6).step kR)⟩
 ·have g4:¬(gi (IV W t Pv).IF (Q9 W t).R3).cur=t:=by simpa using g4
  have hE:XK W t=Qg (IV W t Pv):=by unfold XK QH; rw[C' (show ¬(gi W.IF (Q9 W t).R3).cur=t from g4)]
  rw[hE];have dV:=hKs.step Sy;have RD:=Qx dV.own sw1 Qd Qd dV.base;rw[e5] at RD;refine I4 RD ?_;rintro e2 Rr ⟨m1,aT,SE⟩;exact⟨_,_,_,_,_,_,_,_,_,_,aT,dV.kept SE mM,λSz kR=>QU.ok hW hb ((dV.SH SE mM).step kR)⟩
theorem zj0{base pb:Nat}{K:Int}{t:Int}(h:PW base pb w W m)(sw:SW K W)(t0:0<=t)(t1:t<12)(n:(Q9 W t).state≠0) :
  Cz Vc #[.pointer (pA pb),I t] w λe w'=>e=.returned (.tuple #[])/\Mp base pb [] w m w' (QH W t) m:=by
 refine(DH (pA pb) t (R:=λv w'=>v=.tuple #[]/\Mp base pb [] w m w' (QH W t) m) ?_).mono λe w' ⟨v,he,hv,h3⟩=>⟨by rw[he,hv],h3⟩
 have hM:=Mp.start h;have hp:=hM.wpt;have hl:=sw.a.t;obtain⟨_,c0,c1⟩:=sw.t t t0 t1 n;have hc:=hp.rd.c (Q9 W t).R3 c0 c1;refine⟨hp.some,_,_,_,hp.tasks,hp.rd.t.ix QF t0 Qo,_,hp.rd.t.f t0 Qo (j:=2) rfl,_,_,JD,λb hb=>⟨_,L3 hp c0 c1,KG hc,_,G3 hc (j:=1) rfl,λg wr hx hs=>?_,λg wr hx=>?_⟩⟩
 ·have g:(gi W.IF (Q9 W t).R3).cur=t:=by simpa using g
  have hE:QH W t=Ry W (Q9 W t).R3:=by unfold QH; rw[E' g]
  rw[hE];have hM1:=(hM.add hb).R5 hx;refine I4 (Om hM1.pw c0 c1) ?_;rintro e wv ⟨he,hy⟩;exact⟨he,hM1.kept hy hs,λM' RZ=>⟨rfl,((hM1.call hy hs).step RZ).close⟩⟩
 ·have g:¬(gi W.IF (Q9 W t).R3).cur=t:=by simpa using g
  have hE:QH W t=W:=by unfold QH; rw[C' g]
  rw[hE];exact⟨rfl,hM.R5 hx⟩
theorem zjx{base pb:Nat}{cap:OA}{t:Int}(h:PW base pb w W m)(hW:Qw W=true)(hc:Q1 [] w cap 0 [I t])(hcw:∀w' W',Mp base pb [] w m w' W' m->Q1 [] w' cap 0 [I t]) :
  Cz JI #[.pointer (pA pb),.pointer cap] w λe w2=>(YD W t≠0/\e=.returned (.iface Z3 (.agg #[I (YD W t)]))/\Q0 [] w w2)\/(YD W t=0/\e=.returned .nilIface/\∃m2,Bh base pb [] w m w2 (XK W t) m2):=by
 have wp:=Qh.1 hW;have hM:=Mp.start h;have hp:=hM.wpt
 refine(EY (pA pb) cap (R:=λv w2=>(YD W t≠0/\v=.iface Z3 (.agg #[I (YD W t)])/\Q0 [] w w2)\/(YD W t=0/\v=.nilIface/\∃m2,Bh base pb [] w m w2 (XK W t) m2)) ?_).mono λe w' ⟨v,he,h3⟩=>by
  rw[he];rcases h3 with ⟨a,b,c⟩ | ⟨a,b,c⟩
  ·exact .inl ⟨a,by rw[b],c⟩
  ·exact .inr ⟨a,by rw[b],c⟩
 refine⟨t,hc,_,Kp hp (by have:=wp.a.t; have:=Zl; omega),λg wr hx=>.inl ?_,λg=>?_⟩
 ·have g:ZA W t=false:=by unfold ZA; simpa only[ID] using g
  have hb:YD W t=2:=by unfold YD; rw[E' g]
  rw[hb];exact⟨Qd,rfl,hx⟩
 have g:ZA W t=true:=by unfold ZA; simpa only[I7] using g
 obtain⟨t0,t1,tn⟩:=YA g;refine⟨_,Fi hp wp.a,λg3 wr hx=>.inl ?_,λg3=>?_⟩
 ·have g3:QM W=false:=by simpa using g3
  have hb:YD W t=10:=by unfold YD; rw[C' (by rw[g]; decide),E' g3]
  rw[hb];exact⟨Qd,rfl,hx⟩
 have g3:QM W=true:=by simpa using g3
 have hb:YD W t=0:=by unfold YD; rw[C' (by rw[g]; decide),C' (by rw[g3]; decide)]
 obtain⟨_,_,sw,_,sw2⟩:=k7 hW hb;have hl:=sw.a.t;refine⟨t,hc,λO' R2 _=>?_⟩;have aB:=hM.nil R2;refine I4 (zj0 aB.pw sw t0 Qo tn) ?_;rintro e R7 ⟨he,hy⟩;have kQ:=aB.call hy Qs;have hp3:=kQ.wpt;have fH:(QH W t).tasks=W.tasks:=zma W t;have t1':t<((QH W t).tasks.length:Int):=by rw[fH]; exact t1
 have SI:Zj 8 base (R9 R7 m.tO (Int.toNat t*9) (YK Pv)) (IV (QH W t) t Pv) m:=kQ.own.xS t0 t1' (j:=0) (vs:=YK Pv) (x:=Pv) rfl Qd;refine⟨he,Y6,hp3.some,_,_,_,hp3.tasks,t,hcw _ _ kQ,hp3.rd.t.ix QF t0 t1',zik kQ.own Qs t0 t1' (j:=0) Qd,λRq Rb _=>?_⟩;have lJ:=(kQ.SH SI LR (by simp[Qa,IV])).nil Rb;refine I4 (D9 lJ.pw sw2 Qd Qd) ?_;rintro e1 Rr ⟨jG,dG⟩;exact⟨jG,Y6,λRw SZ=>.inr ⟨hb,rfl,m,((lJ.call dG Qs).nil SZ).done⟩⟩
theorem zp2{base pb b:Nat}{w w':Wo}{W W':Q7}{m m':MW}{o:Obj}(h:PW base pb w W m)(hb:b<base)(hpb:base<=pb)(hc:w.heap[b]? = some o)(hM:Mp base pb [] w m w' W' m'):w'.heap[b]? = some o:=
 Qq hc hM.v.ext λhm=>by
  have:=(h.own.lt b hm).1;omega
theorem C9{t:Int}(h:Xg [] w W m)(hl:XM W)(hg:Tc w) :
  Cz O4 #[.agg (Qa W m).toArray,I t] w λe w'=>∃v,e=.returned v/\QU (Xi W (YD W t) (XK W t)) w v w':=by
 refine AM _ _ _ _ _ _ _ _ _ _ t (R:=λv w'=>QU (Xi W (YD W t) (XK W t)) w v w') ?_;intro x hx b1 wb RZ gH hc hn b2 cN wr R2 hs;have hX:Q0 [] w wr:=RZ.fresh R2 λy hy=>.inl (y9 hy hx)
 have hc2:=Qq hc R2 hn;refine I4 (zse (bar:=YD W t) (W':=XK W t) (h.ext hX) hl (hg.ext hX) λw1 pb m1 hW Rb hpb hP=>.inl ⟨JI,_,rfl,zjx hP hW (XP (Qq hc2 Rb Qs) Qs (k0:=0) rfl) λw9 W9 hM9=>XP (zp2 hP (YY hc2) hpb (Qq hc2 Rb Qs) hM9) Qs (k0:=0) rfl⟩) ?_;rintro e wv ⟨v,he,n,m',hv,hM,hy⟩;subst hv;refine⟨_,_,_,_,_,_,_,_,_,_,_,he,Qe hy hs,λM' SZ=>⟨n,m',rfl,(hM.ext SZ λy hy hm=>?_).mono hX.size,(hX.trans hy).fresh SZ λy hm=>?_⟩⟩
 ·have:=(hM.lt y hy).1;have:=hs y hm;omega
 ·simp only[Ij,List.not_mem_nil,or_false] at hm;rcases hm with rfl | rfl
  ·exact .inl hx
  ·exact .inl (IB RZ.size cN)
end
abbrev Kz(W:Q7)(t n:Int):Int:=(Qb W (Q9 W t).group (Q9 W t).R3).floor+Y1 ((Q9 W t).v-(Qb W (Q9 W t).group (Q9 W t).R3).floor) (Qf n)
def Ju(W:Q7)(t n:Int):Kf:={ Q9 W t with nice:=n,v:=if (Q9 W t).state=1 then Kz W t n else (Q9 W t).v }
noncomputable def PG(W:Q7)(t n:Int):Int:=if Qf n=0 then 1 else YD W t
def GD(W:Q7)(t n:Int):Q7:=Qg (if (Q9 W t).state=1 then QH (IV W t (Ju W t n)) t else IV W t (Ju W t n))
theorem zqq{W:Q7}{t n:Int}(h:(Q9 W t).state=1):Ju W t n={ Q9 W t with nice:=n,v:=Kz W t n }:=by unfold Ju; rw[E' h]
theorem zqp{W:Q7}{t n:Int}(h:¬(Q9 W t).state=1):Ju W t n={ Q9 W t with nice:=n }:=by unfold Ju; rw[C' h]
theorem NL{W:Q7}{t:Int}{x:Kf}(t0:0<=t)(t1:t<(W.tasks.length:Int)):Q9 (IV W t x) t=x:=by
 show gi (W.tasks.set t.toNat x) t=x;rw[QG _ _ t0 t1 t0,E' rfl]
theorem set_set{W:Q7}{t:Int}{x y:Kf}:IV (IV W t x) t y=IV W t y:=by simp[IV]
abbrev K1:Int:=Ql+Qj
structure z2c (W:Q7) (t n:Int):Prop where
 th:ZA W t=true
 room:QM W=true
 sw:SW Ql W
 f:(Q9 W t).state=1->0<=(Qb W (Q9 W t).group (Q9 W t).R3).floor/\(Qb W (Q9 W t).group (Q9 W t).R3).floor<=Ql/\0<=Kz W t n/\Kz W t n<=K1
 s1:SW K1 (IV W t (Ju W t n))
 s2:SW K1 (QH (IV W t (Ju W t n)) t)
theorem zqr{W:Q7}{t n:Int}(hW:Qw W=true)(hb:PG W t n=0):z2c W t n:=by
 have hw:¬Qf n=0:=λh=>by unfold PG at hb; rw[E' h] at hb; cases hb
 have hb:YD W t=0:=by unfold PG at hb; rwa[C' hw] at hb
 obtain⟨h1,h3,sw,_,_⟩:=k7 hW hb;obtain⟨t0,t1,tn⟩:=YA h1;have hl:=sw.a.t;have hg:=sw.t t t0 Qo tn;have hv:=sw.tv t t0 Qo;have hf:=sw.s _ _ hg.1 hg.2.1 hg.2.2;have lc:=ZG ((Q9 W t).v-(Qb W (Q9 W t).group (Q9 W t).R3).floor) (Qf n);have lm:=ZC (Qf n);have f:0<=Kz W t n/\Kz W t n<=K1:=by unfold Kz; simp only[K1,Qj]; omega
 have f1:0<=(Ju W t n).v/\(Ju W t n).v<=K1:=by
  unfold Ju
  dsimp only
  split
  ·exact f
  ·simp only[K1,Qj]; omega
 have s1:SW K1 (IV W t (Ju W t n)):=(sw.mono Qd).IV t0 Qo (λ_=>hg) f1.1 f1.2;exact⟨h1,h3,sw,λ_=>⟨hf.1,hf.2.1,f⟩,s1,zl9 s1 t0 Qo (by rw[NL t0 t1]; exact tn)⟩
section
variable {W:Q7}{m:MW}{w:Wo}{bar:Int}
theorem Dd{bs:List Nat}{t:Int}(h:Xg bs w W m)(t0:0<=t)(t1:t<(W.tasks.length:Int))(g0:0<=(Q9 W t).group)(g1:(Q9 W t).group<(W.IE.length:Int))(c0:0<=(Q9 W t).R3)(c1:(Q9 W t).R3<((gi W.IE (Q9 W t).group).IG.length:Int))(hr:Qm .i64 ((Q9 W t).v-(Qb W (Q9 W t).group (Q9 W t).R3).floor)) :
  PX bs Tt #[.agg (Qa W m).toArray,I t] w (I (Y1 ((Q9 W t).v-(Qb W (Q9 W t).group (Q9 W t).R3).floor) (Qf (Q9 W t).nice))):=
 zgm _ _ _ _ _ _ _ _ _ _ t λwr hx=>by
  have h:=(h.ext hx).less (cs:=[]) Qs;intro b hb;exact⟨h.t.ix QF t0 t1,_,_,_,_,_,_,_,_,_,h.t t t0 t1,λb1 gH=>⟨h.g.ix g0 g1,_,_,_,h.g.RF g0 g1,(h.g.IG _ g0 g1).ix Y7 c0 c1,_,(h.g.IG _ g0 g1).f c0 c1 (j:=0) rfl,hr,_,ZX,_,K8,rfl⟩⟩
theorem Cf{t n:Int}(h:Xg [] w W m)(hl:XM W) :
  Cz O9 #[.agg (Qa W m).toArray,I t,I n] w λe w'=>∃v,e=.returned v/\QU (Xi W (PG W t n) (GD W t n)) w v w':=by
 refine AU _ _ _ _ _ _ _ _ _ _ t n (R:=λv w'=>QU (Xi W (PG W t n) (GD W t n)) w v w') ?_;intro x hx x1 RZ wr R2 We;refine I4 (Zh (h.ext R2) hl) ?_;rintro e wv (⟨hW,he,hy⟩ | ⟨hW,m',he,hM,hy⟩)
 ·exact⟨_,_,_,_,_,_,_,_,_,_,_,he,Qe hy We,0,λg=>by simp at g,λ_ M' Rb=>QU.bad hW ((R2.trans hy).fresh Rb λy hm=>.inl (YW hx RZ y hm)),λg=>by simp at g⟩
 have hK:=Wk.begin hx RZ R2 We hM hy;have hr:=hK.rd;have vY:((if QM W=true then 0 else 10:Int)==1)=false:=by split <;> rfl
 refine⟨_,_,_,_,_,_,_,_,_,_,_,he,Qe hy We,_,λ_=>ZX (n:=n),λg M' Rb=>?_,λg0=>⟨_,U2 hr hl.t,λg O' Rb=>?_,λg=>?_⟩⟩
 ·rw[vY] at g;have g:Qf n=0:=by simpa using g
  have hb:PG W t n=1:=by unfold PG; rw[E' g]
  exact QU.no hW (by rw[hb]; decide) (hK.step Rb) hb
 ·rw[vY] at g0;have g0:¬Qf n=0:=by simpa using g0
  have g:ZA W t=false:=by simpa using g
  have hb:PG W t n=2:=by unfold PG YD; rw[C' g0,E' g]
  exact QU.no hW (by rw[hb]; decide) (hK.step Rb) hb
 rw[vY] at g0;have gw:¬Qf n=0:=by simpa using g0
 have g:ZA W t=true:=by simpa using g
 obtain⟨t0,t1,tn⟩:=YA g;have Wl:=hr.t.ix QF t0 t1;refine⟨λg3 Rw Rb=>?_,λg3=>?_⟩
 ·have cD:¬QM W=true:=λhr=>by rw[E' hr] at g3; simp at g3
  have hb:PG W t n=10:=by unfold PG YD; rw[C' gw,C' (by rw[g]; decide),E' (by simpa using cD)]
  rw[C' cD];exact QU.no hW (by rw[hb]; decide) (hK.step Rb) hb
 have cD:QM W=true:=Ir λhr=>by rw[C' hr] at g3; simp at g3
 have hb:PG W t n=0:=by unfold PG YD; rw[C' gw,C' (by rw[g]; decide),C' (by rw[cD]; decide)]
 have hN:=zqr hW hb;have sw:=hN.sw;have fH:=sw.a.t;obtain⟨hu,c0,c1⟩:=sw.t t t0 Qo tn;obtain⟨q0,q1,_⟩:=Q5.1 hu;have hsl:=sw.a.sl hu;have iL:Wk 8 [x,x1] w (R9 wv m'.tO (Int.toNat t*9) (YK { Q9 W t with nice:=n })) (IV W t { Q9 W t with nice:=n }) m':=hK.R9 (hK.own.xS t0 t1 (j:=0) (vs:=YK { Q9 W t with nice:=n }) (x:={ Q9 W t with nice:=n }) rfl (by show 0+9<=9; decide)) LR;have e5:∀x mm,Qa (IV W t x) mm=Qa W mm:=λx mm=>by simp[Qa,IV]
 refine⟨Wl,_,_,_,_,_,_,_,_,_,hr.t t t0 t1,λb2 cN=>⟨Wl,zik hK.own hK.nb t0 t1 (j:=0) Qd,λg4=>?_,λg4 WO lQ hs9=>?_⟩⟩
 ·have g4:(Q9 W t).state=1:=by simpa[Q9] using g4
  have hT:=zqq (n:=n) g4;obtain⟨f0,f1,v0,v1⟩:=hN.f g4;have hv:=sw.tv t t0 Qo;have hh:Ql=50000000000000000:=rfl;have hk:K1=50000034686091440:=rfl;have vD:=iL.rd;have etk:Q9 (IV W t { Q9 W t with nice:=n }) t={ Q9 W t with nice:=n }:=NL t0 t1;have t1':t<((IV W t { Q9 W t with nice:=n }).tasks.length:Int):=by simpa[IV] using t1
  have Cf4:=Dd (t:=t) vD t0 t1' (by rw[etk]; exact q0) (by rw[etk]; exact q1) (by rw[etk]; exact c0) (by rw[etk]; show (Q9 W t).R3<(((gi W.IE (Q9 W t).group).IG.length:Nat):Int); omega) (by rw[etk]; exact⟨by show _<=(Q9 W t).v-(Qb W (Q9 W t).group (Q9 W t).R3).floor; omega,by show (Q9 W t).v-(Qb W (Q9 W t).group (Q9 W t).R3).floor<=_; omega⟩);rw[etk,e5] at Cf4;have lc:=ZG ((Q9 W t).v-(Qb W (Q9 W t).group (Q9 W t).R3).floor) (Qf n);have lm:=ZC (Qf n);have SI:Zj 8 w.heap.size (R9 (R9 wv m'.tO (Int.toNat t*9) (YK { Q9 W t with nice:=n })) m'.tO (Int.toNat t*9) (YK { Q9 W t with nice:=n,v:=Kz W t n })) (IV (IV W t { Q9 W t with nice:=n }) t { Q9 W t with nice:=n,v:=Kz W t n }) m':=iL.own.xS t0 t1' (j:=0) (vs:=YK { Q9 W t with nice:=n,v:=Kz W t n }) (x:={ Q9 W t with nice:=n,v:=Kz W t n }) (by rw[show gi (IV W t { Q9 W t with nice:=n }).tasks t={ Q9 W t with nice:=n } from etk]; rfl) (by show 0+9<=9; decide);rw[set_set,<-hT] at SI;have oY:Wk 8 ([x,x1]++[b2]) w _ (IV W t (Ju W t n)) m':=(hK.add cN).R9 SI (LR.trans LR)
  have mS:∀vs0 vs:List Va,YK { Q9 W t with nice:=n }=vs0->YK (Ju W t n)=vs->Wk 8 ([x,x1]++[b2]) w (R9 (R9 wv m'.tO (Int.toNat t*9) vs0) m'.tO (Int.toNat t*9) vs) (IV W t (Ju W t n)) m':=λvs0 vs h0 h1=>by
   subst h0;subst h1;rw[hT] at oY ⊢;exact oY
  have CS8:∀y∈[x,x1],y∈[x,x1]++[b2]:=λy hy=>Ib _ hy
  have Ca9:Wk 8 [x,x1] w _ (IV W t (Ju W t n)) m':=oY.sub CS8;have C27:Q1 [x,x1] (R9 wv m'.tO (Int.toNat t*9) (YK { Q9 W t with nice:=n })) (m'.ms (Q9 W t).group.toNat).sO (Int.toNat (Q9 W t).R3*5+0) [I (Qb W (Q9 W t).group (Q9 W t).R3).floor]:=(vD.g.IG _ q0 q1).f c0 (by show (Q9 W t).R3<(((gi W.IE (Q9 W t).group).IG.length:Nat):Int); omega) (j:=0) rfl;have ecp:(Q9 (IV W t (Ju W t n)) t).R3=(Q9 W t).R3:=by rw[NL t0 t1]; rfl
  refine⟨hr.g.ix q0 q1,_,_,_,vD.g.RF q0 q1,(vD.g.IG _ q0 q1).ix Y7 c0 (by show (Q9 W t).R3<(((gi W.IE (Q9 W t).group).IG.length:Nat):Int); omega),(Qb W (Q9 W t).group (Q9 W t).R3).floor,C27,Y1 ((Q9 W t).v-(Qb W (Q9 W t).group (Q9 W t).R3).floor) (Qf n),Cf4,⟨?_,?_⟩,Wl,zik iL.own iL.nb t0 t1' (j:=0) Qd,hr.c.ix Ym c0 c1,(gi W.IF (Q9 W t).R3).cur,?_,λg5 Rw SZ gY=>?_,λg5 Sz kR hs7=>?_⟩
  ·show _<=Kz W t n; omega
  ·show Kz W t n<=_; omega
  ·rw[hT] at Ca9;exact Ca9.rd.c.f c0 c1 (j:=1) rfl
  ·have g5:(gi W.IF (Q9 W t).R3).cur=t:=by simpa using g5
   have hE:GD W t n=Qg (Ry (IV W t (Ju W t n)) (Q9 W t).R3):=by unfold GD QH; rw[E' g4,ecp,E' (show (gi (IV W t (Ju W t n)).IF (Q9 W t).R3).cur=t from g5)]
   rw[hE];have dV:=(mS _ _ (by rfl) (by rw[hT]; rfl)).step (SZ.mono CS8);have RD:=ZF dV.own c0 c1;rw[e5] at RD;refine I4 RD ?_;rintro e1 R7 ⟨jG,dG⟩;refine⟨_,_,_,_,_,_,_,_,_,_,jG,dV.kept dG gY,λSi aS hs6=>?_⟩;have uE:=(dV.SH dG gY).step aS;refine I4 (Qx uE.own (hN.s1.Ry c0 c1) Qd Qd uE.base) ?_;rintro e2 Rr ⟨m1,aT,SE⟩;exact⟨_,_,_,_,_,_,_,_,_,_,aT,uE.kept SE hs6,λSz kR=>QU.ok hW hb ((uE.SH SE hs6).step kR)⟩
  ·have g5:¬(gi W.IF (Q9 W t).R3).cur=t:=by simpa using g5
   have hE:GD W t n=Qg (IV W t (Ju W t n)):=by unfold GD QH; rw[E' g4,ecp,C' (show ¬(gi (IV W t (Ju W t n)).IF (Q9 W t).R3).cur=t from g5)]
   rw[hE];have dV:=(mS _ _ (by rfl) (by rw[hT]; rfl)).step (kR.mono CS8);have RD:=Qx dV.own hN.s1 Qd Qd dV.base;rw[e5] at RD;refine I4 RD ?_;rintro e2 Rr ⟨m1,aT,SE⟩;exact⟨_,_,_,_,_,_,_,_,_,_,aT,dV.kept SE hs7,λSz kR=>QU.ok hW hb ((dV.SH SE hs7).step kR)⟩
 ·have g4:¬(Q9 W t).state=1:=by simpa[Q9] using g4
  have hE:GD W t n=Qg (IV W t (Ju W t n)):=by unfold GD; rw[C' g4]
  have dK:=hN.s1;rw[hE,zqp g4];rw[zqp g4] at dK;have oY:Wk 8 ([x,x1]++[b2]) w _ (IV W t { Q9 W t with nice:=n }) m':=(hK.add cN).R9 iL.own LR;have dV:=oY.step (lQ.mono λy hy=>Ib _ hy);have RD:=Qx dV.own dK Qd Qd dV.base;rw[e5] at RD;refine I4 RD ?_;rintro e2 Rr ⟨m1,aT,SE⟩;exact⟨_,_,_,_,_,_,_,_,_,_,aT,dV.kept SE hs9,λSz kR=>QU.ok hW hb ((dV.SH SE hs9).step kR)⟩
end
noncomputable def K2(W:Q7)(g:Int)(ok:Bool):Int:=if ok=false\/g=0 then 1 else if Q6 W.IE g=false then 2 else if QM W=false then 10 else 0
theorem zju{W:Q7}{g:Int}{ok:Bool}(h:K2 W g ok=0):ok=true/\g≠0/\Q6 W.IE g=true/\QM W=true:=by
 unfold K2 at h
 split at h
 ·cases h
 ·rename_i h1
  split at h
  ·cases h
  ·rename_i h2
   split at h
   ·cases h
   ·rename_i h3;exact⟨by cases ok <;> simp_all,λe=>h1 (.inr e),by simpa using h2,by simpa using h3⟩
def zzv:JB:=⟨0,0,0,[],[]⟩
def Jt(q:Int)(n:Nat):JB:=⟨q,q,0,List.replicate n 0,List.replicate n false⟩
def Df(q p:Int):Bool:=q==0&&p==0
def zhk(q p:Int):Bool:=Df q p||(YQ q 1 10000&&YQ p 1 1000)
def K9(W:Q7)(g q p:Int):ZV:=if Df q p=true then { gi W.IE g with period:=0,next:=0,IQ:=zzv } else { gi W.IE g with period:=p,next:=W.now+p,IQ:=Jt q W.IF.length }
noncomputable def zmb(W:Q7)(g q p:Int):Int:=K2 W g (zhk q p)
def zyy(W:Q7)(g q p:Int):Q7:=Qg (Rf W g (K9 W g q p))
theorem NH(n:Nat):∀k:Nat,k<=n->Vs (List.replicate n (0:Int)) k=0
 | 0,_=>rfl
 | k+1,hk=>by
  simp only[Vs];rw[NH n k Qo,Pl _ _ Qo Qo]; rfl
theorem zhq{q:Int}{n:Nat}(q1:1<=q)(q2:q<=10000)(n1:1<=n)(n2:n<=4):V4 (Jt q n):=by
 refine⟨q1,q2,by simpa[Jt] using n1,by simpa[Jt] using n2,by simp[Jt],by simp only[Jt]; omega,I3 _,by simp[Jt],by simp only[Jt]; omega,λc c0 c1=>?_,?_⟩
 ·simp only[Jt,List.length_replicate] at c1 ⊢;rw[Pl _ _ c0 c1,Pl _ _ c0 c1];exact⟨I3 _,Qo,λh=>by cases h⟩
 ·simp only[Jt,List.length_replicate];rw[NH n n (I8 _)]; omega
theorem zj4{W:Q7}{g q p:Int}:(K9 W g q p).used=(gi W.IE g).used/\(K9 W g q p).parent=(gi W.IE g).parent/\(K9 W g q p).name=(gi W.IE g).name/\(K9 W g q p).IG=(gi W.IE g).IG/\(K9 W g q p).weight=(gi W.IE g).weight/\(K9 W g q p).IF=(gi W.IE g).IF/\(K9 W g q p).sum=(gi W.IE g).sum:=by
 unfold K9; split <;> exact⟨rfl,rfl,rfl,rfl,rfl,rfl,rfl⟩
theorem SW.Rf{K:Int}{W:Q7}(h:SW K W){g:Int}{x:ZV}(hu:Q6 W.IE g=true)(u:x.used=(gi W.IE g).used)(p:x.parent=(gi W.IE g).parent)(n:x.name=(gi W.IE g).name)(s:x.IG=(gi W.IE g).IG)(hx:znq W g x):SW K (Rf W g x):=by
 obtain⟨u0,u1,ut⟩:=Q5.1 hu;have hl:=h.a.gl;have hT:=U5 (x:=x) u0 u1 u p n
 have es:∀k c:Int,0<=k->Qb (YtnclplgaicdapaaGreatDoor.Rf W g x) k c=Qb W k c:=λk c k0=>by
  unfold Qb;rw[Yz u0 u1 k0];split
  ·rename_i e; subst e; rw[s]
  ·rfl
 refine⟨h.a.set u0 Qo u p n (λhn=>by rw[u,ut] at hn; cases hn) λ_=>hx,λt a b n=>by rw[hT.fD]; exact h.t t a b n,h.tv,λk c uk a b=>?_,h.cu⟩;rw[hT.fD] at uk;rw[es k c (Q5.1 uk).1];exact h.s k c uk a b
theorem zvf{W:Q7}{g q p:Int}(hW:Qw W=true)(hb:zmb W g q p=0):Q6 W.IE g=true/\g≠0/\zhk q p=true/\QM W=true/\SW Ql W/\SW Ql (Rf W g (K9 W g q p)):=by
 obtain⟨h1,h2,h3,h4⟩:=zju hb;have wp:=Qh.1 hW;have sw:=PH wp (Qh.1 h4);obtain⟨u0,u1,hg⟩:=wp.a.u h3;have hl:=zj4 (W:=W) (g:=g) (q:=q) (p:=p);have vY:=wp.a.c1;have hc2:=wp.a.c2;refine⟨h3,h2,h1,h4,sw,sw.Rf h3 hl.1 hl.2.1 hl.2.2.1 hl.2.2.2.1 ⟨by rw[hl.2.2.2.2.1]; exact hg.w1,by rw[hl.2.2.2.2.1]; exact hg.w2,by rw[hl.2.2.2.2.2.1]; exact hg.m,by rw[hl.2.2.2.2.2.1]; exact hg.m0,by rw[hl.2.2.2.2.2.2]; exact hg.s,by rw[hl.2.2.2.1]; exact hg.len,λh=>Is h h2,λhq=>?_,λhq=>?_⟩⟩
 ·unfold K9 at hq ⊢;split
  ·exact⟨show Ow zzv=true by decide,rfl,rfl⟩
  ·rename_i hn;rw[C' hn] at hq;unfold zhk at h1;rw[show Df q p=false by simpa using hn,Bool.false_or,A'] at h1;have:=Qu.1 h1.1;have:q=0:=hq;omega
 ·unfold K9 at hq ⊢;split
  ·rename_i hn;rw[E' hn] at hq;exact Is rfl hq
  ·rename_i hn;unfold zhk at h1;rw[show Df q p=false by simpa using hn,Bool.false_or,A'] at h1;have h5:=Qu.1 h1.1;have h6:=Qu.1 h1.2;exact⟨zhq h5.1 h5.2 vY hc2,by simp[Jt],h6.1,h6.2,by show W.now<W.now+p; omega,by show W.now+p-W.now<=p; omega⟩
theorem zqg{W:Q7}{g q p:Int}(h:Df q p=true):K9 W g q p={ gi W.IE g with period:=0,next:=0,IQ:=zzv }:=by unfold K9; rw[E' h]
theorem zmc{W:Q7}{g q p:Int}(h:Df q p=false):K9 W g q p={ gi W.IE g with period:=p,next:=W.now+p,IQ:=Jt q W.IF.length }:=by unfold K9; rw[C' (by rw[h]; decide)]
def Ct:MG:=⟨none,0,none,0,none,0⟩
theorem zy9(base:Nat)(w:Wo):Z6 base w zzv Ct:=⟨.inl ⟨rfl,rfl,rfl⟩,.inl ⟨rfl,rfl,rfl⟩⟩
theorem zst:∀x∈ZP Ct,False:=λx hx=>by simp[ZP,Ct,QE] at hx
section
variable {W W':Q7}{m:MW}{w:Wo}{bar:Int}
theorem z1n{b:Nat}{bs:List Nat}{w w1 w2 w3:Wo}{q:Int}{n:Nat}(s:Sc w [b] w1)(h2:Q0 [b] (w1.alloc (.cells ((List.replicate n (0:Int)).flatMap Jn).toArray Qc)) w2)(dK:∀y∈[b],y<w1.heap.size)(We:∀y∈[b],y<w2.heap.size)(h3:Q0 [b] (w2.alloc (.cells ((List.replicate n false).flatMap M0).toArray Ye)) w3)(_:bs=[]) :
  Z6 w.heap.size w3 (Jt q n) ⟨some ⟨w1.heap.size,0,none⟩,n,some ⟨w2.heap.size,0,none⟩,n,none,0⟩/\Q0 [] w w3:=by
 have hL0:Ob Jn 1 Qc w1.heap.size [b] _ (some ⟨w1.heap.size,0,none⟩) n (List.replicate n (0:Int)):=Ob.of (Vq (enc:=Jn) Yb.len Qc n (0:Int) w1) dK;have s1:=(s.R5 (Z9 w1 (.cells ((List.replicate n (0:Int)).flatMap Jn).toArray Qc))).step h2;have hL1:=((hL0.step h2).R5 (Z9 w2 (.cells ((List.replicate n false).flatMap M0).toArray Ye))).step h3;have hD0:Ob M0 1 Ye w2.heap.size [b] _ (some ⟨w2.heap.size,0,none⟩) n (List.replicate n false):=Ob.of (Vq (enc:=M0) Yu.len Ye n false w2) We;have hD1:=hD0.step h3;have s2:=(s1.R5 (Z9 w2 (.cells ((List.replicate n false).flatMap M0).toArray Ye))).step h3;exact⟨⟨hL1.own.mono s.ext.size,hD1.own.mono s1.ext.size⟩,s2.ext⟩
theorem zy8{b:Nat}{w w1 w2 w3:Wo}{q:Int}{n:Nat}(s:Sc w [b] w1)(h2:Q0 [b] (w1.alloc (.cells ((List.replicate n false).flatMap M0).toArray Ye)) w2)(dK:∀y∈[b],y<w1.heap.size)(We:∀y∈[b],y<w2.heap.size)(h3:Q0 [b] (w2.alloc (.cells ((List.replicate n (0:Int)).flatMap Jn).toArray Qc)) w3) :
  Z6 w.heap.size w3 (Jt q n) ⟨some ⟨w2.heap.size,0,none⟩,n,some ⟨w1.heap.size,0,none⟩,n,none,0⟩/\Q0 [] w w3:=by
 have hL0:Ob M0 1 Ye w1.heap.size [b] _ (some ⟨w1.heap.size,0,none⟩) n (List.replicate n false):=Ob.of (Vq (enc:=M0) Yu.len Ye n false w1) dK;have s1:=(s.R5 (Z9 w1 (.cells ((List.replicate n false).flatMap M0).toArray Ye))).step h2;have hL1:=((hL0.step h2).R5 (Z9 w2 (.cells ((List.replicate n (0:Int)).flatMap Jn).toArray Qc))).step h3;have hD0:Ob Jn 1 Qc w2.heap.size [b] _ (some ⟨w2.heap.size,0,none⟩) n (List.replicate n (0:Int)):=Ob.of (Vq (enc:=Jn) Yb.len Qc n (0:Int) w2) We;have hD1:=hD0.step h3;have s2:=(s1.R5 (Z9 w2 (.cells ((List.replicate n (0:Int)).flatMap Jn).toArray Qc))).step h3;exact⟨⟨hD1.own.mono s1.ext.size,hL1.own.mono s.ext.size⟩,s2.ext⟩
theorem Gr{q:Int}{n:Nat}(hq:YQ q 1 10000=true)(hn:YQ (n:Int) 1 4=true) :
  Cz QN #[I q,I (n:Int)] w λe w'=>∃p:MG,e=.returned (.tuple #[.agg (Z2 (Jt q n) p).toArray,.bool true])/\Z6 w.heap.size w' (Jt q n) p/\Q0 [] w w':=by
 refine(zbl q (n:Int) (R:=λv w'=>∃p:MG,v=.tuple #[.agg (Z2 (Jt q n) p).toArray,.bool true]/\Z6 w.heap.size w' (Jt q n) p/\Q0 [] w w') ?_).mono λe w' ⟨v,he,p,hv,h3⟩=>⟨p,by rw[he,hv],h3⟩
 have hm9:=Zl;have h4:=(Qu.1 hn).2;intro b hb;have s0:Sc w [b] w:=(Sc.start w).add hb;have k1:=Qr (n:=q) (a:=1) (b:=10000) (w:=w) (bs:=[]);have k2:=Qr (n:=(n:Int)) (a:=1) (b:=4) (w:=w) (bs:=[]);rw[hq] at k1;rw[hn] at k2;refine⟨true,k1,true,λ_=>k2,λg=>by simp at g,λ_=>⟨λM' RZ dK=>⟨_,_,_,_,Kc Yb P6 n Qo Qo M',Qe (Z9 _ _) dK,λO' R2 We=>⟨_,_,_,_,Kc Yu KJ n Qo Qo O',Qe (Z9 _ _) We,λRq Rb=>?_⟩⟩,λM' RZ dK=>⟨_,_,_,_,Kc Yu KJ n Qo Qo M',Qe (Z9 _ _) dK,λO' R2 We=>⟨_,_,_,_,Kc Yb P6 n Qo Qo O',Qe (Z9 _ _) We,λRq Rb=>?_⟩⟩⟩⟩
 ·exact⟨_,by simp[Z2,Jt],z1n (bs:=[]) (s0.R5 RZ) R2 dK We Rb rfl⟩
 ·exact⟨_,by simp[Z2,Jt],zy8 (s0.R5 RZ) R2 dK We Rb⟩
theorem z1k{base:Nat}(h:Zj 8 base w W m){g:Int}(u0:0<=g)(u1:g<8){G:ZV}{p:MG}(hp:Z6 base w G.IQ p)(hb:∀x∈ZP p,x∉QB 8 m)(es:G.IG=(gi W.IE g).IG){j:Nat}{vs:List Va}(he:Yv G (TT (m.ms g.toNat) p)=(Yv (gi W.IE g) (m.ms g.toNat)).take j++vs++(Yv (gi W.IE g) (m.ms g.toNat)).drop (j+vs.length))(hj:j+vs.length<=14) :
  Zj 8 base (R9 w m.gO (Int.toNat g*14+j) vs) (Rf W g G) (PO m g.toNat (TT (m.ms g.toNat) p)):=
 h.B36 u0 u1 (g:=G) (p:=TT (m.ms g.toNat) p) ⟨hp.loc,hp.Rz,by rw[es]; exact(h.each u0 u1).shl⟩ (λx hx=>by
  rcases Oy x hx with h1 | h1
  ·exact .inl (hb x h1)
  ·exact .inr h1) he hj
theorem Wk.gr{bs:List Nat}{w0:Wo}(h:Wk 8 bs w0 w W m){g:Int}(u0:0<=g)(u1:g<8){G:ZV}{p:MG}(hp:Z6 w0.heap.size w G.IQ p)(hb:∀x∈ZP p,x∉QB 8 m/\x∉bs)(es:G.IG=(gi W.IE g).IG){j:Nat}{vs:List Va}(he:Yv G (TT (m.ms g.toNat) p)=(Yv (gi W.IE g) (m.ms g.toNat)).take j++vs++(Yv (gi W.IE g) (m.ms g.toNat)).drop (j+vs.length))(hj:j+vs.length<=14) :
  Wk 8 bs w0 (YtnclplgaicdapaaGreatDoor.R9 w m.gO (Int.toNat g*14+j) vs) (Rf W g G) (PO m g.toNat (TT (m.ms g.toNat) p)):=
 ⟨h.s.call B2 λx hx=>(h.own.lt x hx).1,⟨z1k h.own u0 u1 hp (λx hx=>(hb x hx).1) es he hj,λx hx=>by
  rcases Oz x hx with h1 | h1
  ·exact h.nb x h1
  ·rcases Oy x h1 with h2 | h2
   ·exact(hb x h2).2
   ·exact h.nb x (Jb Qo h2)⟩⟩
theorem VD{g:Int}{ok:Bool}(h:Xg [] w W m)(hl:XM W) :
  Cz Xv #[.agg (Qa W m).toArray,I g,.bool ok] w λe w'=>(Qw W=false/\e=.returned (.tuple #[.agg (Qa MO zxf).toArray,I 1])/\Q0 [] w w')\/(Qw W=true/\∃m',e=.returned (.tuple #[.agg (Qa W m').toArray,I (K2 W g ok)])/\Zj 8 w.heap.size w' W m'/\Q0 [] w w'):=by
 refine(C2 _ _ _ _ _ _ _ _ _ _ g ok (R:=λv w'=>(Qw W=false/\v=.tuple #[.agg (Qa MO zxf).toArray,I 1]/\Q0 [] w w')\/(Qw W=true/\∃m',v=.tuple #[.agg (Qa W m').toArray,I (K2 W g ok)]/\Zj 8 w.heap.size w' W m'/\Q0 [] w w')) ?_).mono λe w' ⟨v,he,h3⟩=>by
  rw[he];rcases h3 with ⟨a,b,c⟩ | ⟨a,m',b,c⟩
  ·exact .inl ⟨a,by rw[b],c⟩
  ·exact .inr ⟨a,m',by rw[b],c⟩
 intro x hx x1 RZ wr R2 We;refine I4 (Zh (h.ext R2) hl) ?_;rintro e wv (⟨hW,he,hy⟩ | ⟨hW,m',he,hM,hy⟩)
 ·exact⟨_,_,_,_,_,_,_,_,_,_,_,he,Qe hy We,λ_ M' Rb=>.inl ⟨hW,rfl,(R2.trans hy).fresh Rb λy hm=>.inl (YW hx RZ y hm)⟩,λg=>by simp at g⟩
 have hK:=Wk.begin hx RZ R2 We hM hy;have vY:((if QM W=true then 0 else 10:Int)==1)=false:=by split <;> rfl
 refine⟨_,_,_,_,_,_,_,_,_,_,_,he,Qe hy We,λg1 M' Rb=>.inr ⟨hW,m',?_,(hK.step Rb).fin⟩,λg1=>⟨_,Xs hK.rd.g,λg2 O' Rb=>.inr ⟨hW,m',?_,(hK.step Rb).fin⟩,λg2 Rq Rb=>.inr ⟨hW,m',?_,(hK.step Rb).fin⟩⟩⟩
 ·have hb:K2 W g ok=1:=by
   unfold K2;rw[E'];rw[vY] at g1
   simpa using g1
  rw[hb]; rfl
 ·rw[vY] at g1;have g1:¬(ok=false\/g=0):=by simpa using g1
  have hb:K2 W g ok=2:=by unfold K2; rw[C' g1,E' (by simpa using g2)]
  rw[hb]; rfl
 ·rw[vY] at g1;have g1:¬(ok=false\/g=0):=by simpa using g1
  have hb:K2 W g ok=if QM W=true then 0 else 10:=by
   unfold K2; rw[C' g1,C' (by simpa using g2)]
   cases QM W <;> rfl
  rw[hb]; rfl
theorem Fl{g q p:Int}(h:Xg [] w W m)(hl:XM W) :
  Cz VP #[.agg (Qa W m).toArray,I g,I q,I p] w λe w'=>∃v,e=.returned v/\QU (Xi W (zmb W g q p) (zyy W g q p)) w v w':=by
 refine F1 _ _ _ _ _ _ _ _ _ _ g q p (R:=λv w'=>QU (Xi W (zmb W g q p) (zyy W g q p)) w v w') ?_;intro x hx x1 RZ;refine⟨_,λ_=>Qr,_,λ_ _=>Qr,λwr R2 We=>?_⟩;refine I4 (VD (g:=g) (ok:=zhk q p) (h.ext R2) hl) ?_;rintro e wv (⟨hW,he,hy⟩ | ⟨hW,m',he,hM,hy⟩)
 ·exact⟨_,_,_,_,_,_,_,_,_,_,_,he,Qe hy We,λ_ M' Rb=>QU.bad hW ((R2.trans hy).fresh Rb λy hm=>.inl (YW hx RZ y hm)),λg=>by simp at g⟩
 have hK:=Wk.begin hx RZ R2 We hM hy;refine⟨_,_,_,_,_,_,_,_,_,_,_,he,Qe hy We,λg1 M' Rb=>QU.no hW (by simpa[zmb] using g1) (hK.step Rb) rfl,λg1=>?_⟩;have hb:zmb W g q p=0:=by simpa[zmb] using g1
 have hr:=hK.rd;obtain⟨hu,hz,hok,AF6,sw,s1⟩:=zvf hW hb;obtain⟨u0,u1,_⟩:=Q5.1 hu;have cP:=sw.a.gl;have vY:=sw.a.c1;have hc2:=sw.a.c2;have hn1:=sw.a.n1;have hn2:=sw.a.n2;have Wl:=hr.g.ix (i:=g) u0 u1;have e5:∀G mm,mm={ m' with ms:=mm.ms }->Qa (Rf W g G) mm=Qa W m':=λG mm hm=>by rw[hm]; simp[Qa,Rf]
 have eb:Qa W m'=Qa W m':=rfl;refine⟨Wl,_,_,_,_,_,_,_,_,_,_,_,_,_,_,_,_,_,_,_,_,hr.g.cells g u0 u1,λb2 cN=>⟨λg2 O' Rb iB=>?_,λg2=>?_⟩⟩
 ·have g2:Df q p=false:=by unfold Df; simpa only[ID] using g2
  have hlm:YQ q 1 10000=true/\YQ p 1 1000=true:=by unfold zhk at hok; rw[g2,Bool.false_or,A'] at hok; exact hok
  have hp:=Qu.1 hlm.2;have iL:=(hK.add cN).step (Rb.mono λy hy=>Ib _ hy);refine I4 (Gr (n:=W.IF.length) hlm.1 (Qu.2 ⟨Qo,Qo⟩)) ?_;rintro e1 R7 ⟨pb,jG,hO,dG⟩;refine⟨_,_,_,_,_,_,_,_,_,_,jG,Qe dG iB,λb3 hb3=>⟨⟨Qo,Qo⟩,Wl,?_,λRq SZ gY=>?_⟩⟩
  ·exact zef (iL.R5 dG).own (iL.R5 dG).nb u0 Qo (j:=0) Qd
  have oY:=(iL.R5 dG).add hb3
  have fE:=(oY.gr u0 Qo (G:=K9 W g q p) (p:=pb) (j:=0) (vs:=Yv (K9 W g q p) (TT (m'.ms g.toNat) pb)) (by rw[zmc g2]; exact hO.mono iL.base) (λy hy=>?_) zj4.2.2.2.1 (by simp[Yv]) (by simp[Yv])).step (w':=Rq) (by
   rw[zmc g2];exact SZ.mono λy hy=>Ib _ hy)
  ·have RD:=Qx fE.own s1 Qd Qd fE.base;rw[e5 _ _ rfl] at RD;refine I4 RD ?_;rintro e2 Rr ⟨m2,aT,SE⟩;exact⟨_,_,_,_,_,_,_,_,_,_,aT,fE.kept SE gY,λRw Sy=>QU.ok hW hb ((fE.SH SE gY).step Sy)⟩
  ·have:=hO.lt y hy;refine⟨λhm=>?_,λhm=>?_⟩
   ·have:=(iL.own.lt y hm).2; omega
   ·rcases Io.1 hm with h1 | h1
    ·have:=iB y h1; omega
    ·have:y=b3:=by simpa using h1
     omega
 ·have g2:Df q p=true:=by unfold Df; simpa only[I7] using g2
  refine⟨Wl,?_,λRq SZ gY=>?_⟩
  ·exact zef hK.own hK.nb u0 Qo (j:=0) Qd
  have oY:=hK.add cN
  have fE:=(oY.gr u0 Qo (G:=K9 W g q p) (p:=Ct) (j:=0) (vs:=Yv (K9 W g q p) (TT (m'.ms g.toNat) Ct)) (by rw[zqg g2]; exact zy9 _ _) (λy hy=>(zst y hy).elim) zj4.2.2.2.1 (by simp[Yv]) (by simp[Yv])).step (w':=Rq) (by
   rw[zqg g2];exact SZ.mono λy hy=>Ib _ hy)
  have RD:=Qx fE.own s1 Qd Qd fE.base;rw[e5 _ _ rfl] at RD;refine I4 RD ?_;rintro e2 Rr ⟨m2,aT,SE⟩;exact⟨_,_,_,_,_,_,_,_,_,_,aT,fE.kept SE gY,λRw Sy=>QU.ok hW hb ((fE.SH SE gY).step Sy)⟩
theorem Bh.pre{base pb:Nat}{ex:List Nat}{w0 w w':Wo}{W':Q7}{m m':MW}(hx:Q0 [] w0 w)(h:Bh base pb ex w m w' W' m'):Bh base pb ex w0 m w' W' m':=
 ⟨h.own,h.pt,hx.of_nil.trans h.ext,λx hy=>(h.sub x hy).imp id λhz=>IB hx.size hz⟩
theorem Bh.post{base pb:Nat}{ex:List Nat}{w w' w1:Wo}{W':Q7}{m m':MW}(h:Bh base pb ex w m w' W' m')(hx:Q0 [] w' w1):Bh base pb ex w m w1 W' m':=
 ⟨h.own.WQ hx,Qq h.pt hx Qs,h.ext.trans hx.of_nil,h.sub⟩
end
def N7(W:Q7)(t:Int):Int:=Y1 ((Q9 W t).v-(Qb W (Q9 W t).group (Q9 W t).R3).floor) (Qf (Q9 W t).nice)
def Kb(W:Q7)(t g c:Int):Kf:={ Q9 W t with group:=g,R3:=c,v:=(Qb W g c).floor+N7 W t }
def VW(W:Q7)(t g c:Int):Q7:=if (Q9 W t).state=1 then Ry (IV W t (Kb W t g c)) c else IV W t (Kb W t g c)
theorem zcu(W:Q7)(t:Int):0<=N7 W t/\N7 W t<=Qj:=by
 have lc:=ZG ((Q9 W t).v-(Qb W (Q9 W t).group (Q9 W t).R3).floor) (Qf (Q9 W t).nice);have lm:=ZC (Qf (Q9 W t).nice);unfold N7;simp only[Qj];omega
theorem SF.IV{F K:Int}{W:Q7}(h:SF F K W){t:Int}(t0:0<=t)(t1:t<12){x:Kf}(hx:x.state≠0->Q6 W.IE x.group=true/\0<=x.R3/\x.R3<(W.IF.length:Int))(v0:0<=x.v)(v1:x.v<=K):SF F K (IV W t x):=⟨h.w.IV t0 t1 hx v0 v1,h.f⟩
theorem SF.Ry{F K:Int}{W:Q7}(h:SF F K W){c:Int}(c0:0<=c)(c1:c<(W.IF.length:Int)):SF F K (Ry W c):=
 ⟨h.w.Ry c0 c1,λk d u a b=>h.f k d u a (by
  have b:d<(((W.IF.set c.toNat (Ja (gi W.IF c))).length:Nat):Int):=b
  rwa[H'] at b)⟩
theorem zqw{F K:Int}{W:Q7}(h:SF F K W)(hk:F+Qj<=K){t g c:Int}(hg:Q6 W.IE g=true)(c0:0<=c)(c1:c<(W.IF.length:Int)):0<=(Kb W t g c).v/\(Kb W t g c).v<=K:=by
 have hf:=h.f g c hg c0 c1;have hs:=h.w.s g c hg c0 c1;have hl:=zcu W t;show 0<=(Qb W g c).floor+N7 W t/\(Qb W g c).floor+N7 W t<=K;omega
theorem zab{F K:Int}{W:Q7}(h:SF F K W)(hk:F+Qj<=K){t g c:Int}(t0:0<=t)(t1:t<12)(hg:Q6 W.IE g=true)(c0:0<=c)(c1:c<(W.IF.length:Int)):SF F K (IV W t (Kb W t g c))/\SF F K (VW W t g c):=by
 have hv:=zqw h hk (t:=t) hg c0 c1;have h1:=h.IV t0 t1 (x:=Kb W t g c) (λ_=>⟨hg,c0,c1⟩) hv.1 hv.2;refine⟨h1,?_⟩;unfold VW;split
 ·exact h1.Ry c0 c1
 ·exact h1
theorem zwb(W:Q7)(t g c:Int):(VW W t g c).now=W.now/\(VW W t g c).IF.length=W.IF.length/\(VW W t g c).tasks.length=W.tasks.length/\(VW W t g c).IE=W.IE:=by
 unfold VW;split
 ·exact⟨rfl,by simp[Ry,S8,IV],by simp[Ry,S8,IV],rfl⟩
 ·exact⟨rfl,rfl,by simp[IV],rfl⟩
def HP(m:Int):Int:=if Z7 m 0=true then 0 else if Z7 m 1=true then 1 else if Z7 m 2=true then 2 else if Z7 m 3=true then 3 else -1
theorem zx6:∀a:Fin 16,a.val≠0->Z7 (a.val:Int) (HP (a.val:Int))=true:=by decide +kernel
theorem FA{m:Int}(h:OH m=true)(h0:m≠0):Z7 m (HP m)=true:=by
 obtain⟨f,rfl⟩:=MH h;exact zx6 f λe=>h0 (by rw[e]; rfl)
theorem z1v(gs:List ZV)(g u:Int):OH (T9 gs g u)=true:=by
 unfold T9;rw[List.foldl_append];exact z7 _ _
theorem KM{W:Q7}(ha:WA W)(g mask:Int):OH (Qy W g mask)=true/\Qy W g mask≠0:=by
 unfold Qy;split
 ·rename_i h; exact⟨z7 _ _,h⟩
 ·split
  ·rename_i h;refine⟨?_,h⟩;exact z1v _ _ _
  ·exact⟨zzq ha.c2,ha.ups⟩
theorem Hr{W:Q7}(ha:WA W)(g mask:Int):0<=HP (Qy W g mask)/\HP (Qy W g mask)<(W.IF.length:Int):=by
 have h:=KM ha g mask;exact KV ha (FA h.1 h.2)
def GA(W:Q7)(t:Int):Bool:=((Q9 W t).state != 0) && !Z7 (Qy W (Q9 W t).group (Q9 W t).mask) (Q9 W t).R3
def UH(W:Q7):Nat->Q7
 | 0=>W
 | t+1=>if GA (UH W t) (t:Int)=true then VW (UH W t) (t:Int) (Q9 (UH W t) (t:Int)).group (HP (Qy (UH W t) (Q9 (UH W t) (t:Int)).group (Q9 (UH W t) (t:Int)).mask)) else UH W t
def HU(W:Q7):Q7:=UH W 12
structure A6 (W W':Q7):Prop where
 n:W'.now=W.now
 c:W'.IF.length=W.IF.length
 t:W'.tasks.length=W.tasks.length
 g:W'.IE=W.IE
theorem A6.refl(W:Q7):A6 W W:=⟨rfl,rfl,rfl,rfl⟩
theorem A6.trans{A B C:Q7}(h:A6 A B)(k:A6 B C):A6 A C:=⟨k.n.trans h.n,k.c.trans h.c,k.t.trans h.t,k.g.trans h.g⟩
theorem A6.put(W:Q7)(t g c:Int):A6 W (VW W t g c):=by
 obtain⟨h1,h2,h3,h4⟩:=zwb W t g c;exact⟨h1,h2,h3,h4⟩
theorem zko{F K:Int}{W:Q7}(h:SF F K W)(hk:F+Qj<=K):∀t:Nat,t<=12->SF F K (UH W t)/\A6 W (UH W t)
 | 0,_=>⟨h,A6.refl _⟩
 | t+1,ht=>by
  obtain⟨a,b⟩:=zko h hk t Qo;simp only[UH];split
  ·rename_i hm;unfold GA at hm;simp only[A',Iu,ne_eq] at hm;have hg:=a.w.t (t:Int) Qo Qo hm.1;have hf:=Hr a.w.a (Q9 (UH W t) (t:Int)).group (Q9 (UH W t) (t:Int)).mask;exact⟨(zab a hk Qo Qo hg.1 hf.1 hf.2).2,b.trans (A6.put _ _ _ _)⟩
  ·exact⟨a,b⟩
theorem Hj{F K:Int}{W:Q7}(h:SF F K W)(hk:F+Qj<=K):SF F K (HU W)/\A6 W (HU W):=zko h hk 12 (I8 _)
theorem zy1{m:Int}{k:Nat}(h4:k<4)(jH:∀j:Nat,j<k->Z7 m (j:Int)=false)(h:Z7 m (k:Int)=true):HP m=(k:Int):=by
 have h0:=jH 0;have h1:=jH 1;have h2:=jH 2;have:k=0\/k=1\/k=2\/k=3:=Qo;unfold HP;rcases this with rfl | rfl | rfl | rfl
 ·rw[E' (show Z7 m 0=true from h)]; rfl
 ·rw[C' (by rw[show Z7 m 0=false from h0 Qd]; decide),E' (show Z7 m 1=true from h)]; rfl
 ·rw[C' (by rw[show Z7 m 0=false from h0 Qd]; decide),C' (by rw[show Z7 m 1=false from h1 Qd]; decide),E' (show Z7 m 2=true from h)]; rfl
 ·rw[C' (by rw[show Z7 m 0=false from h0 Qd]; decide),C' (by rw[show Z7 m 1=false from h1 Qd]; decide),C' (by rw[show Z7 m 2=false from h2 Qd]; decide),E' (show Z7 m 3=true from h)]; rfl
theorem zy2{m:Int}(jH:∀j:Nat,j<4->Z7 m (j:Int)=false):HP m = -1:=by
 unfold HP;rw[C' (by rw[show Z7 m 0=false from jH 0 Qd]; decide),C' (by rw[show Z7 m 1=false from jH 1 Qd]; decide),C' (by rw[show Z7 m 2=false from jH 2 Qd]; decide),C' (by rw[show Z7 m 3=false from jH 3 Qd]; decide)]
section
variable {base:Nat}{W W':Q7}{m:MW}{w:Wo}{bar:Int}
theorem Kr{x:Int}{bs:List Nat}:PX bs Ue #[I x] w (I (HP x)):=
 Nq x λwr hx=>by
  refine XL 4 0 rfl (λk=>k<=4/\∀j:Nat,j<k->Z7 x (j:Int)=false) ⟨Qd,λj hj=>Is hj (Nat.not_lt_zero j)⟩ λk ⟨hk,jH⟩=>⟨λIU=>?_,λRN=>?_⟩
  ·have IU:=Ot IU;refine⟨_,Yj,λg=>?_,λg=>⟨⟨Qo,Qo⟩,QI Qo ⟨Qo,λj hj=>?_⟩⟩⟩
   ·rw[zy1 Qo jH g]
   ·by_cases e:j=k
    ·rw[e]; exact g
    ·exact jH j Qo
  ·have RN:=Ou RN;have:k=4:=Qo;subst this;rw[zy2 jH]
theorem H7(W:Q7)(t:Int)(x:Kf)(m:MW):Qa (IV W t x) m=Qa W m:=by simp[Qa,IV]
theorem Vo{F K:Int}(h:Zj 8 base w W m)(mC:SF F K W)(hk:F+Qj<=K)(hK:K<=1000000000000000000){t g c:Int}(t0:0<=t)(t1:t<12)(hs:(Q9 W t).state≠0)(hg:Q6 W.IE g=true)(c0:0<=c)(c1:c<(W.IF.length:Int)) :
  Cz Xx #[.agg (Qa W m).toArray,I t,I g,I c] w λe w'=>e=.returned (.agg (Qa W m).toArray)/\Mv 8 base [] w m w' (VW W t g c) m:=by
 refine(zfm _ _ _ _ _ _ _ _ _ _ t g c (R:=λv w'=>v=.agg (Qa W m).toArray/\Mv 8 base [] w m w' (VW W t g c) m) ?_).mono λe w' ⟨v,he,hv,h3⟩=>⟨by rw[he,hv],h3⟩
 intro y hy y1 dG;obtain⟨g0,g1,_⟩:=Q5.1 hg;have fH:=mC.w.a.t;have cP:=mC.w.a.gl;have hsl:=mC.w.a.sl hg;have wA:t<(W.tasks.length:Int):=Qo;obtain⟨hu,d0,d1⟩:=mC.w.t t t0 t1 hs;obtain⟨q0,q1,_⟩:=Q5.1 hu;have hql:=mC.w.a.sl hu;have s1:=mC.w.s g c hg c0 c1;have s2:=mC.w.s _ _ hu d0 d1;have hv:=mC.w.tv t t0 t1;have hlr:=zcu W t;simp only[Qj] at hlr;have hM:=Mv.two h hy dG;have hr:=(Mv.start h).rd;have Wl:=hr.t.ix QF t0 wA;have SI:=h.xS t0 wA (j:=0) (vs:=YK (Kb W t g c)) (x:=Kb W t g c) (by simp[YK]) (by simp[YK]);have e5:Qa (IV W t (Kb W t g c)) m=Qa W m:=H7 _ _ _ _;have e6:Qa (Ry (IV W t (Kb W t g c)) c) m=Qa W m:=(UL (BU _ _)).trans e5;refine⟨N7 W t,Dd hr t0 wA q0 q1 d0 Qo ⟨by show _<=(Q9 W t).v-(Qb W (Q9 W t).group (Q9 W t).R3).floor; omega,by show (Q9 W t).v-(Qb W (Q9 W t).group (Q9 W t).R3).floor<=_; omega⟩,Wl,_,_,_,_,_,_,_,_,_,hr.t t t0 wA,λb2 cN=>⟨hr.g.ix g0 g1,_,_,_,hr.g.RF g0 g1,(hr.g.IG g g0 g1).ix Y7 c0 Qo,(Qb W g c).floor,zno.f (hr.g.IG g g0 g1) c0 Qo (j:=0) rfl,⟨Qo,Qo⟩,Wl,zik h Qs t0 wA (j:=0) Qd,λg4 wr hx gY=>?_,λg4 wr hx=>⟨rfl,?_⟩⟩⟩
 ·have g4:(Q9 W t).state=1:=Iz g4;have aB:=((hM.add cN).SH SI LR).step (hx.of_nil);have RD:=ZF aB.own (W:=IV W t (Kb W t g c)) c0 c1;rw[e5,e6] at RD;refine I4 RD ?_;rintro e wv ⟨jG,SE⟩;refine⟨_,_,_,_,_,_,_,_,_,_,jG,aB.kept SE gY,λO' SZ=>⟨rfl,?_⟩⟩;unfold VW;rw[E' g4];exact((aB.call SE gY).step SZ).close
 ·have g4:¬(Q9 W t).state=1:=ne_of_beq_false g4;unfold VW;rw[C' g4];exact((Mv.start h).SH SI LR).R5 hx
theorem JP{F K:Int}(h:Zj 8 base w W m)(mC:SF F K W)(hk:F+Qj<=K)(hK:K<=1000000000000000000) :
  Cz YC #[.agg (Qa W m).toArray] w λe w'=>e=.returned (.agg (Qa W m).toArray)/\Mv 8 base [] w m w' (HU W) m:=by
 refine(DI _ _ _ _ _ _ _ _ _ _ (R:=λv w'=>v=.agg (Qa W m).toArray/\Mv 8 base [] w m w' (HU W) m) ?_).mono λe w' ⟨v,he,hv,h3⟩=>⟨by rw[he,hv],h3⟩
 intro y hy y1 dG;have fH:=mC.w.a.t;refine⟨λvs w1=>∃(k:Nat),vs=I (k:Int)::Qa W m/\k<=12/\Mv 8 base [y,y1] w m w1 (UH W k) m,Zt 12 0,λw1 wB _=>⟨0,rfl,Qd,(Mv.two h hy dG).R5 wB⟩,?_⟩;rintro c1 l Se Sm Sv Sl Sq Su Sf Sg Sj Rr We ⟨k,he,wM,hM⟩;obtain⟨hS,hF⟩:=zko mC hk k wM;have Ww:UH W (k+1)=if GA (UH W k) (k:Int)=true then VW (UH W k) (k:Int) (Q9 (UH W k) (k:Int)).group (HP (Qy (UH W k) (Q9 (UH W k) (k:Int)).group (Q9 (UH W k) (k:Int)).mask)) else UH W k:=rfl;have tX:k=12->HU W=UH W k:=λe=>by rw[e]; rfl
 have e0:Qa (UH W k) m=Qa W m:=by simp only[Qa,hF.n,hF.c,hF.t,hF.g]
 have eC:=hF.c;have eT:=hF.t;simp only[Qa,I5,I6,Iw,true_and,and_true] at he;obtain⟨rfl,rfl,⟨rfl,rfl,rfl⟩,⟨rfl,rfl,rfl⟩,rfl,rfl,rfl⟩:=he;generalize UH W k=V at hM hS hF Ww tX e0 eC eT;have hr:=hM.rd;refine⟨λIU=>?_,λRN w3 Rb=>⟨rfl,?_⟩⟩
 ·have IU:=Ot IU;have t1:(k:Int)<(V.tasks.length:Int):=Qo;have Wl:Ix m.tO W.tasks.length (k:Int):=by have:=hr.t.ix QF (i:=(k:Int)) Qo t1; rwa[eT] at this
  have next:∀{w9 w8:Wo},Q0 [y,y1] Rr w9->GA V (k:Int)=false->(∃(k':Nat),[I ((k:Int)+1),I W.now,.slice m.cO W.IF.length m.cC,.slice m.tO W.tasks.length m.tC,.slice m.gO W.IE.length m.gC]=I (k':Int)::Qa W m/\k'<=12/\Mv 8 base [y,y1] w m w9 (UH W k') m)/\Zt 12 0 [I ((k:Int)+1),I W.now,.slice m.cO W.IF.length m.cC,.slice m.tO W.tasks.length m.tC,.slice m.gO W.IE.length m.gC] w9<Zt 12 0 [I (k:Int),I W.now,.slice m.cO W.IF.length m.cC,.slice m.tO W.tasks.length m.tC,.slice m.gO W.IE.length m.gC] w8:=λ{w9 w8} hx hm=>by
   refine⟨⟨k+1,rfl,Qo,?_⟩,?_⟩
   ·rw[Ww,C' (by rw[hm]; decide)];exact hM.step hx
   ·simp only[Zt,Xe,ZQ,Ig]; omega
  refine⟨Wl,_,zxd.f hr.t Qo t1 (j:=0) rfl,λg=>⟨⟨Qo,Qo⟩,λRw SZ _=>next SZ (by unfold GA; rw[show (Q9 V (k:Int)).state=0 from Iz g]; rfl)⟩,λg=>?_⟩;have mS:(Q9 V (k:Int)).state≠0:=ne_of_beq_false g;obtain⟨hu,d0,d1⟩:=hS.w.t (k:Int) Qo Qo mS;have hwh:=Jr (g:=(Q9 V (k:Int)).group) (mask:=(Q9 V (k:Int)).mask) hr hS.w.a.c2 hS.w.a.tree hu;rw[e0] at hwh;have hf:=Hr hS.w.a (Q9 V (k:Int)).group (Q9 V (k:Int)).mask;refine⟨Wl,_,zxd.f hr.t Qo t1 (j:=1) rfl,Wl,_,zxd.f hr.t Qo t1 (j:=4) rfl,_,hwh,Wl,_,zxd.f hr.t Qo t1 (j:=2) rfl,_,Yj,λg2=>⟨Wl,_,zxd.f hr.t Qo t1 (j:=1) rfl,_,Kr,λRQ Sy mM=>?_⟩,λg2=>⟨⟨Qo,Qo⟩,λRw SZ _=>next SZ (by unfold GA; rw[show Z7 (Qy V (Q9 V (k:Int)).group (Q9 V (k:Int)).mask) (Q9 V (k:Int)).R3=true from (by have h:=g2; rw[I7] at h; exact h)]; simp)⟩⟩;have hM5:=hM.step Sy;have RD:=Vo hM5.own hS hk hK (t:=(k:Int)) (g:=(Q9 V (k:Int)).group) (c:=HP (Qy V (Q9 V (k:Int)).group (Q9 V (k:Int)).mask)) Qo Qo mS hu hf.1 hf.2;rw[e0] at RD;refine I4 RD ?_;rintro e1 S3 ⟨jG,jL⟩;refine⟨_,_,_,_,_,_,_,_,_,_,jG,hM5.kept jL mM,⟨Qo,Qo⟩,λSi aS _=>⟨⟨k+1,rfl,Qo,?_⟩,?_⟩⟩
  ·have hm:GA V (k:Int)=true:=by
    unfold GA;rw[A'];exact⟨by simpa using mS,g2⟩
   rw[Ww,E' hm];exact(hM5.call jL mM).step aS
  ·simp only[Zt,Xe,ZQ,Ig]; omega
 ·have RN:=Ou RN;rw[tX Qo];exact(hM.step Rb).close
section
variable {pb:Nat}
end
end
theorem KI{W:Q7}(sw:SW Ql W):SF Ql (Ql+Qj) W:=sw.sf.mono (I3 _) (by simp only[Qj]; decide)
noncomputable def Ec(W:Q7)(t x:Int):Int:=if OH x=false\/x=0 then 1 else if ZA W t=false then 2 else if QM W=false then 10 else 0
def zo0(W:Q7)(t x:Int):Kf:={ Q9 W t with mask:=x }
def zv7(W:Q7)(t x:Int):Q7:=Qg (HU (IV W t (zo0 W t x)))
theorem zv8{W:Q7}{t x:Int}(hW:Qw W=true)(hb:Ec W t x=0):ZA W t=true/\SF Ql (Ql+Qj) W/\SF Ql (Ql+Qj) (IV W t (zo0 W t x)):=by
 have wp:=Qh.1 hW;unfold Ec at hb
 split at hb
 ·cases hb
 ·split at hb
  ·cases hb
  ·rename_i h2
   split at hb
   ·cases hb
   ·rename_i h3;have h1:ZA W t=true:=by simpa using h2
    have h3:QM W=true:=by simpa using h3
    have sw:=PH wp (Qh.1 h3);obtain⟨t0,t1,n⟩:=YA h1;have hl:=wp.a.t;have hv:=sw.tv t t0 Qo;exact⟨h1,KI sw,KI (sw.IV t0 Qo (λ_=>sw.t t t0 Qo n) hv.1 hv.2)⟩
theorem Fa{W:Q7}{m:MW}{F K:Int}(sf:SF F K W)(hk:F+Qj<=K):Qa (HU W) m=Qa W m:=by
 have hF:=(Hj sf hk).2;simp only[Qa,hF.n,hF.c,hF.t,hF.g]
section
variable {base pb:Nat}{W W':Q7}{m:MW}{w:Wo}{bar:Int}
theorem zcq{t x:Int}(h:Xg [] w W m)(hl:XM W) :
  Cz Pg #[.agg (Qa W m).toArray,I t,I x] w λe w'=>∃v,e=.returned v/\QU (Xi W (Ec W t x) (zv7 W t x)) w v w':=by
 refine zbm _ _ _ _ _ _ _ _ _ _ t x (R:=λv w'=>QU (Xi W (Ec W t x) (zv7 W t x)) w v w') ?_;intro y hy y1 dG wr R2 We;refine I4 (Zh (h.ext R2) hl) ?_;rintro e wv (⟨hW,he,SE⟩ | ⟨hW,m',he,hM,SE⟩)
 ·exact⟨_,_,_,_,_,_,_,_,_,_,_,he,Qe SE We,false,λg=>by simp at g,λ_ M' Rb=>QU.bad hW ((R2.trans SE).fresh Rb λz hm=>.inl (YW hy dG z hm)),λg=>by simp at g⟩
 have hK:=Wk.begin hy dG R2 We hM SE;have hr:=hK.rd;have vY:((if QM W=true then 0 else 10:Int)==1)=false:=by split <;> rfl
 refine⟨_,_,_,_,_,_,_,_,_,_,_,he,Qe SE We,_,λ_=>Xr,λg M' Rb=>?_,λg0=>⟨_,U2 hr hl.t,λg O' Rb=>?_,λg=>⟨λg3 Rw Rb=>?_,λg3=>?_⟩⟩⟩
 ·rw[vY] at g;have g:OH x=false\/x=0:=by simpa using g
  have hb:Ec W t x=1:=by unfold Ec; rw[E' g]
  exact QU.no hW (by rw[hb]; decide) (hK.step Rb) hb
 ·rw[vY] at g0;have g0:¬(OH x=false\/x=0):=by simpa using g0
  have g:ZA W t=false:=by simpa using g
  have hb:Ec W t x=2:=by unfold Ec; rw[C' g0,E' g]
  exact QU.no hW (by rw[hb]; decide) (hK.step Rb) hb
 ·rw[vY] at g0;have g0:¬(OH x=false\/x=0):=by simpa using g0
  have g:ZA W t=true:=by simpa using g
  have cD:¬QM W=true:=λhr=>by rw[E' hr] at g3; simp at g3
  have hb:Ec W t x=10:=by unfold Ec; rw[C' g0,C' (by rw[g]; decide),E' (by simpa using cD)]
  rw[C' cD];exact QU.no hW (by rw[hb]; decide) (hK.step Rb) hb
 rw[vY] at g0;have g0:¬(OH x=false\/x=0):=by simpa using g0
 have g:ZA W t=true:=by simpa using g
 have cD:QM W=true:=Ir λhr=>by rw[C' hr] at g3; simp at g3
 have hb:Ec W t x=0:=by unfold Ec; rw[C' g0,C' (by rw[g]; decide),C' (by rw[cD]; decide)]
 obtain⟨_,sf0,sf⟩:=zv8 hW hb;obtain⟨t0,t1,tn⟩:=YA g;have SI:Wk 8 [y,y1] w (R9 wv m'.tO (Int.toNat t*9+4) [I x]) (IV W t (zo0 W t x)) m':=hK.R9 (hK.own.xS t0 t1 (j:=4) (vs:=[I x]) (x:=zo0 W t x) rfl Qs) LR;refine⟨hr.t.ix QF t0 t1,zik hK.own hK.nb t0 t1 (j:=4) Qd,λRw SZ gY=>?_⟩;have e5:Qa (IV W t (zo0 W t x)) m'=Qa W m':=H7 _ _ _ _;have hE:zv7 W t x=Qg (HU (IV W t (zo0 W t x))):=rfl;rw[hE];generalize IV W t (zo0 W t x)=V at SI sf e5;have fE:=SI.step SZ;have RD:=JP fE.own sf (I3 _) (by simp only[Qj]; decide);rw[e5] at RD;refine I4 RD ?_;rintro e1 R7 ⟨jG,jL⟩;refine⟨_,_,_,_,_,_,_,_,_,_,jG,fE.kept jL gY,λRQ Sy mM=>?_⟩;have dV:=(fE.SH jL gY).step Sy;have aW:=Qx dV.own (Hj sf (I3 _)).1.w (by simp only[Qj]; decide) (by simp only[Qj]; decide) dV.base;rw[Fa sf (I3 _),e5] at aW;refine I4 aW ?_;rintro e2 Rr ⟨m2,aT,kJ⟩;exact⟨_,_,_,_,_,_,_,_,_,_,aT,dV.kept kJ mM,λSi aS=>QU.ok hW hb ((dV.SH kJ mM).step aS)⟩
def zjt(W:Q7)(g x:Int):ZV:={ gi W.IE g with IF:=x }
noncomputable def zlz(W:Q7)(g x:Int):Int:=K2 W g (OH x&&(x != 0))
def zuy(W:Q7)(g x:Int):Q7:=Qg (HU (Rf W g (zjt W g x)))
theorem zuz{W:Q7}{g x:Int}(hW:Qw W=true)(hb:zlz W g x=0):Q6 W.IE g=true/\QM W=true/\SF Ql (Ql+Qj) W/\SF Ql (Ql+Qj) (Rf W g (zjt W g x))/\Z1 W.IE (Rf W g (zjt W g x)).IE:=by
 obtain⟨h1,h2,h3,h4⟩:=zju hb;have wp:=Qh.1 hW;have sw:=PH wp (Qh.1 h4);obtain⟨u0,u1,hg⟩:=wp.a.u h3;have hl:=wp.a.gl;simp only[A',Iu,ne_eq] at h1;exact⟨h3,h4,KI sw,KI (sw.Rf (x:=zjt W g x) h3 rfl rfl rfl rfl ⟨hg.w1,hg.w2,h1.1,h1.2,hg.s,hg.len,λh=>Is h h2,hg.none,hg.IQ⟩),U5 u0 Qo rfl rfl rfl⟩
theorem Cc{g x:Int}(h:Xg [] w W m)(hl:XM W) :
  Cz O6 #[.agg (Qa W m).toArray,I g,I x] w λe w'=>∃v,e=.returned v/\QU (Xi W (zlz W g x) (zuy W g x)) w v w':=by
 refine AP _ _ _ _ _ _ _ _ _ _ g x (R:=λv w'=>QU (Xi W (zlz W g x) (zuy W g x)) w v w') ?_;intro y hy y1 dG;refine⟨_,Xr,λwr R2 We=>?_⟩;refine I4 (VD (g:=g) (ok:=OH x&&(x != 0)) (h.ext R2) hl) ?_;rintro e wv (⟨hW,he,SE⟩ | ⟨hW,m',he,hM,SE⟩)
 ·exact⟨_,_,_,_,_,_,_,_,_,_,_,he,Qe SE We,λ_ M' Rb=>QU.bad hW ((R2.trans SE).fresh Rb λz hm=>.inl (YW hy dG z hm)),λg=>by simp at g⟩
 have hK:=Wk.begin hy dG R2 We hM SE;refine⟨_,_,_,_,_,_,_,_,_,_,_,he,Qe SE We,λg1 M' Rb=>QU.no hW (by simpa[zlz] using g1) (hK.step Rb) rfl,λg1=>?_⟩;have hb:zlz W g x=0:=by simpa[zlz] using g1
 have hr:=hK.rd;obtain⟨hu,AF6,sf0,sf,hT⟩:=zuz hW hb;obtain⟨u0,u1,_⟩:=Q5.1 hu;have cP:=sf0.w.a.gl;have SI:Wk 8 [y,y1] w (R9 wv m'.gO (Int.toNat g*14+4) [I x]) (Rf W g (zjt W g x)) m':=hK.R9 (hK.own.Ap0 u0 Qo (g:=zjt W g x) rfl rfl rfl (j:=4) (vs:=[I x]) rfl Qs) B2;refine⟨hr.g.ix (i:=g) u0 u1,zef hK.own hK.nb (i:=g) u0 Qo (j:=4) (k:=1) Qd,λRw SZ gY=>?_⟩;have e5:Qa (Rf W g (zjt W g x)) m'=Qa W m':=by simp[Qa,Rf]
 have hE:zuy W g x=Qg (HU (Rf W g (zjt W g x))):=rfl;rw[hE];generalize Rf W g (zjt W g x)=V at SI sf e5;have fE:=SI.step SZ;have RD:=JP fE.own sf (I3 _) (by simp only[Qj]; decide);rw[e5] at RD;refine I4 RD ?_;rintro e1 R7 ⟨jG,jL⟩;refine⟨_,_,_,_,_,_,_,_,_,_,jG,fE.kept jL gY,λRQ Sy mM=>?_⟩;have dV:=(fE.SH jL gY).step Sy;have aW:=Qx dV.own (Hj sf (I3 _)).1.w (by simp only[Qj]; decide) (by simp only[Qj]; decide) dV.base;rw[Fa sf (I3 _),e5] at aW;refine I4 aW ?_;rintro e2 Rr ⟨m2,aT,kJ⟩;exact⟨_,_,_,_,_,_,_,_,_,_,aT,dV.kept kJ mM,λSi aS=>QU.ok hW hb ((dV.SH kJ mM).step aS)⟩
theorem zsp{x:Int}{bs:List Nat}:PX bs Xt #[I x] w (.bool (OH x&&(x != 0))):=by
 rw[Bool.and_comm];exact Pm
end
def z0d(W:Q7)(c:Int)(j:Nat):Bool:=((Q9 W (j:Int)).state==1)&&((Q9 W (j:Int)).R3==c)
def CQ(W:Q7)(c:Int)(j:Nat):Int:=if z0d W c j=true then 1 else 0
def Fv(W:Q7)(c:Int)(j:Nat):Int:=if z0d W c j=true then (Q9 W (j:Int)).load else 0
def zgx(W:Q7)(c:Int):Int:=XI (CQ W c) W.tasks.length
def zcv(W:Q7)(c:Int):Int:=XI (Fv W c) W.tasks.length
def zmg(W:Q7)(a b:Int):Bool:=decide (zcv W a<zcv W b)||((zcv W a==zcv W b)&&decide (zgx W a<zgx W b))
def Ta(W:Q7)(m:Int):Nat->Int
 | 0 => -1
 | k+1=>if (Z7 m (k:Int)&&(decide (Ta W m k<0)||zmg W (k:Int) (Ta W m k)))=true then (k:Int) else Ta W m k
def Pr(W:Q7)(m:Int):Int:=Ta W m W.IF.length
theorem FR{W:Q7}{m:Int}{k:Nat}(h:(Z7 m (k:Int)&&(decide (Ta W m k<0)||zmg W (k:Int) (Ta W m k)))=true):Ta W m (k+1)=(k:Int):=E' h
theorem FQ{W:Q7}{m:Int}{k:Nat}(h:(Z7 m (k:Int)&&(decide (Ta W m k<0)||zmg W (k:Int) (Ta W m k)))=false):Ta W m (k+1)=Ta W m k:=C' (by rw[h]; decide)
theorem Ed(W:Q7)(m:Int):∀k:Nat,-1<=Ta W m k/\Ta W m k<(k:Int)/\(0<=Ta W m k->Z7 m (Ta W m k)=true)
 | 0=>⟨I3 _,by show (-1:Int)<0; decide,λh=>by have:(0:Int)<=-1:=h; omega⟩
 | k+1=>by
  have ih:=Ed W m k;simp only[Ta];split
  ·rename_i h;simp only[A'] at h;exact⟨Qo,Qo,λ_=>h.1⟩
  ·exact⟨ih.1,Qo,ih.2.2⟩
theorem zhx{W:Q7}{m:Int}{j:Nat}(h:Z7 m (j:Int)=true):∀k:Nat,j<k->0<=Ta W m k
 | 0,hk=>Is hk (Nat.not_lt_zero j)
 | k+1,hk=>by
  by_cases e:j=k
  ·subst e
   by_cases hn:Ta W m j<0
   ·rw[FR (by rw[h,Ii hn]; rfl)]; omega
   ·simp only[Ta]; split <;> omega
  ·have:=zhx (W:=W) h k Qo;simp only[Ta]
   split <;> omega
theorem zwa{W:Q7}(ha:WA W){m:Int}(hm:OH m=true)(h0:m≠0)(hs:∀c:Int,Z7 m c=true->0<=c/\c<(W.IF.length:Int)):0<=Pr W m/\Pr W m<(W.IF.length:Int)/\Z7 m (Pr W m)=true:=by
 have hf:=FA hm h0;have hr:=hs _ hf;have e:((HP m).toNat:Int)=HP m:=Qo;have h1:=zhx (W:=W) (m:=m) (j:=(HP m).toNat) (by rw[e]; exact hf) W.IF.length Qo;have h2:=Ed W m W.IF.length;exact⟨h1,h2.2.1,h2.2.2 h1⟩
theorem Hh{W:Q7}(ha:WA W)(g mask:Int):0<=Pr W (Qy W g mask)/\Pr W (Qy W g mask)<(W.IF.length:Int)/\Z7 (Qy W g mask) (Pr W (Qy W g mask))=true:=
 zwa ha (KM ha g mask).1 (KM ha g mask).2 λ_ h=>KV ha h
def Kv(m:Int):Nat->Int
 | 0=>0
 | k+1=>if Z7 m (k:Int)=true then Kv m k+1 else Kv m k
theorem DW(m:Int):∀k:Nat,0<=Kv m k/\Kv m k<=(k:Int)
 | 0=>by simp[Kv]
 | k+1=>by
  have:=DW m k;simp only[Kv]
  split <;> omega
def z0k(W:Q7):Prop:=∀t:Int,0<=t->t<12->0<=(Q9 W t).load/\(Q9 W t).load<=8000000
theorem zop{W:Q7}(wp:Je W):z0k W:=λt t0 t1=>by
 rcases wp.t t t0 t1 with h | ⟨_,h⟩
 ·rw[h.2]; decide
 ·exact⟨h.l1,h.l2⟩
theorem zo7(W:Q7)(c:Int)(j:Nat):0<=CQ W c j/\CQ W c j<=1:=by unfold CQ; split <;> omega
theorem zds{W:Q7}(c:Int)(k:Nat):0<=XI (CQ W c) k/\XI (CQ W c) k<=(k:Int)*1:=VZ (zo7 W c) k
theorem DV{W:Q7}(hl:z0k W)(c:Int):∀k:Nat,k<=12->0<=XI (Fv W c) k/\XI (Fv W c) k<=(k:Int)*8000000
 | 0,_=>by simp[XI]
 | k+1,hk=>by
  have ih:=DV hl c k Qo;have h1:=hl (k:Int) Qo Qo;simp only[XI];have h2:0<=Fv W c k/\Fv W c k<=8000000:=by unfold Fv; split <;> omega
  omega
section
variable {W:Q7}{m:MW}{w:Wo}{bs:List Nat}{p:OA}
theorem Pp{c:Int}(h:Xg bs w W m)(fH:W.tasks.length=12):PX bs Jp #[.agg (Qa W m).toArray,I c] w (I (zgx W c)):=
 CE _ _ _ _ _ _ _ _ _ _ c λwr hx=>by
  have h:=(h.ext hx).less (cs:=[]) Qs;intro _ _;refine P3 W.tasks.length 0 rfl (λx k=>k<=W.tasks.length/\x=XI (CQ W c) k) ⟨Ie _,rfl⟩ λx k ⟨hk,R2⟩=>⟨λIU=>?_,λRN=>?_⟩
  ·have IU:=Ot IU;have hr:=zds (W:=W) c k;refine⟨h.t.ix QF Qo IU,_,h.t.f Qo IU (j:=0) rfl,λ_=>h.t.ix QF Qo IU,_,λ_=>h.t.f Qo IU (j:=2) rfl,λg2=>⟨⟨Qo,Qo⟩,⟨Qo,Qo⟩,QO Qo ⟨Qo,?_⟩⟩,λg2=>⟨⟨Qo,Qo⟩,QO Qo ⟨Qo,?_⟩⟩⟩
   ·have g2:z0d W c k=true:=g2;simp only[XI,CQ]; rw[E' g2,R2]
   ·have g2:z0d W c k=false:=g2;simp only[XI,CQ]; rw[C' (by rw[g2]; decide),R2,Int.add_zero]
  ·have RN:=Ou RN;have:k=W.tasks.length:=Qo;subst this;rw[R2]; rfl
theorem VC{c:Int}(h:Xg bs w W m)(fH:W.tasks.length=12)(hl:z0k W):PX bs Xu #[.agg (Qa W m).toArray,I c] w (I (zcv W c)):=
 CC _ _ _ _ _ _ _ _ _ _ c λwr hx=>by
  have h:=(h.ext hx).less (cs:=[]) Qs;intro _ _;refine P3 W.tasks.length 0 rfl (λx k=>k<=W.tasks.length/\x=XI (Fv W c) k) ⟨Ie _,rfl⟩ λx k ⟨hk,R2⟩=>⟨λIU=>?_,λRN=>?_⟩
  ·have IU:=Ot IU;have hr:=DV hl c k Qo;have wA:=hl (k:Int) Qo Qo;refine⟨h.t.ix QF Qo IU,_,h.t.f Qo IU (j:=0) rfl,λ_=>h.t.ix QF Qo IU,_,λ_=>h.t.f Qo IU (j:=2) rfl,λg2=>⟨h.t.ix QF Qo IU,(Q9 W (k:Int)).load,h.t.f Qo IU (j:=8) rfl,⟨Qo,Qo⟩,⟨Qo,Qo⟩,QO Qo ⟨Qo,?_⟩⟩,λg2=>⟨⟨Qo,Qo⟩,QO Qo ⟨Qo,?_⟩⟩⟩
   ·have g2:z0d W c k=true:=g2;simp only[XI,Fv]; rw[E' g2,R2]
   ·have g2:z0d W c k=false:=g2;simp only[XI,Fv]; rw[C' (by rw[g2]; decide),R2,Int.add_zero]
  ·have RN:=Ou RN;have:k=W.tasks.length:=Qo;subst this;rw[R2]; rfl
theorem Lq{x:Int}(h:Xg bs w W m)(ha:WA W)(hl:z0k W):PX bs US #[.agg (Qa W m).toArray,I x] w (I (Pr W x)):=
 CD _ _ _ _ _ _ _ _ _ _ x λwr hx=>by
  have h:=(h.ext hx).less (cs:=[]) Qs;have tP:=ha.c2;have fH:=ha.t;intro _ _;refine P3 W.IF.length 0 rfl (λb k=>k<=W.IF.length/\b=Ta W x k) ⟨Ie _,rfl⟩ λb k ⟨hk,hb⟩=>⟨λIU=>?_,λRN=>?_⟩
  ·have IU:=Ot IU;have key:(((decide (b<0))||(decide (zcv W (k:Int)<zcv W b)))||((zcv W (k:Int)==zcv W b)&&(decide (zgx W (k:Int)<zgx W b))))=(decide (Ta W x k<0)||zmg W (k:Int) (Ta W x k)):=by rw[hb,Bool.or_assoc]; rfl
   refine⟨_,Yj,λg=>⟨⟨Qo,Qo⟩,QO Qo ⟨Qo,?_⟩⟩,λg=>⟨_,λ_=>VC h fH hl,_,λ_=>VC h fH hl,_,λ_=>VC h fH hl,_,λ_=>VC h fH hl,_,λ_ _=>Pp h fH,_,λ_ _=>Pp h fH,λg2=>⟨⟨Qo,Qo⟩,QO Qo ⟨Qo,?_⟩⟩,λg2=>⟨⟨Qo,Qo⟩,QO Qo ⟨Qo,?_⟩⟩⟩⟩
   ·have g:Z7 x (k:Int)=false:=by simpa using g
    rw[hb,FQ (by rw[g]; rfl)]
   ·have g:Z7 x (k:Int)=true:=by simpa using g
    rw[FR (by rw[g,<-key,g2]; rfl)]
   ·have g:Z7 x (k:Int)=true:=by simpa using g
    rw[hb,FQ (by rw[g,<-key,g2]; rfl)]
  ·have RN:=Ou RN;have:k=W.IF.length:=Qo;subst this;rw[hb]; rfl
theorem N1{x:Int}:PX bs Tp #[I x] w (I (Kv x 4)):=
 Np x λwr hx=>by
  refine P3 4 0 rfl (λn k=>k<=4/\n=Kv x k) ⟨Qd,rfl⟩ λn k ⟨hk,hn⟩=>⟨λIU=>?_,λRN=>?_⟩
  ·have IU:=Ot IU;have hr:=DW x k;refine⟨_,Yj,λg=>⟨⟨Qo,Qo⟩,⟨Qo,Qo⟩,QO Qo ⟨Qo,?_⟩⟩,λg=>⟨⟨Qo,Qo⟩,QO Qo ⟨Qo,?_⟩⟩⟩
   ·simp only[Kv]; rw[E' g,hn]
   ·simp only[Kv]; rw[C' (by rw[g]; decide),hn]
  ·have RN:=Ou RN;have:k=4:=Qo;subst this;rw[hn]
end
def z6(n:Int):Int:=if YQ n 1 4=true then (if n=1 then 0 else if n=2 then 1 else 2) else 0
theorem zsn{n:Int}(h:YQ n 1 4=true):(n=1/\z6 n=0)\/(n=2/\z6 n=1)\/(n=3/\z6 n=2)\/(n=4/\z6 n=2):=by
 have:=Qu.1 h;have:n=1\/n=2\/n=3\/n=4:=Qo;rcases this with rfl | rfl | rfl | rfl
 ·exact .inl ⟨rfl,Qd⟩
 ·exact .inr (.inl ⟨rfl,Qd⟩)
 ·exact .inr (.inr (.inl ⟨rfl,Qd⟩))
 ·exact .inr (.inr (.inr ⟨rfl,Qd⟩))
def zvr(c lv j:Int):Bool:=Int.fdiv j (2 ^ (min (Int.toNat (lv+1)) 64))==Int.fdiv c (2 ^ (min (Int.toNat (lv+1)) 64))
def zwn(c lv:Int):Nat->Int
 | 0=>0
 | k+1=>if zvr c lv (k:Int)=true then zwn c lv k+Up k else zwn c lv k
theorem zwo(c lv:Int):∀k:Nat,k<=4->0<=zwn c lv k/\zwn c lv k<Up k
 | 0,_=>by simp[zwn,Up]
 | k+1,h=>by
  have ih:=zwo c lv k Qo
  have hb:Up (k+1)=2*Up k/\0<=Up k:=by
   have:k=0\/k=1\/k=2\/k=3:=Qo;rcases this with rfl | rfl | rfl | rfl <;> decide
  simp only[zwn]
  split <;> omega
def NC(n c lv:Int):Bool:=(YQ n 1 4&&YQ c 0 (n-1))&&YQ lv 0 (z6 n-1)
def z20(n c lv:Int):Int:=if NC n c lv=true then zwn c lv n.toNat else 0
section
variable {w:Wo}{bs:List Nat}{n c lv:Int}
theorem zy0{n:Int}{k:Nat}(h:YQ n 1 4=true)(hk:(k:Int)<=z6 n):(decide ((1*2 ^ (min (Int.toNat (k:Int)) 64):Int)<n)=true->(k:Int)+1<=z6 n)/\(decide ((1*2 ^ (min (Int.toNat (k:Int)) 64):Int)<n)=false->(k:Int)=z6 n):=by
 rcases zsn h with ⟨rfl,e⟩ | ⟨rfl,e⟩ | ⟨rfl,e⟩ | ⟨rfl,e⟩ <;> rw[e] at hk ⊢
 ·have:k=0:=Qo;subst this; decide
 ·have:k=0\/k=1:=Qo;rcases this with rfl | rfl <;> decide
 ·have:k=0\/k=1\/k=2:=Qo;rcases this with rfl | rfl | rfl <;> decide
 ·have:k=0\/k=1\/k=2:=Qo;rcases this with rfl | rfl | rfl <;> decide
theorem zqj(n:Int):0<=z6 n/\z6 n<=2:=by
 unfold z6;split
 ·split
  ·omega
  ·split <;> omega
 ·omega
theorem PF:PX bs XW #[I n] w (I (z6 n)):=
 HT n λwr hx=>by
  refine⟨_,Qr,λq=>?_,λq=>?_⟩
  ·have q:YQ n 1 4=false:=by simpa using q
   have:z6 n=0:=C' (by rw[q]; decide);rw[this]
  ·have q:YQ n 1 4=true:=by simpa using q
   have hl:=zqj n;refine⟨λvs=>∃k:Nat,vs=[I (k:Int)]/\(k:Int)<=z6 n,λvs=>(2-ZQ 0 vs).toNat,⟨0,rfl,hl.1⟩,?_⟩;rintro k' ⟨k,he,hk⟩;simp only[I5,I6,true_and,and_true] at he;subst he;have hb:=BG (k:=k) Qo;have gL:(1*2 ^ (min (Int.toNat (k:Int)) 64):Int)=Up k:=rfl;obtain⟨s1,s2⟩:=zy0 q hk;refine⟨⟨Qo,Qo⟩,⟨Qo,by rw[gL]; exact⟨Qo,Qo⟩⟩,λg=>⟨⟨Qo,Qo⟩,⟨k+1,Qs,by have:=s1 g; omega⟩,?_⟩,λg=>by rw[<-s2 g]⟩;have:=s1 g;show (2-((k:Int)+1)).toNat<(2-(k:Int)).toNat;omega
theorem zte(h:NC n c lv=true):YQ n 1 4=true/\0<=c/\c<n/\0<=lv/\lv<=1:=by
 unfold NC at h;simp only[A'] at h;have h1:=Qu.1 h.1.2;have h2:=Qu.1 h.2;have:=zqj n;exact⟨h.1.1,h1.1,Qo,h2.1,Qo⟩
theorem Fk:PX bs VO #[I n,I c,I lv] w (I (z20 n c lv)):=
 FN n c lv λwr hx=>by
  have hl:=zqj n
  have e:(((!YQ n 1 4)||(!YQ c 0 (n-1)))||(!YQ lv 0 (z6 n-1))) = !NC n c lv:=by
   unfold NC; rw[Bool.not_and,Bool.not_and]
  refine⟨_,Qr,λq=>?_,_,λ_=>Qr,_,λ_=>PF,λ_=>⟨Qo,Qo⟩,_,λ_=>Qr,λq=>?_,λq=>?_⟩
  ·have q:=Qu.1 (by simpa using q:YQ n 1 4=true);exact⟨Qo,Qo⟩
  ·rw[e] at q;have:z20 n c lv=0:=C' (by simpa using q);rw[this]
  ·rw[e] at q;have q:NC n c lv=true:=by simpa using q
   obtain⟨h1,c0,c1,l0,l1⟩:=zte q;have hn:=Qu.1 h1;obtain⟨N,rfl⟩:∃N:Nat,n=(N:Int):=⟨n.toNat,Qo⟩;have hD:z20 (N:Int) c lv=zwn c lv N:=by unfold z20; rw[E' q,Ih]
   rw[hD];refine P3 N 0 rfl (λx k=>k<=N/\x=zwn c lv k) ⟨Ie _,rfl⟩ λx k ⟨hk,R2⟩=>⟨λIU=>?_,λRN=>?_⟩
   ·have IU:=Ot IU;have hb:=BG (k:=k) Qo;have hs:=zwo c lv k Qo;have gL:(1*2 ^ (min (Int.toNat (k:Int)) 64):Int)=Up k:=rfl;refine⟨⟨Qo,Qo⟩,⟨Qo,Qo⟩,Qo,⟨Qo,Qo⟩,⟨Qo,Qo⟩,Qo,λhu=>?_,λhu=>?_⟩
    ·rw[gL,R2];refine⟨⟨Qo,Qo⟩,⟨Qo,Qo,Qo⟩,⟨Qo,Qo⟩,⟨Qo,Qo⟩,QO Qo ⟨Qo,?_⟩⟩;simp only[zwn]; rw[E' (show zvr c lv (k:Int)=true from hu)]
    ·refine⟨⟨Qo,Qo⟩,QO Qo ⟨Qo,?_⟩⟩;rw[R2]; simp only[zwn]; rw[C' (by rw[show zvr c lv (k:Int)=false from hu]; decide)]
   ·have RN:=Ou RN;have:k=N:=Qo;subst this;rw[R2]
end
def CT(W:Q7)(g:Int):List Int:=Zc W.IE g++[0]
def zun(W:Q7)(g c:Int):Bool:=(CT W g).any λx=>Uq W x c
theorem zni(W:Q7):CT W 0=[0]:=by unfold CT; rw[show Zc W.IE 0=[] from Zr W.IE 3]; rfl
theorem znj{W:Q7}(ht:Yk W.IE){g:Int}(hu:Q6 W.IE g=true)(hz:g≠0):CT W g=g::CT W (gi W.IE g).parent:=by
 unfold CT;rw[YP ht hu hz,List.cons_append]
theorem zw8{W:Q7}(ht:Yk W.IE){g:Int}(hu:Q6 W.IE g=true):∀x∈CT W g,Q6 W.IE x=true:=by
 have hr:Q6 W.IE 0=true:=Q5.2 ⟨Qd,by have:=ht.len; omega,ht.ru⟩;refine Mo ht (Q:=λh=>∀x∈CT W h,Q6 W.IE x=true) ?_ (λh hu hz ih=>?_) g hu
 ·rw[zni];intro x hx;have:x=0:=by simpa using hx
  rw[this]; exact hr
 ·rw[znj ht hu hz];intro x hx;rcases Ij.1 hx with rfl | hx
  ·exact hu
  ·exact ih x hx
theorem zdn(gs:List ZV):∀(f:Nat) (g:Int),(V2 f gs g).length<=f
 | 0,_=>I8 _
 | f+1,g=>by
  simp only[V2];split
  ·simp
  ·have:=zdn gs f (gi gs g).parent;simp; omega
theorem zrd(W:Q7)(g:Int):(CT W g).length<=4:=by
 unfold CT;have:=zdn W.IE 3 g;simp; omega
def V7(W:Q7)(t c:Int):Bool:=
 (!(((((((Q9 W t).state != 1)||((Q9 W t).R3==c))||((gi W.IF (Q9 W t).R3).cur==t))||(!ZL W t))||(!Z7 (Qy W (Q9 W t).group (Q9 W t).mask) c)))) && !zun W (Q9 W t).group c
def zrl(W:Q7)(b c:Int):Bool:=TN (λt=>((Q9 W (t:Int)).R3==b)&&V7 W (t:Int) c) 12
theorem NT{W:Q7}{t c:Int}(h:V7 W t c=true):(Q9 W t).state=1/\(Q9 W t).R3≠c:=by
 unfold V7 at h;simp only[A',ID,I0,bne_eq_false_iff_eq,beq_eq_false_iff_ne] at h;exact⟨h.1.1.1.1.1,h.1.1.1.1.2⟩
section
variable {W:Q7}{m:MW}{w:Wo}{bs:List Nat}{p:OA}
def zmx(W:Q7)(g:Int):List Int:=if g=0 then [] else CT W (gi W.IE g).parent
theorem zh0{W:Q7}(ht:Yk W.IE){g:Int}(hu:Q6 W.IE g=true):g::zmx W g=CT W g:=by
 unfold zmx
 by_cases hz:g=0
 ·subst hz; rw[E' rfl,zni]
 ·rw[C' hz,znj ht hu hz]
theorem Lu{t:Int}(h:Xg [] w W m)(ht:Yk W.IE)(t0:0<=t)(t1:t<(W.tasks.length:Int))(hu:Q6 W.IE (Q9 W t).group=true) :
  Cz UV #[.agg (Qa W m).toArray,I t] w λe w'=>∃o c',e=.returned (.slice o (CT W (Q9 W t).group).length c')/\Uo Jn 1 Qc w.heap.size w' o c' (CT W (Q9 W t).group)/\Q0 [] w w':=by
 refine(C7 _ _ _ _ _ _ _ _ _ _ t (R:=λv w'=>∃o c',v=.slice o (CT W (Q9 W t).group).length c'/\Uo Jn 1 Qc w.heap.size w' o c' (CT W (Q9 W t).group)/\Q0 [] w w') ?_).mono λe w' ⟨v,he,o,c',hv,h1⟩=>⟨o,c',by rw[he,hv],h1⟩
 intro b hb;refine⟨h.t.ix QF t0 t1,_,h.t.f t0 t1 (j:=1) rfl,λb1 wb RZ gH Wd hn=>?_⟩;have hlen:=zrd W (Q9 W t).group;have hO0:Uo Jn 1 Qc w.heap.size wb (some ⟨b1,0,none⟩) 1 [(Q9 W t).group]:=.inr ⟨b1,[],rfl,gH,Wd,by simp[Jn],Qs⟩;have hbn:∀x∈[b],w.heap.size<=x:=by simpa using hb
 refine⟨λvs w1=>∃(g:Int) (l:List Int) (o:OA) (c':Nat),vs=[I g,.slice o l.length c']/\Q6 W.IE g=true/\l++zmx W g=CT W (Q9 W t).group/\Sc w [b] w1/\Ob Jn 1 Qc w.heap.size [b] w1 o c' l,λvs _=>(dep 3 W.IE (ZQ 0 vs)).toNat,
  λwr hx _=>⟨_,[(Q9 W t).group],_,1,rfl,hu,zh0 ht hu,(Sc.mk RZ hbn).step hx,⟨hO0.ext hx (by simp[QE]; exact λe=>hn (by simp[e])),by simp[QE]; exact λe=>hn (by simp[e])⟩⟩,?_⟩
 rintro g oO oL oC w1 dK ⟨g',l,o',c',he,hug,hI,s1,hO⟩;simp only[I5,I6,Iw,true_and,and_true] at he;obtain⟨rfl,rfl,rfl,rfl⟩:=he;have hg:=((h.wide (cs:=[b]) λx hm=>.inr (hbn x hm)).ext s1.ext.of_nil).g
 have hll:l.length<=4:=by
  have:=congrArg List.length hI;simp at this;omega
 refine⟨λhz=>?_,λhz wr hx=>?_⟩
 ·have hz:g≠0:=by simpa using hz
  obtain⟨hp,a,b',d,e,e2,hd⟩:=Yl ht hug hz;refine⟨hg.ix a b',_,hg.parent a b',λb2 cN M' R2 We AV0=>?_⟩;have s2:=s1.put R2 cN;have oZ:=hO.put R2 cN;obtain⟨o2,c2,w2,WK,xJ,hO3,Rb⟩:=oZ.AU1 Yb P6 (x:=(gi W.IE g).parent) We s2.ext.size AV0 (z1q _) Qo Qd Y3 #[false,false];have s3:=s2.call Rb λx hm=>(oZ.own.lt x hm).1
  refine⟨_,_,_,w2,WK,xJ,λO' SZ _=>⟨⟨_,l++[(gi W.IE g).parent],o2,c2,rfl,hp,?_,(s3.step SZ).sub Qs,(hO3.step SZ).sub Qs⟩,?_⟩⟩
  ·rw[List.append_assoc,List.singleton_append,zh0 ht hp,<-hI];unfold zmx;rw[C' hz]
  ·show (dep 3 W.IE (gi W.IE g).parent).toNat<(dep 3 W.IE g).toNat;omega
 ·have hz:g=0:=by simpa using hz
  subst hz
  have hl:l=CT W (Q9 W t).group:=by
   rw[<-hI];unfold zmx;rw[E' rfl,List.append_nil]
  subst hl;exact⟨oO,oC,rfl,(hO.step hx).own,(s1.step hx).ext⟩
theorem Lr{t c:Int}(h:Xg bs w W m)(wp:Je W)(t0:0<=t)(t1:t<(W.tasks.length:Int))(c0:0<=c)(c1:c<(W.IF.length:Int)):PX bs UT #[.agg (Qa W m).toArray,I t,I c] w (.bool (V7 W t c)):=by
 refine FSx λwr0 wB=>C3 _ _ _ _ _ _ _ _ _ _ t c (R:=λv w'=>v=.bool (V7 W t c)/\Q0 [] wr0 w') ?_
 have h:=(h.ext wB).less (cs:=[]) Qs;have li:((Q9 W t).state != 1)=false->Q6 W.IE (Q9 W t).group=true/\0<=(Q9 W t).R3/\(Q9 W t).R3<(W.IF.length:Int):=λhs=>wp.li t0 t1 (by simpa using hs)
 intro b hb;refine⟨h.t.ix QF t0 t1,_,_,_,_,_,_,_,_,_,h.t t t0 t1,λb1 gH=>?_⟩;refine⟨λg=>?_,(gi W.IF (Q9 W t).R3).cur,λg=>?_,ZL W t,λg=>?_,Qy W (Q9 W t).group (Q9 W t).mask,λg=>?_,_,λg=>Yj,λg wr hx=>?_,λg M' RZ dK=>?_⟩
 ·have g:(((Q9 W t).state != 1)||((Q9 W t).R3==c))=false:=g;simp only[I0] at g;have:=li g.1;exact h.c.ix Ym this.2.1 this.2.2
 ·have g:(((Q9 W t).state != 1)||((Q9 W t).R3==c))=false:=g;simp only[I0] at g;have:=li g.1;exact(h.c _ this.2.1 this.2.2).get 1 _ rfl
 ·exact VE h wp.a t0 t1 λhs=>wp.li t0 t1 hs
 ·have g:(((((Q9 W t).state != 1)||((Q9 W t).R3==c))||((gi W.IF (Q9 W t).R3).cur==t))||(!ZL W t))=false:=g;simp only[I0] at g;exact Jr h wp.a.c2 wp.a.tree (li g.1.1.1).1
 ·have:V7 W t c=false:=by
   unfold V7;rw[show ((((((Q9 W t).state != 1)||((Q9 W t).R3==c))||((gi W.IF (Q9 W t).R3).cur==t))||(!ZL W t))||(!Z7 (Qy W (Q9 W t).group (Q9 W t).mask) c))=true from g];rfl
  rw[this]; exact⟨rfl,hx⟩
 have g:((((((Q9 W t).state != 1)||((Q9 W t).R3==c))||((gi W.IF (Q9 W t).R3).cur==t))||(!ZL W t))||(!Z7 (Qy W (Q9 W t).group (Q9 W t).mask) c))=false:=g;have eC:V7 W t c = !zun W (Q9 W t).group c:=by unfold V7; rw[g]; rfl
 simp only[I0] at g;obtain⟨hu,_,_⟩:=li g.1.1.1.1;rw[eC]
 have hbn:∀x∈[b,b1],wr0.heap.size<=x:=by
  intro x hm;simp only[Ij,List.not_mem_nil,or_false] at hm;rcases hm with rfl | rfl
  ·exact hb
  ·exact gH
 refine(Lu (h.ext RZ) wp.a.tree t0 t1 hu).mono λe w2 ⟨o,c',he,hO,R2⟩=>⟨_,_,_,he,Qe R2 dK,?_⟩
 have DH4:=zrd W (Q9 W t).group;have s2:Sc wr0 [b,b1] w2:=⟨RZ.trans R2,hbn⟩;have oZ:Ob Jn 1 Qc M'.heap.size [b,b1] w2 o c' (CT W (Q9 W t).group):=Ob.of hO dK
 refine XN (CT W (Q9 W t).group).length 0 rfl (λk w3=>k<=(CT W (Q9 W t).group).length/\Sc wr0 [b,b1] w3/\Ob Jn 1 Qc M'.heap.size [b,b1] w3 o c' (CT W (Q9 W t).group)/\∀j:Nat,j<k->Uq W (gi (CT W (Q9 W t).group) (j:Int)) c=false)
  (λw3 Rb _=>⟨Ie _,s2.step Rb,oZ.step Rb,λj hj=>Is hj (Nat.not_lt_zero j)⟩) λk w3 _ ⟨hk,s3,hO3,hI⟩=>⟨λIU=>?_,λRN wr hx=>?_⟩
 ·have IU:=Ot IU;have hR:=hO3.rd Yb.len;have hgm:=zoj (l:=CT W (Q9 W t).group) (i:=(k:Int)) Qo IU;have hW3:=(h.wide (cs:=[b,b1]) λx hm=>.inr (hbn x hm)).ext s3.ext.of_nil;refine⟨hR.ix JH Qo IU,_,hR (k:Int) Qo IU,_,L4 hW3 wp.a (zw8 wp.a.tree hu _ hgm) c0 c1,λgd wr hx=>⟨?_,(s3.step hx).ext⟩,λgd=>⟨⟨Qo,Qo⟩,λwr hx _=>Qt Qo ⟨Qo,s3.step hx,hO3.step hx,λj hj=>?_⟩⟩⟩
  ·have:zun W (Q9 W t).group c=true:=List.any_eq_true.2 ⟨_,hgm,gd⟩;rw[this]; rfl
  ·by_cases iP:j<k
   ·exact hI j iP
   ·have:j=k:=Qo;subst this; exact gd
 ·have RN:=Ou RN;have hkn:k=(CT W (Q9 W t).group).length:=Qo
  have:zun W (Q9 W t).group c=false:=by
   cases hd:zun W (Q9 W t).group c with
   | false=>rfl
   | true=>
    obtain⟨x,hx,hdx⟩:=List.any_eq_true.1 hd;obtain⟨j,hj,hjx⟩:=List.getElem_of_mem hx;have:=hI j Qo;rw[Ui hj,hjx,hdx] at this;cases this
  rw[this]; exact⟨rfl,(s3.step hx).ext⟩
end
end Go.Proofs.YtnclplgaicdapaaGreatDoor
