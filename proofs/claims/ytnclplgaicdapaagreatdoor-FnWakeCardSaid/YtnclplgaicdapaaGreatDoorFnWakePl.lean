/- Part 12 of what the law FnWake needs. -/
import Derived.Test.YtnclplgaicdapaaGreatDoorFnWakePk
import Derived.Laws.BytesArg
set_option linter.unusedVariables false
set_option linter.unusedSimpArgs false
set_option maxRecDepth 100000
set_option maxHeartbeats 8000000
namespace Go.Proofs.YtnclplgaicdapaaGreatDoor
open Go.RowKit
theorem zut{α:Type}[Inhabited α]{l:List α}{i:Int}(h0:0<=i)(h1:i<(l.length:Int)):l.set i.toNat (gi l i)=l:=by
 obtain⟨k,rfl⟩:=Int.eq_ofNat_of_zero_le h0;rw[Tj Qo,Ig,List.set_getElem_self]
def z4z(G:ZX)(K:Int):Int:=K+1+1+1+1+1+1+1+1+1+1+1+1*(G.IS.locals.length:Int)+1*(G.IS.Rz.length:Int)+5*(G.IE.length:Int)
def gK(gs:List ZX)(k:Int):Nat->Int
 | 0=>k
 | i+1=>z4z (gi gs (i:Int)) (gK gs k i)
section
variable {n base:Nat}{W:Q8}{m:MW}{w w':Wo}{G G':ZX}{i:Int}
end
def kC(W:Q8):Int:=1+5*(W.ID.length:Int)
def kT(W:Q8):Int:=kC W+9*(W.tasks.length:Int)
def mK(W:Q8):Int:=gK W.IC (kT W) W.IC.length
section
variable {n base:Nat}{W:Q8}{m:MW}{w w':Wo}{bs:List Nat}
end
def zbi:KW:=⟨0,0,0,0,0,0,0,0,0⟩
def QF(W:Q8)(t:Int):Q8:=if (gi W.ID (Q6 W t).J').cur=t then Rp W (Q6 W t).J' else W
noncomputable def Ti(W:Q8)(t:Int):Int:=if Z4 W t=false then 2 else if QK W=false then 10 else 0
def AP(W:Q8)(t:Int):Q8:=Qh (IM (QF W t) t zbi)
theorem zn5{K:Int}{W:Q8}(h:SW K W){t:Int}(t0:0<=t)(t1:t<12)(n:(Q6 W t).state≠0):SW K (QF W t):=by
 unfold QF;split
 ·exact h.Rp (h.t t t0 t1 n).2.1 (h.t t t0 t1 n).2.2
 ·exact h
theorem zlj{W:Q8}{t:Int}(hW:QB W=true)(hb:Ti W t=0):Z4 W t=true/\QK W=true/\SW Qq W/\SW Qq (IM W t zbi)/\SW Qq (IM (QF W t) t zbi):=by
 have wp:=Qm.1 hW;unfold Ti at hb
 split at hb
 ·cases hb
 ·rename_i h1
  split at hb
  ·cases hb
  ·rename_i h3;have h1:Z4 W t=true:=by simpa using h1
   have h3:QK W=true:=by simpa using h3
   have sw:=Mi wp (Qm.1 h3);obtain⟨t0,t1,n⟩:=Y0 h1;have hl:=wp.a.t;exact⟨h1,h3,sw,sw.IM t0 Qo (λh=>Ir rfl h) Qd Qd,(zn5 sw t0 Qo n).IM t0 Qo (λh=>Ir rfl h) Qd Qd⟩
section
variable {W:Q8}{m:MW}{w:Wo}{bar:Int}
theorem zaj{t:Int}(h:XF [] w W m)(hl:UG W) :
  Cz OH #[.agg (Qb W m).toArray,I t] w λe w'=>∃v,e=.returned v/\QL (Yv W (Ti W t) (AP W t)) w v w':=by
 refine CZ _ _ _ _ _ _ _ _ _ _ t (R:=λv w'=>QL (Yv W (Ti W t) (AP W t)) w v w') ?_;intro x hx x1 RR wr R0 SR;refine I3 (Zi (h.ext R0) hl) ?_;rintro e wv (⟨hW,he,hy⟩ | ⟨hW,m',he,hM,hy⟩)
 ·exact⟨_,_,_,_,_,_,_,_,_,_,_,he,Qf hy SR,λ_ I' R3=>QL.bad hW ((R0.trans hy).fresh R3 λy hm=>.inl (X4 hx RR y hm)),λg=>by simp at g⟩
 have hK:=Wk.begin hx RR R0 SR hM hy;have hr:=hK.rd;refine⟨_,_,_,_,_,_,_,_,_,_,_,he,Qf hy SR,λg=>by split at g <;> simp at g,λ_=>⟨_,Ug hr hl.t,λg O' R3=>?_,λg=>?_⟩⟩
 ·have g:Z4 W t=false:=by simpa using g
  have hb:Ti W t=2:=by unfold Ti; rw[C' g]
  exact QL.no hW (by rw[hb]; decide) (hK.step R3) hb
 have g:Z4 W t=true:=by simpa using g
 obtain⟨t0,t1,tn⟩:=Y0 g;have W8:=hr.t.ix QG t0 t1;refine⟨λg3 Rn R3=>?_,λg3=>?_⟩
 ·have bQ:¬QK W=true:=λhr=>by rw[C' hr] at g3; simp at g3
  have hb:Ti W t=10:=by unfold Ti; rw[B' (by rw[g]; decide),C' (by simpa using bQ)]
  rw[B' bQ];exact QL.no hW (by rw[hb]; decide) (hK.step R3) hb
 have bQ:QK W=true:=Iq λhr=>by rw[B' hr] at g3; simp at g3
 have hb:Ti W t=0:=by unfold Ti; rw[B' (by rw[g]; decide),B' (by rw[bQ]; decide)]
 obtain⟨_,_,sw,sw1,sw2⟩:=zlj hW hb;obtain⟨_,c0,c1⟩:=sw.t t t0 (by have:=sw.a.t; omega) tn;have Sk:Zj 8 w.heap.size (R5 wv m'.tO (Int.toNat t*9) (Xq zbi)) (IM W t zbi) m':=hK.own.pN t0 t1 (j:=0) (vs:=Xq zbi) (x:=zbi) rfl Qd;have hKs:=hK.R5 Sk Kd;have e5:∀mm,Qb (IM W t zbi) mm=Qb W mm:=λmm=>by simp[Qb,IM]
 refine⟨W8,_,hr.t.f t0 t1 (j:=2) rfl,W8,zkh hK.own hK.nb t0 t1 (j:=0) Qd,hr.c.ix Yh c0 c1,_,hKs.rd.c.f c0 c1 (j:=1) rfl,λg4 RE Sb hZ=>?_,λg4 RE Sb hZ=>?_⟩
 ·have g4:(gi (IM W t zbi).ID (Q6 W t).J').cur=t:=by simpa using g4
  have hE:AP W t=Qh (Rp (IM W t zbi) (Q6 W t).J'):=by unfold AP QF; rw[C' (show (gi W.ID (Q6 W t).J').cur=t from g4)]; rfl
  rw[hE];have fG:=hKs.step Sb;have Rt:=ZG fG.own c0 c1;rw[e5] at Rt;refine I3 Rt ?_;rintro e1 R1 ⟨eH,aR⟩;refine⟨_,_,_,_,_,_,_,_,_,_,eH,fG.kept aR hZ,λRP Wt tP=>?_⟩;have vR:=(fG.Sl aR hZ).step Wt;refine I3 (Qy vR.own (sw1.Rp c0 c1) Qd Qd vR.base) ?_;rintro e2 Rr ⟨m1,aM,Sm⟩;exact⟨_,_,_,_,_,_,_,_,_,_,aM,vR.kept Sm tP,λSn dK=>QL.ok hW hb ((vR.Sl Sm tP).step dK)⟩
 ·have g4:¬(gi (IM W t zbi).ID (Q6 W t).J').cur=t:=by simpa using g4
  have hE:AP W t=Qh (IM W t zbi):=by unfold AP QF; rw[B' (show ¬(gi W.ID (Q6 W t).J').cur=t from g4)]
  rw[hE];have fG:=hKs.step Sb;have Rt:=Qy fG.own sw1 Qd Qd fG.base;rw[e5] at Rt;refine I3 Rt ?_;rintro e2 Rr ⟨m1,aM,Sm⟩;exact⟨_,_,_,_,_,_,_,_,_,_,aM,fG.kept Sm hZ,λSn dK=>QL.ok hW hb ((fG.Sl Sm hZ).step dK)⟩
theorem Bn{base pb:Nat}{K:Int}{t:Int}(h:PW base pb w W m)(sw:SW K W)(t0:0<=t)(t1:t<12)(n:(Q6 W t).state≠0) :
  Cz Jz #[.pointer (pA pb),I t] w λe w'=>e=.returned (.tuple #[])/\Mp base pb [] w m w' (QF W t) m:=by
 refine(EJ (pA pb) t (R:=λv w'=>v=.tuple #[]/\Mp base pb [] w m w' (QF W t) m) ?_).mono λe w' ⟨v,he,hv,h3⟩=>⟨by rw[he,hv],h3⟩
 have hM:=Mp.start h;have hp:=hM.wH;have hl:=sw.a.t;obtain⟨_,c0,c1⟩:=sw.t t t0 t1 n;have hc:=hp.rd.c (Q6 W t).J' c0 c1;refine⟨hp.some,_,_,_,hp.tasks,hp.rd.t.ix QG t0 Qo,_,hp.rd.t.f t0 Qo (j:=2) rfl,_,_,Yr,λb hb=>⟨_,LK hp c0 c1,Lt hc,_,GX hc (j:=1) rfl,λg wr hx hs=>?_,λg wr hx=>?_⟩⟩
 ·have g:(gi W.ID (Q6 W t).J').cur=t:=by simpa using g
  have hE:QF W t=Rp W (Q6 W t).J':=by unfold QF; rw[C' g]
  rw[hE];have hM1:=(hM.add hb).M' hx;refine I3 (YT hM1.pw c0 c1) ?_;rintro e wv ⟨he,hy⟩;exact⟨he,hM1.kept hy hs,λI' RR=>⟨rfl,((hM1.call hy hs).step RR).close⟩⟩
 ·have g:¬(gi W.ID (Q6 W t).J').cur=t:=by simpa using g
  have hE:QF W t=W:=by unfold QF; rw[B' g]
  rw[hE];exact⟨rfl,hM.M' hx⟩
theorem zk3{base pb b:Nat}{w w':Wo}{W W':Q8}{m m':MW}{o:Obj}(h:PW base pb w W m)(hb:b<base)(hpb:base<=pb)(hc:w.heap[b]? = some o)(hM:Mp base pb [] w m w' W' m'):w'.heap[b]? = some o:=
 Qg hc hM.v.ext λhm=>by
  have:=(h.own.lt b hm).1;omega
end
abbrev Tk(W:Q8)(t n:Int):Int:=(Qc W (Q6 W t).group (Q6 W t).J').floor+Yk ((Q6 W t).v-(Qc W (Q6 W t).group (Q6 W t).J').floor) (Qe n)
def Je(W:Q8)(t n:Int):KW:={ Q6 W t with nice:=n,v:=if (Q6 W t).state=1 then Tk W t n else (Q6 W t).v }
noncomputable def Xv(W:Q8)(t n:Int):Int:=if Qe n=0 then 1 else Ti W t
def Tl(W:Q8)(t n:Int):Q8:=Qh (if (Q6 W t).state=1 then QF (IM W t (Je W t n)) t else IM W t (Je W t n))
theorem zma{W:Q8}{t n:Int}(h:(Q6 W t).state=1):Je W t n={ Q6 W t with nice:=n,v:=Tk W t n }:=by unfold Je; rw[C' h]
theorem zbv{W:Q8}{t n:Int}(h:¬(Q6 W t).state=1):Je W t n={ Q6 W t with nice:=n }:=by unfold Je; rw[B' h]
theorem P5{W:Q8}{t:Int}{x:KW}(t0:0<=t)(t1:t<(W.tasks.length:Int)):Q6 (IM W t x) t=x:=by
 show gi (W.tasks.set t.toNat x) t=x;rw[QO _ _ t0 t1 t0,C' rfl]
theorem set_set{W:Q8}{t:Int}{x y:KW}:IM (IM W t x) t y=IM W t y:=by simp[IM]
abbrev K1:Int:=Qq+Qj
structure z26 (W:Q8) (t n:Int):Prop where
 th:Z4 W t=true
 room:QK W=true
 sw:SW Qq W
 f:(Q6 W t).state=1->0<=(Qc W (Q6 W t).group (Q6 W t).J').floor/\(Qc W (Q6 W t).group (Q6 W t).J').floor<=Qq/\0<=Tk W t n/\Tk W t n<=K1
 s1:SW K1 (IM W t (Je W t n))
 s2:SW K1 (QF (IM W t (Je W t n)) t)
theorem zbw{W:Q8}{t n:Int}(hW:QB W=true)(hb:Xv W t n=0):z26 W t n:=by
 have hw:¬Qe n=0:=λh=>by unfold Xv at hb; rw[C' h] at hb; cases hb
 have hb:Ti W t=0:=by unfold Xv at hb; rwa[B' hw] at hb
 obtain⟨h1,h3,sw,_,_⟩:=zlj hW hb;obtain⟨t0,t1,tn⟩:=Y0 h1;have hl:=sw.a.t;have hg:=sw.t t t0 Qo tn;have hv:=sw.tv t t0 Qo;have hf:=sw.s _ _ hg.1 hg.2.1 hg.2.2;have lc:=ZY ((Q6 W t).v-(Qc W (Q6 W t).group (Q6 W t).J').floor) (Qe n);have lm:=Yb (Qe n);have f:0<=Tk W t n/\Tk W t n<=K1:=by unfold Tk; simp only[K1,Qj]; omega
 have f1:0<=(Je W t n).v/\(Je W t n).v<=K1:=by
  unfold Je
  dsimp only
  split
  ·exact f
  ·simp only[K1,Qj]; omega
 have s1:SW K1 (IM W t (Je W t n)):=(sw.mono Qd).IM t0 Qo (λ_=>hg) f1.1 f1.2;exact⟨h1,h3,sw,λ_=>⟨hf.1,hf.2.1,f⟩,s1,zn5 s1 t0 Qo (by rw[P5 t0 t1]; exact tn)⟩
section
variable {W:Q8}{m:MW}{w:Wo}{bar:Int}
theorem Eh{bs:List Nat}{t:Int}(h:XF bs w W m)(t0:0<=t)(t1:t<(W.tasks.length:Int))(g0:0<=(Q6 W t).group)(g1:(Q6 W t).group<(W.IC.length:Int))(c0:0<=(Q6 W t).J')(c1:(Q6 W t).J'<((gi W.IC (Q6 W t).group).IE.length:Int))(hr:Qr .i64 ((Q6 W t).v-(Qc W (Q6 W t).group (Q6 W t).J').floor)) :
  PX bs TP #[.agg (Qb W m).toArray,I t] w (I (Yk ((Q6 W t).v-(Qc W (Q6 W t).group (Q6 W t).J').floor) (Qe (Q6 W t).nice))):=
 zii _ _ _ _ _ _ _ _ _ _ t λwr hx=>by
  have h:=(h.ext hx).less (cs:=[]) Qs;intro b hb;exact⟨h.t.ix QG t0 t1,_,_,_,_,_,_,_,_,_,h.t t t0 t1,λb1 fQ=>⟨h.g.ix g0 g1,_,_,_,h.g.Ry g0 g1,(h.g.IE _ g0 g1).ix X7 c0 c1,_,(h.g.IE _ g0 g1).f c0 c1 (j:=0) rfl,hr,_,ZA,_,KO,rfl⟩⟩
theorem Gf{t n:Int}(h:XF [] w W m)(hl:UG W) :
  Cz V6 #[.agg (Qb W m).toArray,I t,I n] w λe w'=>∃v,e=.returned v/\QL (Yv W (Xv W t n) (Tl W t n)) w v w':=by
 refine q9 _ _ _ _ _ _ _ _ _ _ t n (R:=λv w'=>QL (Yv W (Xv W t n) (Tl W t n)) w v w') ?_;intro x hx x1 RR wr R0 SR;refine I3 (Zi (h.ext R0) hl) ?_;rintro e wv (⟨hW,he,hy⟩ | ⟨hW,m',he,hM,hy⟩)
 ·exact⟨_,_,_,_,_,_,_,_,_,_,_,he,Qf hy SR,0,λg=>by simp at g,λ_ I' R3=>QL.bad hW ((R0.trans hy).fresh R3 λy hm=>.inl (X4 hx RR y hm)),λg=>by simp at g⟩
 have hK:=Wk.begin hx RR R0 SR hM hy;have hr:=hK.rd;have vS:((if QK W=true then 0 else 10:Int)==1)=false:=by split <;> rfl
 refine⟨_,_,_,_,_,_,_,_,_,_,_,he,Qf hy SR,_,λ_=>ZA (n:=n),λg I' R3=>?_,λg0=>⟨_,Ug hr hl.t,λg O' R3=>?_,λg=>?_⟩⟩
 ·rw[vS] at g;have g:Qe n=0:=by simpa using g
  have hb:Xv W t n=1:=by unfold Xv; rw[C' g]
  exact QL.no hW (by rw[hb]; decide) (hK.step R3) hb
 ·rw[vS] at g0;have g0:¬Qe n=0:=by simpa using g0
  have g:Z4 W t=false:=by simpa using g
  have hb:Xv W t n=2:=by unfold Xv Ti; rw[B' g0,C' g]
  exact QL.no hW (by rw[hb]; decide) (hK.step R3) hb
 rw[vS] at g0;have gw:¬Qe n=0:=by simpa using g0
 have g:Z4 W t=true:=by simpa using g
 obtain⟨t0,t1,tn⟩:=Y0 g;have W8:=hr.t.ix QG t0 t1;refine⟨λg3 Rn R3=>?_,λg3=>?_⟩
 ·have bQ:¬QK W=true:=λhr=>by rw[C' hr] at g3; simp at g3
  have hb:Xv W t n=10:=by unfold Xv Ti; rw[B' gw,B' (by rw[g]; decide),C' (by simpa using bQ)]
  rw[B' bQ];exact QL.no hW (by rw[hb]; decide) (hK.step R3) hb
 have bQ:QK W=true:=Iq λhr=>by rw[B' hr] at g3; simp at g3
 have hb:Xv W t n=0:=by unfold Xv Ti; rw[B' gw,B' (by rw[g]; decide),B' (by rw[bQ]; decide)]
 have hN:=zbw hW hb;have sw:=hN.sw;have fZ:=sw.a.t;obtain⟨hu,c0,c1⟩:=sw.t t t0 Qo tn;obtain⟨q0,q1,_⟩:=Q4.1 hu;have hsl:=sw.a.sl hu;have gV:Wk 8 [x,x1] w (R5 wv m'.tO (Int.toNat t*9) (Xq { Q6 W t with nice:=n })) (IM W t { Q6 W t with nice:=n }) m':=hK.R5 (hK.own.pN t0 t1 (j:=0) (vs:=Xq { Q6 W t with nice:=n }) (x:={ Q6 W t with nice:=n }) rfl (by show 0+9<=9; decide)) Kd;have e5:∀x mm,Qb (IM W t x) mm=Qb W mm:=λx mm=>by simp[Qb,IM]
 refine⟨W8,_,_,_,_,_,_,_,_,_,hr.t t t0 t1,λb2 bR=>⟨W8,zkh hK.own hK.nb t0 t1 (j:=0) Qd,λg4=>?_,λg4 Ww kS hs9=>?_⟩⟩
 ·have g4:(Q6 W t).state=1:=by simpa[Q6] using g4
  have hT:=zma (n:=n) g4;obtain⟨f0,f1,v0,v1⟩:=hN.f g4;have hv:=sw.tv t t0 Qo;have hh:Qq=50000000000000000:=rfl;have hk:K1=50000034686091440:=rfl;have uJ:=gV.rd;have etk:Q6 (IM W t { Q6 W t with nice:=n }) t={ Q6 W t with nice:=n }:=P5 t0 t1;have t1':t<((IM W t { Q6 W t with nice:=n }).tasks.length:Int):=by simpa[IM] using t1
  have Bt0:=Eh (t:=t) uJ t0 t1' (by rw[etk]; exact q0) (by rw[etk]; exact q1) (by rw[etk]; exact c0) (by rw[etk]; show (Q6 W t).J'<(((gi W.IC (Q6 W t).group).IE.length:Nat):Int); omega) (by rw[etk]; exact⟨by show _<=(Q6 W t).v-(Qc W (Q6 W t).group (Q6 W t).J').floor; omega,by show (Q6 W t).v-(Qc W (Q6 W t).group (Q6 W t).J').floor<=_; omega⟩);rw[etk,e5] at Bt0;have lc:=ZY ((Q6 W t).v-(Qc W (Q6 W t).group (Q6 W t).J').floor) (Qe n);have lm:=Yb (Qe n);have Sk:Zj 8 w.heap.size (R5 (R5 wv m'.tO (Int.toNat t*9) (Xq { Q6 W t with nice:=n })) m'.tO (Int.toNat t*9) (Xq { Q6 W t with nice:=n,v:=Tk W t n })) (IM (IM W t { Q6 W t with nice:=n }) t { Q6 W t with nice:=n,v:=Tk W t n }) m':=gV.own.pN t0 t1' (j:=0) (vs:=Xq { Q6 W t with nice:=n,v:=Tk W t n }) (x:={ Q6 W t with nice:=n,v:=Tk W t n }) (by rw[show gi (IM W t { Q6 W t with nice:=n }).tasks t={ Q6 W t with nice:=n } from etk]; rfl) (by show 0+9<=9; decide);rw[set_set,<-hT] at Sk;have rY:Wk 8 ([x,x1]++[b2]) w _ (IM W t (Je W t n)) m':=(hK.add bR).R5 Sk (Kd.trans Kd)
  have gX:∀vs0 vs:List Va,Xq { Q6 W t with nice:=n }=vs0->Xq (Je W t n)=vs->Wk 8 ([x,x1]++[b2]) w (R5 (R5 wv m'.tO (Int.toNat t*9) vs0) m'.tO (Int.toNat t*9) vs) (IM W t (Je W t n)) m':=λvs0 vs h0 h1=>by
   subst h0;subst h1;rw[hT] at rY ⊢;exact rY
  have CC9:∀y∈[x,x1],y∈[x,x1]++[b2]:=λy hy=>Ia _ hy
  have CK0:Wk 8 [x,x1] w _ (IM W t (Je W t n)) m':=rY.sub CC9;have Cm8:Q1 [x,x1] (R5 wv m'.tO (Int.toNat t*9) (Xq { Q6 W t with nice:=n })) (m'.ms (Q6 W t).group.toNat).sO (Int.toNat (Q6 W t).J'*5+0) [I (Qc W (Q6 W t).group (Q6 W t).J').floor]:=(uJ.g.IE _ q0 q1).f c0 (by show (Q6 W t).J'<(((gi W.IC (Q6 W t).group).IE.length:Nat):Int); omega) (j:=0) rfl;have ecp:(Q6 (IM W t (Je W t n)) t).J'=(Q6 W t).J':=by rw[P5 t0 t1]; rfl
  refine⟨hr.g.ix q0 q1,_,_,_,uJ.g.Ry q0 q1,(uJ.g.IE _ q0 q1).ix X7 c0 (by show (Q6 W t).J'<(((gi W.IC (Q6 W t).group).IE.length:Nat):Int); omega),(Qc W (Q6 W t).group (Q6 W t).J').floor,Cm8,Yk ((Q6 W t).v-(Qc W (Q6 W t).group (Q6 W t).J').floor) (Qe n),Bt0,⟨?_,?_⟩,W8,zkh gV.own gV.nb t0 t1' (j:=0) Qd,hr.c.ix Yh c0 c1,(gi W.ID (Q6 W t).J').cur,?_,λg5 Rn Si fT=>?_,λg5 Sn dK hs7=>?_⟩
  ·show _<=Tk W t n; omega
  ·show Tk W t n<=_; omega
  ·rw[hT] at CK0;exact CK0.rd.c.f c0 c1 (j:=1) rfl
  ·have g5:(gi W.ID (Q6 W t).J').cur=t:=by simpa using g5
   have hE:Tl W t n=Qh (Rp (IM W t (Je W t n)) (Q6 W t).J'):=by unfold Tl QF; rw[C' g4,ecp,C' (show (gi (IM W t (Je W t n)).ID (Q6 W t).J').cur=t from g5)]
   rw[hE];have fG:=(gX _ _ (by rfl) (by rw[hT]; rfl)).step (Si.mono CC9);have Rt:=ZG fG.own c0 c1;rw[e5] at Rt;refine I3 Rt ?_;rintro e1 R1 ⟨eH,aR⟩;refine⟨_,_,_,_,_,_,_,_,_,_,eH,fG.kept aR fT,λRP Wt tP=>?_⟩;have vR:=(fG.Sl aR fT).step Wt;refine I3 (Qy vR.own (hN.s1.Rp c0 c1) Qd Qd vR.base) ?_;rintro e2 Rr ⟨m1,aM,Sm⟩;exact⟨_,_,_,_,_,_,_,_,_,_,aM,vR.kept Sm tP,λSn dK=>QL.ok hW hb ((vR.Sl Sm tP).step dK)⟩
  ·have g5:¬(gi W.ID (Q6 W t).J').cur=t:=by simpa using g5
   have hE:Tl W t n=Qh (IM W t (Je W t n)):=by unfold Tl QF; rw[C' g4,ecp,B' (show ¬(gi (IM W t (Je W t n)).ID (Q6 W t).J').cur=t from g5)]
   rw[hE];have fG:=(gX _ _ (by rfl) (by rw[hT]; rfl)).step (dK.mono CC9);have Rt:=Qy fG.own hN.s1 Qd Qd fG.base;rw[e5] at Rt;refine I3 Rt ?_;rintro e2 Rr ⟨m1,aM,Sm⟩;exact⟨_,_,_,_,_,_,_,_,_,_,aM,fG.kept Sm hs7,λSn dK=>QL.ok hW hb ((fG.Sl Sm hs7).step dK)⟩
 ·have g4:¬(Q6 W t).state=1:=by simpa[Q6] using g4
  have hE:Tl W t n=Qh (IM W t (Je W t n)):=by unfold Tl; rw[B' g4]
  have dZ:=hN.s1;rw[hE,zbv g4];rw[zbv g4] at dZ;have rY:Wk 8 ([x,x1]++[b2]) w _ (IM W t { Q6 W t with nice:=n }) m':=(hK.add bR).R5 gV.own Kd;have fG:=rY.step (kS.mono λy hy=>Ia _ hy);have Rt:=Qy fG.own dZ Qd Qd fG.base;rw[e5] at Rt;refine I3 Rt ?_;rintro e2 Rr ⟨m1,aM,Sm⟩;exact⟨_,_,_,_,_,_,_,_,_,_,aM,fG.kept Sm hs9,λSn dK=>QL.ok hW hb ((fG.Sl Sm hs9).step dK)⟩
theorem LO{bs:List Nat}{p:OA}{t:Int}(h:Mk bs w p W m)(t0:0<=t)(t1:t<(W.tasks.length:Int))(g0:0<=(Q6 W t).group)(g1:(Q6 W t).group<(W.IC.length:Int))(c0:0<=(Q6 W t).J')(c1:(Q6 W t).J'<((gi W.IC (Q6 W t).group).IE.length:Int)) :
  PX bs Xt #[.pointer p,I t] w (I (Qc W (Q6 W t).group (Q6 W t).J').floor):=
 F9 p t λwr hx=>by
  have h:=(h.ext hx).less (cs:=[]) Qs;exact⟨h.some,_,_,_,h.tasks,h.rd.t.ix QG t0 t1,_,_,_,_,_,_,_,_,_,h.rd.t t t0 t1,λb hb=>⟨_,_,Yr,_,Zn h g0 g1 c0 c1,(h.sh g0 g1 c0 c1).1,_,(h.sh g0 g1 c0 c1).2 (j:=0) rfl,rfl⟩⟩
theorem zlv{base pb:Nat}{cap cap1:OA}{t n:Int}(h:PW base pb w W m)(hW:QB W=true)(hn:Q1 [] w cap 0 [I n])(hcw:∀w' W',Mp base pb [] w m w' W' m->Q1 [] w' cap1 0 [I t]) :
  Cz JX #[.pointer (pA pb),.pointer cap,.pointer cap1] w λe w2=>(Xv W t n≠0/\e=.returned (.iface Qi (.agg #[I (Xv W t n)]))/\Q0 [] w w2)\/(Xv W t n=0/\e=.returned .nilIface/\∃m2,Ki base pb [] w m w2 (Tl W t n) m2):=by
 have wp:=Qm.1 hW;have hM:=Mp.start h;have hp:=hM.wH;have hc:=hcw _ _ hM
 refine(B3 (pA pb) cap cap1 (R:=λv w2=>(Xv W t n≠0/\v=.iface Qi (.agg #[I (Xv W t n)])/\Q0 [] w w2)\/(Xv W t n=0/\v=.nilIface/\∃m2,Ki base pb [] w m w2 (Tl W t n) m2)) ?_).mono λe w' ⟨v,he,h3⟩=>by
  rw[he];rcases h3 with ⟨a,b,c⟩ | ⟨a,b,c⟩
  ·exact .inl ⟨a,by rw[b],c⟩
  ·exact .inr ⟨a,by rw[b],c⟩
 refine⟨n,hn,_,Pa,λg wr hx=>.inl ?_,λgn=>⟨t,hc,_,JJ hp (by have:=wp.a.t; have:=Zg; omega),λg wr hx=>.inl ?_,λg=>⟨_,TX hp wp.a,λg3 wr hx=>.inl ?_,λg3=>?_⟩⟩⟩
 ·have g:Qe n=0:=Iq λhw=>by rw[Ah.2 hw] at g; cases g
  have hb:Xv W t n=1:=by unfold Xv; rw[C' g]
  rw[hb];exact⟨Qd,rfl,hx⟩
 ·have gw:¬Qe n=0:=Ah.1 (by simpa using gn);have g:Z4 W t=false:=by unfold Z4; simpa only[IB] using g
  have hb:Xv W t n=2:=by unfold Xv Ti; rw[B' gw,C' g]
  rw[hb];exact⟨Qd,rfl,hx⟩
 ·have gw:¬Qe n=0:=Ah.1 (by simpa using gn);have g:Z4 W t=true:=by unfold Z4; simpa only[I6] using g
  have g3:QK W=false:=by simpa using g3
  have hb:Xv W t n=10:=by unfold Xv Ti; rw[B' gw,B' (by rw[g]; decide),C' g3]
  rw[hb];exact⟨Qd,rfl,hx⟩
 have gw:¬Qe n=0:=Ah.1 (by simpa using gn);have g:Z4 W t=true:=by unfold Z4; simpa only[I6] using g
 have g3:QK W=true:=by simpa using g3
 have hb:Xv W t n=0:=by unfold Xv Ti; rw[B' gw,B' (by rw[g]; decide),B' (by rw[g3]; decide)]
 obtain⟨t0,t1,tn⟩:=Y0 g;have hN:=zbw hW hb;have sw:=hN.sw;have fZ:=sw.a.t;obtain⟨hu,c0,c1⟩:=sw.t t t0 Qo tn;obtain⟨q0,q1,_⟩:=Q4.1 hu;have hsl:=sw.a.sl hu;have Sk:Zj 8 base (R5 w m.tO (Int.toNat t*9+3) [I n]) (IM W t { Q6 W t with nice:=n }) m:=h.own.pN t0 t1 (j:=3) (vs:=[I n]) (x:={ Q6 W t with nice:=n }) rfl Qs;have T':Mp base pb [] w m _ (IM W t { Q6 W t with nice:=n }) m:=hM.Sl Sk Kd (by simp[Qb,IM]);have gW:=T'.wH;have etk:Q6 (IM W t { Q6 W t with nice:=n }) t={ Q6 W t with nice:=n }:=P5 t0 t1;have t1':t<((IM W t { Q6 W t with nice:=n }).tasks.length:Int):=by simpa[IM] using t1
 have gX:=gW.rd.t.f t0 t1' (j:=0) rfl;have hsv:=gW.rd.t.f t0 t1' (j:=5) rfl;have etg:gi (IM W t { Q6 W t with nice:=n }).tasks t={ Q6 W t with nice:=n }:=etk;rw[etg] at gX hsv;refine⟨hp.some,_,_,_,hp.tasks,t,hc,hp.rd.t.ix QG t0 t1,n,hn,zkh h.own Qs t0 t1 Qd,_,gX,λg4=>?_,λg4 Rj R3 _=>?_⟩
 ·have g4:(Q6 W t).state=1:=by simpa[Q6] using g4
  have hT:=zma (n:=n) g4;obtain⟨f0,f1,v0,v1⟩:=hN.f g4;have hv:=sw.tv t t0 Qo;have hh:Qq=50000000000000000:=rfl;have hk:K1=50000034686091440:=rfl;have oF:=LO (t:=t) gW t0 t1' (by rw[etk]; exact q0) (by rw[etk]; exact q1) (by rw[etk]; exact c0) (by rw[etk]; show (Q6 W t).J'<(((gi W.IC (Q6 W t).group).IE.length:Nat):Int); omega);have hwt:=Ec (t:=t) gW t0 t1';rw[etk] at oF hwt;have Bh7:Zj 8 base (R5 (R5 w m.tO (Int.toNat t*9+3) [I n]) m.tO (Int.toNat t*9+5) [I (Tk W t n)]) (IM (IM W t { Q6 W t with nice:=n }) t { Q6 W t with nice:=n,v:=Tk W t n }) m:=Sk.pN t0 t1' (j:=5) (vs:=[I (Tk W t n)]) (x:={ Q6 W t with nice:=n,v:=Tk W t n }) (by rw[etg]; rfl) Qs;have cJ:Mp base pb [] w m _ (IM (IM W t { Q6 W t with nice:=n }) t { Q6 W t with nice:=n,v:=Tk W t n }) m:=T'.Sl Bh7 Kd (by simp[Qb,IM]);rw[set_set,<-hT] at cJ;refine⟨t,hcw _ _ T',_,oF,_,hsv,⟨by show _<=(Q6 W t).v-(Qc W (Q6 W t).group (Q6 W t).J').floor; omega,by show (Q6 W t).v-(Qc W (Q6 W t).group (Q6 W t).J').floor<=_; omega⟩,t,hcw _ _ T',_,hwt,_,KK,⟨by show _<=Tk W t n; omega,by show Tk W t n<=_; omega⟩,zkh Sk Qs t0 t1' Qd,t,hcw _ _ cJ,λRj R3 _=>?_⟩;have eD:=cJ.nil R3;refine I3 (Bn eD.pw hN.s1 t0 Qo (by rw[P5 t0 t1]; exact tn)) ?_;rintro e R1 ⟨he,hy⟩;refine⟨he,Z3,λRn Si _=>?_⟩;have tV:=(eD.call hy Qs).nil Si;have hE:Tl W t n=Qh (QF (IM W t (Je W t n)) t):=by unfold Tl; rw[C' g4]
  rw[hE];refine I3 (Jt tV.pw hN.s2 Qd Qd) ?_;rintro e1 Rr ⟨eH,aR⟩;exact⟨eH,Z3,λRE Sb=>.inr ⟨hb,rfl,m,((tV.call aR Qs).nil Sb).done⟩⟩
 ·have g4:¬(Q6 W t).state=1:=by simpa[Q6] using g4
  have hE:Tl W t n=Qh (IM W t (Je W t n)):=by unfold Tl; rw[B' g4]
  have dZ:=hN.s1;rw[hE,zbv g4];rw[zbv g4] at dZ;have eD:=T'.nil R3;refine I3 (Jt eD.pw dZ Qd Qd) ?_;rintro e1 Rr ⟨eH,aR⟩;exact⟨eH,Z3,λRE Sb=>.inr ⟨hb,rfl,m,((eD.call aR Qs).nil Sb).done⟩⟩
theorem zad{t n:Int}(h:XF [] w W m)(hl:UG W)(hg:Vw w) :
  Cz OD #[.agg (Qb W m).toArray,I t,I n] w λe w'=>∃v,e=.returned v/\QL (Yv W (Xv W t n) (Tl W t n)) w v w':=by
 refine CT _ _ _ _ _ _ _ _ _ _ t n (R:=λv w'=>QL (Yv W (Xv W t n) (Tl W t n)) w v w') ?_;intro x hx b1 wb RR fQ hc hn b2 lY hxb bR hc2 hn2 b3 wC wr R0 hs;have hX0:Q0 [] w lY:=RR.fresh hxb λy hy=>.inl (O0 hy hx)
 have hX:Q0 [] w wr:=hX0.fresh R0 λy hy=>.inl (O0 hy hx)
 have c1:=Qg (Qg hc hxb hn) R0 hn;have c2:=Qg hc2 R0 hn2;refine I3 (L7 (bar:=Xv W t n) (W':=Tl W t n) (h.ext hX) hl (hg.ext hX) λw1 pb m1 hW R3 hpb hP=>.inl ⟨JX,_,rfl,zlv hP hW (Ym (Qg c2 R3 Qs) Qs (k0:=0) rfl) λw9 W9 hM9=>Ym (zk3 hP (Yt c1) hpb (Qg c1 R3 Qs) hM9) Qs (k0:=0) rfl⟩) ?_;rintro e wv ⟨v,he,n',m',hv,hM,hy⟩;subst hv;refine⟨_,_,_,_,_,_,_,_,_,_,_,he,Qf hy hs,λI' Si=>⟨n',m',rfl,(hM.ext Si λy hy hm=>?_).mono hX.size,(hX.trans hy).fresh Si λy hm=>?_⟩⟩
 ·have:=(hM.lt y hy).1;have:=hs y hm;omega
 ·simp only[Ii,List.not_mem_nil,or_false] at hm;rcases hm with rfl | rfl
  ·exact .inl hx
  ·exact .inl (IA hX0.size wC)
end
noncomputable def KI(W:Q8)(g:Int)(ok:Bool):Int:=if ok=false\/g=0 then 1 else if Q7 W.IC g=false then 2 else if QK W=false then 10 else 0
theorem zlq{W:Q8}{g:Int}{ok:Bool}(h:KI W g ok=0):ok=true/\g≠0/\Q7 W.IC g=true/\QK W=true:=by
 unfold KI at h
 split at h
 ·cases h
 ·rename_i h1
  split at h
  ·cases h
  ·rename_i h2
   split at h
   ·cases h
   ·rename_i h3;exact⟨by cases ok <;> simp_all,λe=>h1 (.inr e),by simpa using h2,by simpa using h3⟩
def z0t:Vv:=⟨0,0,0,[],[]⟩
def JL(q:Int)(n:Nat):Vv:=⟨q,q,0,List.replicate n 0,List.replicate n false⟩
def Ej(q p:Int):Bool:=q==0&&p==0
def zjg(q p:Int):Bool:=Ej q p||(X6 q 1 10000&&X6 p 1 1000)
def KP(W:Q8)(g q p:Int):ZX:=if Ej q p=true then { gi W.IC g with period:=0,next:=0,IS:=z0t } else { gi W.IC g with period:=p,next:=W.now+p,IS:=JL q W.ID.length }
noncomputable def zn6(W:Q8)(g q p:Int):Int:=KI W g (zjg q p)
def zzy(W:Q8)(g q p:Int):Q8:=Qh (Rm W g (KP W g q p))
theorem AD(n:Nat):∀k:Nat,k<=n->VH (List.replicate n (0:Int)) k=0
 | 0,_=>rfl
 | k+1,hk=>by
  simp only[VH];rw[AD n k Qo,MV _ _ Qo Qo]; rfl
theorem zuc{q:Int}{n:Nat}(q1:1<=q)(q2:q<=10000)(n1:1<=n)(n2:n<=4):Pg (JL q n):=by
 refine⟨q1,q2,by simpa[JL] using n1,by simpa[JL] using n2,by simp[JL],by simp only[JL]; omega,I2 _,by simp[JL],by simp only[JL]; omega,λc c0 c1=>?_,?_⟩
 ·simp only[JL,List.length_replicate] at c1 ⊢;rw[MV _ _ c0 c1,MV _ _ c0 c1];exact⟨I2 _,Qo,λh=>by cases h⟩
 ·simp only[JL,List.length_replicate];rw[AD n n (I7 _)]; omega
theorem zl0{W:Q8}{g q p:Int}:(KP W g q p).used=(gi W.IC g).used/\(KP W g q p).parent=(gi W.IC g).parent/\(KP W g q p).name=(gi W.IC g).name/\(KP W g q p).IE=(gi W.IC g).IE/\(KP W g q p).weight=(gi W.IC g).weight/\(KP W g q p).ID=(gi W.IC g).ID/\(KP W g q p).sum=(gi W.IC g).sum:=by
 unfold KP; split <;> exact⟨rfl,rfl,rfl,rfl,rfl,rfl,rfl⟩
theorem SW.Rm{K:Int}{W:Q8}(h:SW K W){g:Int}{x:ZX}(hu:Q7 W.IC g=true)(u:x.used=(gi W.IC g).used)(p:x.parent=(gi W.IC g).parent)(n:x.name=(gi W.IC g).name)(s:x.IE=(gi W.IC g).IE)(hx:zpj W g x):SW K (Rm W g x):=by
 obtain⟨u0,u1,ut⟩:=Q4.1 hu;have hl:=h.a.gl;have hT:=Uj (x:=x) u0 u1 u p n
 have es:∀k c:Int,0<=k->Qc (YtnclplgaicdapaaGreatDoor.Rm W g x) k c=Qc W k c:=λk c k0=>by
  unfold Qc;rw[Xo u0 u1 k0];split
  ·rename_i e; subst e; rw[s]
  ·rfl
 refine⟨h.a.set u0 Qo u p n (λhn=>by rw[u,ut] at hn; cases hn) λ_=>hx,λt a b n=>by rw[hT.eB]; exact h.t t a b n,h.tv,λk c uk a b=>?_,h.cu⟩;rw[hT.eB] at uk;rw[es k c (Q4.1 uk).1];exact h.s k c uk a b
theorem zwt{W:Q8}{g q p:Int}(hW:QB W=true)(hb:zn6 W g q p=0):Q7 W.IC g=true/\g≠0/\zjg q p=true/\QK W=true/\SW Qq W/\SW Qq (Rm W g (KP W g q p)):=by
 obtain⟨h1,h2,h3,h4⟩:=zlq hb;have wp:=Qm.1 hW;have sw:=Mi wp (Qm.1 h4);obtain⟨u0,u1,hg⟩:=wp.a.u h3;have hl:=zl0 (W:=W) (g:=g) (q:=q) (p:=p);have vS:=wp.a.c1;have hc2:=wp.a.c2;refine⟨h3,h2,h1,h4,sw,sw.Rm h3 hl.1 hl.2.1 hl.2.2.1 hl.2.2.2.1 ⟨by rw[hl.2.2.2.2.1]; exact hg.w1,by rw[hl.2.2.2.2.1]; exact hg.w2,by rw[hl.2.2.2.2.2.1]; exact hg.m,by rw[hl.2.2.2.2.2.1]; exact hg.m0,by rw[hl.2.2.2.2.2.2]; exact hg.s,by rw[hl.2.2.2.1]; exact hg.len,λh=>Ir h h2,λhq=>?_,λhq=>?_⟩⟩
 ·unfold KP at hq ⊢;split
  ·exact⟨show OY z0t=true by decide,rfl,rfl⟩
  ·rename_i hn;rw[B' hn] at hq;unfold zjg at h1;rw[show Ej q p=false by simpa using hn,Bool.false_or,A'] at h1;have:=Qx.1 h1.1;have:q=0:=hq;omega
 ·unfold KP at hq ⊢;split
  ·rename_i hn;rw[C' hn] at hq;exact Ir rfl hq
  ·rename_i hn;unfold zjg at h1;rw[show Ej q p=false by simpa using hn,Bool.false_or,A'] at h1;have h5:=Qx.1 h1.1;have h6:=Qx.1 h1.2;exact⟨zuc h5.1 h5.2 vS hc2,by simp[JL],h6.1,h6.2,by show W.now<W.now+p; omega,by show W.now+p-W.now<=p; omega⟩
theorem zr8{W:Q8}{g q p:Int}(h:Ej q p=true):KP W g q p={ gi W.IC g with period:=0,next:=0,IS:=z0t }:=by unfold KP; rw[C' h]
theorem zn7{W:Q8}{g q p:Int}(h:Ej q p=false):KP W g q p={ gi W.IC g with period:=p,next:=W.now+p,IS:=JL q W.ID.length }:=by unfold KP; rw[B' (by rw[h]; decide)]
def zat:MG:=⟨none,0,none,0,none,0⟩
theorem zz9(base:Nat)(w:Wo):Zu base w z0t zat:=⟨.inl ⟨rfl,rfl,rfl⟩,.inl ⟨rfl,rfl,rfl⟩⟩
theorem zuf:∀x∈YC zat,False:=λx hx=>by simp[YC,zat,QM] at hx
section
variable {W W':Q8}{m:MW}{w:Wo}{bar:Int}
theorem z2h{b:Nat}{bs:List Nat}{w w1 w2 w3:Wo}{q:Int}{n:Nat}(s:Sc w [b] w1)(h2:Q0 [b] (w1.alloc (.cells ((List.replicate n (0:Int)).flatMap Um).toArray Qa)) w2)(dZ:∀y∈[b],y<w1.heap.size)(SR:∀y∈[b],y<w2.heap.size)(h3:Q0 [b] (w2.alloc (.cells ((List.replicate n false).flatMap Kk).toArray Yd)) w3)(_:bs=[]) :
  Zu w.heap.size w3 (JL q n) ⟨some ⟨w1.heap.size,0,none⟩,n,some ⟨w2.heap.size,0,none⟩,n,none,0⟩/\Q0 [] w w3:=by
 have hL0:Ob Um 1 Qa w1.heap.size [b] _ (some ⟨w1.heap.size,0,none⟩) n (List.replicate n (0:Int)):=Ob.of (VD (enc:=Um) Xi.len Qa n (0:Int) w1) dZ;have s1:=(s.M' (Z9 w1 (.cells ((List.replicate n (0:Int)).flatMap Um).toArray Qa))).step h2;have hL1:=((hL0.step h2).M' (Z9 w2 (.cells ((List.replicate n false).flatMap Kk).toArray Yd))).step h3;have hD0:Ob Kk 1 Yd w2.heap.size [b] _ (some ⟨w2.heap.size,0,none⟩) n (List.replicate n false):=Ob.of (VD (enc:=Kk) J8.len Yd n false w2) SR;have hD1:=hD0.step h3;have s2:=(s1.M' (Z9 w2 (.cells ((List.replicate n false).flatMap Kk).toArray Yd))).step h3;exact⟨⟨hL1.own.mono s.ext.size,hD1.own.mono s1.ext.size⟩,s2.ext⟩
theorem zz8{b:Nat}{w w1 w2 w3:Wo}{q:Int}{n:Nat}(s:Sc w [b] w1)(h2:Q0 [b] (w1.alloc (.cells ((List.replicate n false).flatMap Kk).toArray Yd)) w2)(dZ:∀y∈[b],y<w1.heap.size)(SR:∀y∈[b],y<w2.heap.size)(h3:Q0 [b] (w2.alloc (.cells ((List.replicate n (0:Int)).flatMap Um).toArray Qa)) w3) :
  Zu w.heap.size w3 (JL q n) ⟨some ⟨w2.heap.size,0,none⟩,n,some ⟨w1.heap.size,0,none⟩,n,none,0⟩/\Q0 [] w w3:=by
 have hL0:Ob Kk 1 Yd w1.heap.size [b] _ (some ⟨w1.heap.size,0,none⟩) n (List.replicate n false):=Ob.of (VD (enc:=Kk) J8.len Yd n false w1) dZ;have s1:=(s.M' (Z9 w1 (.cells ((List.replicate n false).flatMap Kk).toArray Yd))).step h2;have hL1:=((hL0.step h2).M' (Z9 w2 (.cells ((List.replicate n (0:Int)).flatMap Um).toArray Qa))).step h3;have hD0:Ob Um 1 Qa w2.heap.size [b] _ (some ⟨w2.heap.size,0,none⟩) n (List.replicate n (0:Int)):=Ob.of (VD (enc:=Um) Xi.len Qa n (0:Int) w2) SR;have hD1:=hD0.step h3;have s2:=(s1.M' (Z9 w2 (.cells ((List.replicate n (0:Int)).flatMap Um).toArray Qa))).step h3;exact⟨⟨hD1.own.mono s1.ext.size,hL1.own.mono s.ext.size⟩,s2.ext⟩
theorem zej{q:Int}{n:Nat}(hq:X6 q 1 10000=true)(hn:X6 (n:Int) 1 4=true) :
  Cz PS #[I q,I (n:Int)] w λe w'=>∃p:MG,e=.returned (.tuple #[.agg (ZF (JL q n) p).toArray,.bool true])/\Zu w.heap.size w' (JL q n) p/\Q0 [] w w':=by
 refine(zde q (n:Int) (R:=λv w'=>∃p:MG,v=.tuple #[.agg (ZF (JL q n) p).toArray,.bool true]/\Zu w.heap.size w' (JL q n) p/\Q0 [] w w') ?_).mono λe w' ⟨v,he,p,hv,h3⟩=>⟨p,by rw[he,hv],h3⟩
 have hm9:=Zg;have h4:=(Qx.1 hn).2;intro b hb;have s0:Sc w [b] w:=(Sc.start w).add hb;have k1:=Qu (n:=q) (a:=1) (b:=10000) (w:=w) (bs:=[]);have k2:=Qu (n:=(n:Int)) (a:=1) (b:=4) (w:=w) (bs:=[]);rw[hq] at k1;rw[hn] at k2;refine⟨true,k1,true,λ_=>k2,λg=>by simp at g,λ_=>⟨λI' RR dZ=>⟨_,_,_,_,KS Xi Kg n Qo Qo I',Qf (Z9 _ _) dZ,λO' R0 SR=>⟨_,_,_,_,KS J8 Lv n Qo Qo O',Qf (Z9 _ _) SR,λRj R3=>?_⟩⟩,λI' RR dZ=>⟨_,_,_,_,KS J8 Lv n Qo Qo I',Qf (Z9 _ _) dZ,λO' R0 SR=>⟨_,_,_,_,KS Xi Kg n Qo Qo O',Qf (Z9 _ _) SR,λRj R3=>?_⟩⟩⟩⟩
 ·exact⟨_,by simp[ZF,JL],z2h (bs:=[]) (s0.M' RR) R0 dZ SR R3 rfl⟩
 ·exact⟨_,by simp[ZF,JL],zz8 (s0.M' RR) R0 dZ SR R3⟩
theorem z2e{base:Nat}(h:Zj 8 base w W m){g:Int}(u0:0<=g)(u1:g<8){G:ZX}{p:MG}(hp:Zu base w G.IS p)(hb:∀x∈YC p,x∉QR 8 m)(es:G.IE=(gi W.IC g).IE){j:Nat}{vs:List Va}(he:YE G (KR (m.ms g.toNat) p)=(YE (gi W.IC g) (m.ms g.toNat)).take j++vs++(YE (gi W.IC g) (m.ms g.toNat)).drop (j+vs.length))(hj:j+vs.length<=14) :
  Zj 8 base (R5 w m.gO (Int.toNat g*14+j) vs) (Rm W g G) (GJ m g.toNat (KR (m.ms g.toNat) p)):=
 h.Bk5 u0 u1 (g:=G) (p:=KR (m.ms g.toNat) p) ⟨hp.loc,hp.Rz,by rw[es]; exact(h.each u0 u1).shl⟩ (λx hx=>by
  rcases P0 x hx with h1 | h1
  ·exact .inl (hb x h1)
  ·exact .inr h1) he hj
theorem Wk.gr{bs:List Nat}{w0:Wo}(h:Wk 8 bs w0 w W m){g:Int}(u0:0<=g)(u1:g<8){G:ZX}{p:MG}(hp:Zu w0.heap.size w G.IS p)(hb:∀x∈YC p,x∉QR 8 m/\x∉bs)(es:G.IE=(gi W.IC g).IE){j:Nat}{vs:List Va}(he:YE G (KR (m.ms g.toNat) p)=(YE (gi W.IC g) (m.ms g.toNat)).take j++vs++(YE (gi W.IC g) (m.ms g.toNat)).drop (j+vs.length))(hj:j+vs.length<=14) :
  Wk 8 bs w0 (YtnclplgaicdapaaGreatDoor.R5 w m.gO (Int.toNat g*14+j) vs) (Rm W g G) (GJ m g.toNat (KR (m.ms g.toNat) p)):=
 ⟨h.s.call zbf λx hx=>(h.own.lt x hx).1,⟨z2e h.own u0 u1 hp (λx hx=>(hb x hx).1) es he hj,λx hx=>by
  rcases P1 x hx with h1 | h1
  ·exact h.nb x h1
  ·rcases P0 x h1 with h2 | h2
   ·exact(hb x h2).2
   ·exact h.nb x (UV Qo h2)⟩⟩
theorem VU{g:Int}{ok:Bool}(h:XF [] w W m)(hl:UG W) :
  Cz XD #[.agg (Qb W m).toArray,I g,.bool ok] w λe w'=>(QB W=false/\e=.returned (.tuple #[.agg (Qb Kw zym).toArray,I 1])/\Q0 [] w w')\/(QB W=true/\∃m',e=.returned (.tuple #[.agg (Qb W m').toArray,I (KI W g ok)])/\Zj 8 w.heap.size w' W m'/\Q0 [] w w'):=by
 refine(v8 _ _ _ _ _ _ _ _ _ _ g ok (R:=λv w'=>(QB W=false/\v=.tuple #[.agg (Qb Kw zym).toArray,I 1]/\Q0 [] w w')\/(QB W=true/\∃m',v=.tuple #[.agg (Qb W m').toArray,I (KI W g ok)]/\Zj 8 w.heap.size w' W m'/\Q0 [] w w')) ?_).mono λe w' ⟨v,he,h3⟩=>by
  rw[he];rcases h3 with ⟨a,b,c⟩ | ⟨a,m',b,c⟩
  ·exact .inl ⟨a,by rw[b],c⟩
  ·exact .inr ⟨a,m',by rw[b],c⟩
 intro x hx x1 RR wr R0 SR;refine I3 (Zi (h.ext R0) hl) ?_;rintro e wv (⟨hW,he,hy⟩ | ⟨hW,m',he,hM,hy⟩)
 ·exact⟨_,_,_,_,_,_,_,_,_,_,_,he,Qf hy SR,λ_ I' R3=>.inl ⟨hW,rfl,(R0.trans hy).fresh R3 λy hm=>.inl (X4 hx RR y hm)⟩,λg=>by simp at g⟩
 have hK:=Wk.begin hx RR R0 SR hM hy;have vS:((if QK W=true then 0 else 10:Int)==1)=false:=by split <;> rfl
 refine⟨_,_,_,_,_,_,_,_,_,_,_,he,Qf hy SR,λg1 I' R3=>.inr ⟨hW,m',?_,(hK.step R3).fin⟩,λg1=>⟨_,XB hK.rd.g,λg2 O' R3=>.inr ⟨hW,m',?_,(hK.step R3).fin⟩,λg2 Rj R3=>.inr ⟨hW,m',?_,(hK.step R3).fin⟩⟩⟩
 ·have hb:KI W g ok=1:=by
   unfold KI;rw[C'];rw[vS] at g1
   simpa using g1
  rw[hb]; rfl
 ·rw[vS] at g1;have g1:¬(ok=false\/g=0):=by simpa using g1
  have hb:KI W g ok=2:=by unfold KI; rw[B' g1,C' (by simpa using g2)]
  rw[hb]; rfl
 ·rw[vS] at g1;have g1:¬(ok=false\/g=0):=by simpa using g1
  have hb:KI W g ok=if QK W=true then 0 else 10:=by
   unfold KI; rw[B' g1,B' (by simpa using g2)]
   cases QK W <;> rfl
  rw[hb]; rfl
theorem Bq{g q p:Int}(h:XF [] w W m)(hl:UG W) :
  Cz T6 #[.agg (Qb W m).toArray,I g,I q,I p] w λe w'=>∃v,e=.returned v/\QL (Yv W (zn6 W g q p) (zzy W g q p)) w v w':=by
 refine B7 _ _ _ _ _ _ _ _ _ _ g q p (R:=λv w'=>QL (Yv W (zn6 W g q p) (zzy W g q p)) w v w') ?_;intro x hx x1 RR;refine⟨_,λ_=>Qu,_,λ_ _=>Qu,λwr R0 SR=>?_⟩;refine I3 (VU (g:=g) (ok:=zjg q p) (h.ext R0) hl) ?_;rintro e wv (⟨hW,he,hy⟩ | ⟨hW,m',he,hM,hy⟩)
 ·exact⟨_,_,_,_,_,_,_,_,_,_,_,he,Qf hy SR,λ_ I' R3=>QL.bad hW ((R0.trans hy).fresh R3 λy hm=>.inl (X4 hx RR y hm)),λg=>by simp at g⟩
 have hK:=Wk.begin hx RR R0 SR hM hy;refine⟨_,_,_,_,_,_,_,_,_,_,_,he,Qf hy SR,λg1 I' R3=>QL.no hW (by simpa[zn6] using g1) (hK.step R3) rfl,λg1=>?_⟩;have hb:zn6 W g q p=0:=by simpa[zn6] using g1
 have hr:=hK.rd;obtain⟨hu,hz,hok,AD5,sw,s1⟩:=zwt hW hb;obtain⟨u0,u1,_⟩:=Q4.1 hu;have dD:=sw.a.gl;have vS:=sw.a.c1;have hc2:=sw.a.c2;have hn1:=sw.a.n1;have hn2:=sw.a.n2;have W8:=hr.g.ix (i:=g) u0 u1;have e5:∀G mm,mm={ m' with ms:=mm.ms }->Qb (Rm W g G) mm=Qb W m':=λG mm hm=>by rw[hm]; simp[Qb,Rm]
 have eb:Qb W m'=Qb W m':=rfl;refine⟨W8,_,_,_,_,_,_,_,_,_,_,_,_,_,_,_,_,_,_,_,_,hr.g.cells g u0 u1,λb2 bR=>⟨λg2 O' R3 gI=>?_,λg2=>?_⟩⟩
 ·have g2:Ej q p=false:=by unfold Ej; simpa only[IB] using g2
  have hlm:X6 q 1 10000=true/\X6 p 1 1000=true:=by unfold zjg at hok; rw[g2,Bool.false_or,A'] at hok; exact hok
  have hp:=Qx.1 hlm.2;have gV:=(hK.add bR).step (R3.mono λy hy=>Ia _ hy);refine I3 (zej (n:=W.ID.length) hlm.1 (Qx.2 ⟨Qo,Qo⟩)) ?_;rintro e1 R1 ⟨pb,eH,hO,aR⟩;refine⟨_,_,_,_,_,_,_,_,_,_,eH,Qf aR gI,λb3 wC=>⟨⟨Qo,Qo⟩,W8,?_,λRj Si fT=>?_⟩⟩
  ·exact zs7 (gV.M' aR).own (gV.M' aR).nb u0 Qo (j:=0) Qd
  have rY:=(gV.M' aR).add wC
  have fN:=(rY.gr u0 Qo (G:=KP W g q p) (p:=pb) (j:=0) (vs:=YE (KP W g q p) (KR (m'.ms g.toNat) pb)) (by rw[zn7 g2]; exact hO.mono gV.base) (λy hy=>?_) zl0.2.2.2.1 (by simp[YE]) (by simp[YE])).step (w':=Rj) (by
   rw[zn7 g2];exact Si.mono λy hy=>Ia _ hy)
  ·have Rt:=Qy fN.own s1 Qd Qd fN.base;rw[e5 _ _ rfl] at Rt;refine I3 Rt ?_;rintro e2 Rr ⟨m2,aM,Sm⟩;exact⟨_,_,_,_,_,_,_,_,_,_,aM,fN.kept Sm fT,λRn Sb=>QL.ok hW hb ((fN.Sl Sm fT).step Sb)⟩
  ·have:=hO.lt y hy;refine⟨λhm=>?_,λhm=>?_⟩
   ·have:=(gV.own.lt y hm).2; omega
   ·rcases Im.1 hm with h1 | h1
    ·have:=gI y h1; omega
    ·have:y=b3:=by simpa using h1
     omega
 ·have g2:Ej q p=true:=by unfold Ej; simpa only[I6] using g2
  refine⟨W8,?_,λRj Si fT=>?_⟩
  ·exact zs7 hK.own hK.nb u0 Qo (j:=0) Qd
  have rY:=hK.add bR
  have fN:=(rY.gr u0 Qo (G:=KP W g q p) (p:=zat) (j:=0) (vs:=YE (KP W g q p) (KR (m'.ms g.toNat) zat)) (by rw[zr8 g2]; exact zz9 _ _) (λy hy=>(zuf y hy).elim) zl0.2.2.2.1 (by simp[YE]) (by simp[YE])).step (w':=Rj) (by
   rw[zr8 g2];exact Si.mono λy hy=>Ia _ hy)
  have Rt:=Qy fN.own s1 Qd Qd fN.base;rw[e5 _ _ rfl] at Rt;refine I3 Rt ?_;rintro e2 Rr ⟨m2,aM,Sm⟩;exact⟨_,_,_,_,_,_,_,_,_,_,aM,fN.kept Sm fT,λRn Sb=>QL.ok hW hb ((fN.Sl Sm fT).step Sb)⟩
theorem Ki.pre{base pb:Nat}{ex:List Nat}{w0 w w':Wo}{W':Q8}{m m':MW}(hx:Q0 [] w0 w)(h:Ki base pb ex w m w' W' m'):Ki base pb ex w0 m w' W' m':=
 ⟨h.own,h.pt,hx.of_nil.trans h.ext,λx hy=>(h.sub x hy).imp id λhz=>IA hx.size hz⟩
theorem Ki.post{base pb:Nat}{ex:List Nat}{w w' w1:Wo}{W':Q8}{m m':MW}(h:Ki base pb ex w m w' W' m')(hx:Q0 [] w' w1):Ki base pb ex w m w1 W' m':=
 ⟨h.own.Wu hx,Qg h.pt hx Qs,h.ext.trans hx.of_nil,h.sub⟩
end
def DP(W:Q8)(t:Int):Int:=Yk ((Q6 W t).v-(Qc W (Q6 W t).group (Q6 W t).J').floor) (Qe (Q6 W t).nice)
def Te(W:Q8)(t g c:Int):KW:={ Q6 W t with group:=g,J':=c,v:=(Qc W g c).floor+DP W t }
def Uq(W:Q8)(t g c:Int):Q8:=if (Q6 W t).state=1 then Rp (IM W t (Te W t g c)) c else IM W t (Te W t g c)
theorem EY(W:Q8)(t:Int):0<=DP W t/\DP W t<=Qj:=by
 have lc:=ZY ((Q6 W t).v-(Qc W (Q6 W t).group (Q6 W t).J').floor) (Qe (Q6 W t).nice);have lm:=Yb (Qe (Q6 W t).nice);unfold DP;simp only[Qj];omega
theorem SF.IM{F K:Int}{W:Q8}(h:SF F K W){t:Int}(t0:0<=t)(t1:t<12){x:KW}(hx:x.state≠0->Q7 W.IC x.group=true/\0<=x.J'/\x.J'<(W.ID.length:Int))(v0:0<=x.v)(v1:x.v<=K):SF F K (IM W t x):=⟨h.w.IM t0 t1 hx v0 v1,h.f⟩
theorem SF.Rp{F K:Int}{W:Q8}(h:SF F K W){c:Int}(c0:0<=c)(c1:c<(W.ID.length:Int)):SF F K (Rp W c):=
 ⟨h.w.Rp c0 c1,λk d u a b=>h.f k d u a (by
  have b:d<(((W.ID.set c.toNat (Js (gi W.ID c))).length:Nat):Int):=b
  rwa[E'] at b)⟩
theorem zsm{F K:Int}{W:Q8}(h:SF F K W)(hk:F+Qj<=K){t g c:Int}(hg:Q7 W.IC g=true)(c0:0<=c)(c1:c<(W.ID.length:Int)):0<=(Te W t g c).v/\(Te W t g c).v<=K:=by
 have hf:=h.f g c hg c0 c1;have hs:=h.w.s g c hg c0 c1;have hl:=EY W t;show 0<=(Qc W g c).floor+DP W t/\(Qc W g c).floor+DP W t<=K;omega
theorem BU{F K:Int}{W:Q8}(h:SF F K W)(hk:F+Qj<=K){t g c:Int}(t0:0<=t)(t1:t<12)(hg:Q7 W.IC g=true)(c0:0<=c)(c1:c<(W.ID.length:Int)):SF F K (IM W t (Te W t g c))/\SF F K (Uq W t g c):=by
 have hv:=zsm h hk (t:=t) hg c0 c1;have h1:=h.IM t0 t1 (x:=Te W t g c) (λ_=>⟨hg,c0,c1⟩) hv.1 hv.2;refine⟨h1,?_⟩;unfold Uq;split
 ·exact h1.Rp c0 c1
 ·exact h1
theorem zxl(W:Q8)(t g c:Int):(Uq W t g c).now=W.now/\(Uq W t g c).ID.length=W.ID.length/\(Uq W t g c).tasks.length=W.tasks.length/\(Uq W t g c).IC=W.IC:=by
 unfold Uq;split
 ·exact⟨rfl,by simp[Rp,Se,IM],by simp[Rp,Se,IM],rfl⟩
 ·exact⟨rfl,rfl,by simp[IM],rfl⟩
def O3(m:Int):Int:=if Z1 m 0=true then 0 else if Z1 m 1=true then 1 else if Z1 m 2=true then 2 else if Z1 m 3=true then 3 else -1
theorem zzb:∀a:Fin 16,a.val≠0->Z1 (a.val:Int) (O3 (a.val:Int))=true:=by decide +kernel
theorem BD{m:Int}(h:O7 m=true)(h0:m≠0):Z1 m (O3 m)=true:=by
 obtain⟨f,rfl⟩:=Kq h;exact zzb f λe=>h0 (by rw[e]; rfl)
theorem z2p(gs:List ZX)(g u:Int):O7 (Ts gs g u)=true:=by
 unfold Ts;rw[List.foldl_append];exact zbt _ _
theorem Kh{W:Q8}(ha:WA W)(g mask:Int):O7 (Qn W g mask)=true/\Qn W g mask≠0:=by
 unfold Qn;split
 ·rename_i h; exact⟨zbt _ _,h⟩
 ·split
  ·rename_i h;refine⟨?_,h⟩;exact z2p _ _ _
  ·exact⟨z0p ha.c2,ha.ups⟩
theorem Ly{W:Q8}(ha:WA W)(g mask:Int):0<=O3 (Qn W g mask)/\O3 (Qn W g mask)<(W.ID.length:Int):=by
 have h:=Kh ha g mask;exact KE ha (BD h.1 h.2)
def Mh(W:Q8)(t:Int):Bool:=((Q6 W t).state != 0) && !Z1 (Qn W (Q6 W t).group (Q6 W t).mask) (Q6 W t).J'
def XY(W:Q8):Nat->Q8
 | 0=>W
 | t+1=>if Mh (XY W t) (t:Int)=true then Uq (XY W t) (t:Int) (Q6 (XY W t) (t:Int)).group (O3 (Qn (XY W t) (Q6 (XY W t) (t:Int)).group (Q6 (XY W t) (t:Int)).mask)) else XY W t
def Lq(W:Q8):Q8:=XY W 12
structure C3 (W W':Q8):Prop where
 n:W'.now=W.now
 c:W'.ID.length=W.ID.length
 t:W'.tasks.length=W.tasks.length
 g:W'.IC=W.IC
theorem C3.refl(W:Q8):C3 W W:=⟨rfl,rfl,rfl,rfl⟩
theorem C3.trans{A B C:Q8}(h:C3 A B)(k:C3 B C):C3 A C:=⟨k.n.trans h.n,k.c.trans h.c,k.t.trans h.t,k.g.trans h.g⟩
theorem C3.put(W:Q8)(t g c:Int):C3 W (Uq W t g c):=by
 obtain⟨h1,h2,h3,h4⟩:=zxl W t g c;exact⟨h1,h2,h3,h4⟩
theorem zb0{F K:Int}{W:Q8}(h:SF F K W)(hk:F+Qj<=K):∀t:Nat,t<=12->SF F K (XY W t)/\C3 W (XY W t)
 | 0,_=>⟨h,C3.refl _⟩
 | t+1,ht=>by
  obtain⟨a,b⟩:=zb0 h hk t Qo;simp only[XY];split
  ·rename_i hm;unfold Mh at hm;simp only[A',It,ne_eq] at hm;have hg:=a.w.t (t:Int) Qo Qo hm.1;have hf:=Ly a.w.a (Q6 (XY W t) (t:Int)).group (Q6 (XY W t) (t:Int)).mask;exact⟨(BU a hk Qo Qo hg.1 hf.1 hf.2).2,b.trans (C3.put _ _ _ _)⟩
  ·exact⟨a,b⟩
theorem G4{F K:Int}{W:Q8}(h:SF F K W)(hk:F+Qj<=K):SF F K (Lq W)/\C3 W (Lq W):=zb0 h hk 12 (I7 _)
end Go.Proofs.YtnclplgaicdapaaGreatDoor
