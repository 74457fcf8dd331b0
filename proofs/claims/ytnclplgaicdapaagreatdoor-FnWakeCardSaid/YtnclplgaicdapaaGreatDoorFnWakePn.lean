/- Part 14 of what the law FnWake needs. -/
import Derived.Test.YtnclplgaicdapaaGreatDoorFnWakePm
set_option linter.unusedVariables false
set_option linter.unusedSimpArgs false
set_option maxRecDepth 100000
set_option maxHeartbeats 8000000
namespace Go.Proofs.YtnclplgaicdapaaGreatDoor
open Go.RowKit
theorem zb2(W:Q8)(t g c:Int):Oc W (Uq W t g c):=by
 unfold Uq;split
 ·exact(zq5 _ _ _).trans (G6 _ _)
 ·exact zq5 _ _ _
theorem zqt{W:Q8}(hl:W.tasks.length=12){t g c:Int}(t0:0<=t)(t1:t<12){i:Int}(i0:0<=i):Q6 (Uq W t g c) i=if t=i then Te W t g c else Q6 W i:=by
 have e:Q6 (IM W t (Te W t g c)) i=if t=i then Te W t g c else Q6 W i:=QO _ _ t0 Qo i0;unfold Uq;split
 ·exact e
 ·exact e
theorem zsn{W:Q8}(p:O6 W):∀k:Nat,k<=12->O6 (XY W k)/\Oc W (XY W k)/\(∀t:Int,0<=t->t<(k:Int)->(Q6 (XY W k) t).state≠0->Z1 (Qn (XY W k) (Q6 (XY W k) t).group (Q6 (XY W k) t).mask) (Q6 (XY W k) t).J'=true)
 | 0,_=>⟨p,Oc.refl _,λt a b=>by omega⟩
 | k+1,hk=>by
  obtain⟨a,b,d⟩:=zsn p k Qo;simp only[XY];generalize XY W k=V at a b d;have hl:=a.a.t;split
  ·rename_i hm;unfold Mh at hm;simp only[A',It,ne_eq] at hm;have h:=Pc a (t:=(k:Int)) Qo Qo hm.1;have hf:=Ly a.a (Q6 V (k:Int)).group (Q6 V (k:Int)).mask;have hw:=Kh a.a (Q6 V (k:Int)).group (Q6 V (k:Int)).mask;refine⟨zfo a Qo Qo hm.1 h.g hf.1 hf.2,b.trans (zb2 _ _ _ _),λt t0 t1 n=>?_⟩;rw[(zb2 V _ _ _).wh];rw[zqt hl Qo Qo t0] at n ⊢
   split at n
   ·rename_i he;rw[C' he];exact BD hw.1 hw.2
   ·rename_i he;rw[B' he];exact d t t0 Qo n
  ·rename_i hm;refine⟨a,b,λt t0 t1 n=>?_⟩
   by_cases he:t=(k:Int)
   ·subst he;have hm:Mh V (k:Int)=false:=by simpa using hm
    unfold Mh at hm;rw[show ((Q6 V (k:Int)).state != 0)=true by simpa using n,Bool.true_and] at hm
    simpa using hm
   ·exact d t t0 Qo n
theorem zb1{W:Q8}(sf:SF Qq (Qq+Qj) W)(p:O6 W):Jw (Qh (Lq W)):=by
 obtain⟨a,b,d⟩:=zsn p 12 (I7 _);exact ZC (G4 sf (I2 _)).1.w (by simp only[Qj]; decide) (by simp only[Qj,Vu]; decide) a d
theorem zr4{W:Q8}{t x:Int}(hW:QB W=true)(hb:VE W t x=0):Jw (zfn W t x):=by
 have wp:=Qm.1 hW;obtain⟨h1,_,sf⟩:=zmi hW hb;obtain⟨t0,t1,tn⟩:=Y0 h1;have hl:=wp.a.t;have p:=XN wp;have h:=Pc p t0 Qo tn
 have hx:O7 x=true/\x≠0:=by
  unfold VE at hb
  split at hb
  ·cases hb
  ·rename_i hn;exact⟨by cases hm:O7 x with | true=>rfl | false=>exact Ir (.inl hm) hn,λe=>hn (.inr e)⟩
 refine zb1 sf (p.IM t0 Qo (.inr ⟨tn,⟨h.st,h.g,h.n,hx.1,hx.2,h.s,h.u,h.l1,h.l2,h.f⟩,p.l t t0 Qo tn⟩) λc c0 c1 sA h1 h2=>?_);have hc:=(p.c c c0 c1).q (by rw[sA]; omega);rw[sA] at hc;exact hc h1 h2
theorem zzj{W:Q8}{g x:Int}(hW:QB W=true)(hb:zns W g x=0):Jw (zwf W g x):=by
 have wp:=Qm.1 hW;obtain⟨hu,_,_,sf,hT⟩:=zwg hW hb;exact zb1 sf ((XN wp).same sf.w.a rfl rfl hT (zq1 rfl))
theorem Fu.gr{W W':Q8}{x:KW}(h:Fu W x)(e:W'.IC=W.IC):Fu W' x:=
 ⟨h.st,by rw[e]; exact h.g,h.n,h.m,h.m0,h.s,h.u,h.l1,h.l2,λhs=>by unfold Qc; rw[e]; exact h.f hs⟩
theorem z11{W:Q8}{c:Int}(hW:QB W=true)(hb:T0 W c false 0=0):Jw (z3s W c):=by
 have wp:=Qm.1 hW;obtain⟨c0,c1,_,sf⟩:=z09 hW hb;have p:=XN wp;refine zb1 sf ⟨⟨sf.w.a,λt t0 t1=>(p.t t t0 t1).imp id λh=>⟨h.1,h.2.gr rfl⟩,λt t0 t1 n=>?_,λk d hk d0 d1=>?_⟩,λd d0 d1=>?_⟩
 ·have:=p.l t t0 t1 n;show _/\_<(((W.ID.set c.toNat _).length:Nat):Int);rw[E']; exact this
 ·have d1:d<(((W.ID.set c.toNat (Gm (gi W.ID c) true)).length:Nat):Int):=d1;rw[E'] at d1;exact(p.s k d hk d0 d1).Bd9 rfl λ_=>rfl
 ·have d1:d<(((W.ID.set c.toNat (Gm (gi W.ID c) true)).length:Nat):Int):=d1;rw[E'] at d1;have h:=p.c d d0 d1;have e:gi (Se W c (Gm (gi W.ID c) true)).ID d=if c=d then Gm (gi W.ID c) true else gi W.ID d:=QO _ _ c0 c1 d0
  have eb:(gi (Se W c (Gm (gi W.ID c) true)).ID d).cur=(gi W.ID d).cur/\(gi (Se W c (Gm (gi W.ID c) true)).ID d).WV=(gi W.ID d).WV/\(gi (Se W c (Gm (gi W.ID c) true)).ID d).busy=(gi W.ID d).busy/\(gi (Se W c (Gm (gi W.ID c) true)).ID d).idle=(gi W.ID d).idle/\((gi W.ID d).up=true->(gi (Se W c (Gm (gi W.ID c) true)).ID d).up=true):=by
   rw[e];split
   ·rename_i he; subst he; exact⟨rfl,rfl,rfl,rfl,λ_=>rfl⟩
   ·exact⟨rfl,rfl,rfl,rfl,id⟩
  obtain⟨e1,e2,e3,e4,e5⟩:=eb;refine⟨by rw[e3]; exact h.b,by rw[e4]; exact h.i,by rw[e1]; exact h.c1,by rw[e1]; exact h.c2,by rw[e1,e2]; exact h.no,λh0=>?_,?_⟩
  ·rw[e1] at h0;have:=h.yes h0;exact⟨e5 this.1,by rw[e2]; exact this.2⟩
  ·rw[e1,e2]; exact h.q
theorem zzm{W:Q8}{c:Int}(hW:QB W=true)(hb:T0 W c true (Hz W)=0):Jw (zw9 W c):=by
 have wp:=Qm.1 hW;obtain⟨c0,c1,_,sf⟩:=zxa hW hb;have p:=XN wp;have hl:(Se W c (Gm (gi W.ID c) false)).ID.length=W.ID.length:=E';have sfE:=sf.Rp c0 (by rw[hl]; exact c1)
 have hcs:Rp (Se W c (Gm (gi W.ID c) false)) c=Se W c (Js (Gm (gi W.ID c) false)):=by
  have e:gi (Se W c (Gm (gi W.ID c) false)).ID c=Gm (gi W.ID c) false:=(QO _ _ c0 c1 c0).trans (C' rfl);unfold Rp;rw[e];simp[Se,List.set_set]
 show Jw (Qh (Lq (Rp (Se W c (Gm (gi W.ID c) false)) c)));rw[hcs] at sfE ⊢;refine zb1 sfE ⟨⟨sfE.w.a,λt t0 t1=>(p.t t t0 t1).imp id λh=>⟨h.1,h.2.gr rfl⟩,λt t0 t1 n=>?_,λk d hk d0 d1=>?_⟩,λd d0 d1=>?_⟩
 ·have:=p.l t t0 t1 n;show _/\_<(((W.ID.set c.toNat _).length:Nat):Int);rw[E']; exact this
 ·have d1:d<(((W.ID.set c.toNat (Js (Gm (gi W.ID c) false))).length:Nat):Int):=d1;rw[E'] at d1;exact(p.s k d hk d0 d1).Bd9 rfl λ_=>rfl
 ·have d1:d<(((W.ID.set c.toNat (Js (Gm (gi W.ID c) false))).length:Nat):Int):=d1;rw[E'] at d1;have h:=p.c d d0 d1;have e:gi (Se W c (Js (Gm (gi W.ID c) false))).ID d=if c=d then Js (Gm (gi W.ID c) false) else gi W.ID d:=QO _ _ c0 c1 d0
  by_cases he:c=d
  ·subst he;have e:=e.trans (C' rfl);refine⟨by rw[e]; exact h.b,by rw[e]; exact h.i,by rw[e]; show (-1:Int)<=-1; decide,by rw[e]; show (-1:Int)<12; decide,λ_=>by rw[e]; rfl,λh0=>?_,λh0=>?_⟩
   ·rw[e] at h0;have h0:(0:Int)<=-1:=h0;omega
   ·rw[e] at h0;have h0:(0:Int)<=-1:=h0;omega
  ·have e:=e.trans (B' he);exact⟨by rw[e]; exact h.b,by rw[e]; exact h.i,by rw[e]; exact h.c1,by rw[e]; exact h.c2,by rw[e]; exact h.no,by rw[e]; exact h.yes,by rw[e]; exact h.q⟩
def zf8(W:Q8)(g c x:Int):GO:={ Qc W g c with v:=if (Qc W g c).on=true then (Qc W (gi W.IC g).parent c).floor+Yk ((Qc W g c).v-(Qc W (gi W.IC g).parent c).floor) x else (Qc W g c).v,w:=x }
def zmy(W:Q8)(g c:Int):Bool:=decide ((gi W.ID c).cur>=0)&&Og 3 W.IC g (Q6 W (gi W.ID c).cur).group
def UF(W:Q8)(g c x:Int):Q8:=RF W g c (zf8 W g c x)
def G7(W:Q8)(g c x:Int):Q8:=if (Qc W g c).w=x then W else if zmy (UF W g c x) g c=true then Rp (UF W g c x) c else UF W g c x
def Em(W:Q8):Prop:=∀c:Int,0<=c->c<(W.ID.length:Int)->(gi W.ID c).cur>=0->Q7 W.IC (Q6 W (gi W.ID c).cur).group=true
theorem zrt{W:Q8}(wp:Jq W):Em W:=λc c0 c1 h=>by
 have hc:=wp.c c c0 c1;have hy:=hc.yes h;have hl:=hy.2.2.2.2.1;have c2:=hc.c2;have ht:=wp.a.t;unfold ZL at hl;simp only[A',Is] at hl;rcases wp.t (gi W.ID c).cur h Qo with h1 | h1
 ·rw[h1.1] at hl; exact Ir hl.1 Qd
 ·exact h1.2.g
theorem Em.RF{W:Q8}(h:Em W){g c:Int}{s:GO}(u0:0<=g)(u1:g<(W.IC.length:Int)):Em (RF W g c s):=λd d0 d1 hc=>by
 rw[(Jm u0 u1).eB];exact h d d0 d1 hc
theorem Em.Rp{W:Q8}(h:Em W){c:Int}(c0:0<=c)(c1:c<(W.ID.length:Int)):Em (Rp W c):=λd d0 d1 hc=>by
 have d1:d<(((W.ID.set c.toNat (Js (gi W.ID c))).length:Nat):Int):=d1;rw[E'] at d1;have hg:gi (YtnclplgaicdapaaGreatDoor.Rp W c).ID d=if c=d then Js (gi W.ID c) else gi W.ID d:=QO _ _ c0 c1 d0;rw[hg] at hc ⊢
 split at hc
 ·exact Ir hc (by show ¬(-1:Int)>=0; decide)
 ·rename_i hn;rw[B' hn];exact h d d0 d1 hc
theorem z0q{F K:Int}{W:Q8}(h:SF F K W)(hk:F+Qj<=K){g c x:Int}(hu:Q7 W.IC g=true)(hz:g≠0)(c0:0<=c)(c1:c<(W.ID.length:Int))(x1:1<=x)(x2:x<=20):SF F K (UF W g c x):=by
 have hp:=h.w.a.up hu hz;have s1:=h.w.s g c hu c0 c1;have s2:=h.w.s _ c hp c0 c1;have f1:=h.f g c hu c0 c1;have f2:=h.f _ c hp c0 c1;have lc:=ZY ((Qc W g c).v-(Qc W (gi W.IC g).parent c).floor) x;have lm:=Yb x;refine h.RF hu c0 c1 s1.1 f1 (by show (Qc W g c).floor<=K; omega) ?_ ?_ x1 x2
 ·simp only[zf8]; split <;> omega
 ·simp only[zf8]; simp only[Qj] at hk; split <;> omega
theorem zs6{F K:Int}{W:Q8}(h:SF F K W)(hk:F+Qj<=K)(hc:Em W){g c x:Int}(hu:Q7 W.IC g=true)(hz:g≠0)(c0:0<=c)(c1:c<(W.ID.length:Int))(x1:1<=x)(x2:x<=20):SF F K (G7 W g c x)/\Fr W (G7 W g c x)/\Em (G7 W g c x):=by
 obtain⟨u0,u1,_⟩:=Q4.1 hu;have hv:=z0q h hk hu hz c0 c1 x1 x2;have hf:Fr W (UF W g c x):=(Tm u0 u1).fr;have hc2:Em (UF W g c x):=hc.RF u0 u1;unfold G7;split
 ·exact⟨h,Fr.refl _,hc⟩
 ·split
  ·exact⟨hv.Rp c0 c1,hf.trans (zdv _ _),hc2.Rp c0 c1⟩
  ·exact⟨hv,hf,hc2⟩
def D2(W:Q8)(g x:Int):Nat->Q8
 | 0=>W
 | c+1=>G7 (D2 W g x c) g (c:Int) x
theorem zmz{F K:Int}{W:Q8}(h:SF F K W)(hk:F+Qj<=K)(hc:Em W){g x:Int}(hu:Q7 W.IC g=true)(hz:g≠0)(x1:1<=x)(x2:x<=20):∀c:Nat,c<=W.ID.length->SF F K (D2 W g x c)/\Fr W (D2 W g x c)/\Em (D2 W g x c)
 | 0,_=>⟨h,Fr.refl _,hc⟩
 | c+1,hn=>by
  obtain⟨a,b,d⟩:=zmz h hk hc hu hz x1 x2 c Qo;obtain⟨a2,b2,d2⟩:=zs6 a hk d (g:=g) (c:=(c:Int)) (x:=x) (by rw[b.g.eB]; exact hu) hz Qo (by rw[b.c]; omega) x1 x2;exact⟨a2,b.trans b2,d2⟩
def Lx(W:Q8)(g x:Int):ZX:={ gi W.IC g with weight:=x }
noncomputable def zpc(W:Q8)(g x:Int):Int:=KI W g (X6 x 1 20)
def zyg(W:Q8)(g x:Int):Q8:=Qh (D2 (Rm W g (Lx W g x)) g x W.ID.length)
theorem zyh{W:Q8}{g x:Int}(hW:QB W=true)(hb:zpc W g x=0):X6 x 1 20=true/\g≠0/\Q7 W.IC g=true/\QK W=true/\SF Qq (Qq+Qj) W/\SF Qq (Qq+Qj) (Rm W g (Lx W g x))/\Em (Rm W g (Lx W g x))/\Z7 W.IC (Rm W g (Lx W g x)).IC:=by
 obtain⟨h1,h2,h3,h4⟩:=zlq hb;have wp:=Qm.1 hW;have sw:=Mi wp (Qm.1 h4);obtain⟨u0,u1,hg⟩:=wp.a.u h3;have hx:=Qx.1 h1;have hl:=wp.a.gl;have s1:=sw.Rm (x:=Lx W g x) h3 rfl rfl rfl rfl ⟨hx.1,hx.2,hg.m,hg.m0,hg.s,hg.len,λh=>Ir h h2,hg.none,hg.IS⟩;have hT:Z7 W.IC (Rm W g (Lx W g x)).IC:=Uj u0 Qo rfl rfl rfl;refine⟨h1,h2,h3,h4,sw.sf.mono (I2 _) (by simp only[Qj]; decide),s1.sf.mono (I2 _) (by simp only[Qj]; decide),λd d0 d1 hc=>?_,hT⟩;rw[hT.eB];exact zrt wp d d0 d1 hc
theorem zye{gs:List ZX}(ht:Ye gs){g h:Int}(u1:Q7 gs g=true)(u2:Q7 gs h=true):M6 gs g h=Og 3 gs g h:=by
 unfold M6;rw[u1,u2,show Ku gs=true from @Ih _ (Classical.propDecidable _) ht];rfl
section
variable {base:Nat}{W W':Q8}{m:MW}{w:Wo}{bar:Int}
theorem Le{F K:Int}(h:Zj 8 base w W m)(gJ:SF F K W)(hk:F+Qj<=K)(hK:K<=1000000000000000000)(hcu:Em W){g c x:Int}(hu:Q7 W.IC g=true)(hz:g≠0)(c0:0<=c)(c1:c<(W.ID.length:Int)) :
  Cz Uw #[.agg (Qb W m).toArray,I g,I c,I x] w λe w'=>e=.returned (.agg (Qb W m).toArray)/\Mv 8 base [] w m w' (G7 W g c x) m:=by
 refine(NT _ _ _ _ _ _ _ _ _ _ g c x (R:=λv w'=>v=.agg (Qb W m).toArray/\Mv 8 base [] w m w' (G7 W g c x) m) ?_).mono λe w' ⟨v,he,hv,h3⟩=>⟨by rw[he,hv],h3⟩
 intro y hy y1 aR;obtain⟨u0,u1,_⟩:=Q4.1 hu;have dD:=gJ.w.a.gl;have fZ:=gJ.w.a.t;have hsl:=gJ.w.a.sl hu;have hp:=gJ.w.a.up hu hz;obtain⟨p0,p1,_⟩:=Q4.1 hp;have hpl:=gJ.w.a.sl hp;have s1:=gJ.w.s g c hu c0 c1;have s2:=gJ.w.s _ c hp c0 c1;have lc:=ZY ((Qc W g c).v-(Qc W (gi W.IC g).parent c).floor) x;have lm:=Yb x;have hM:=Mv.two h hy aR;have hr:=(Mv.start h).rd;have W8:=hr.g.ix (i:=g) u0 u1;have AN8:=(hr.g.IE g u0 u1).ix X7 c0 Qo;have hcx:=hr.c.ix Yh c0 c1;have vV:=z34 h Qs (i:=g) (bs:=[]) u0 Qo c0 Qo (j:=0) (k:=5) Qd;have hcr:=gJ.w.cu c c0 c1;have rX:decide ((gi W.ID c).cur>=0)=true->(gi W.ID c).cur<(W.tasks.length:Int):=λ_=>by omega
 have hT:Z7 W.IC (UF W g c x).IC:=Jm u0 u1
 have hE:(decide ((gi W.ID c).cur>=0)&&M6 (UF W g c x).IC g (gi W.tasks (gi W.ID c).cur).group)=zmy (UF W g c x) g c:=by
  unfold zmy;show _=(decide ((gi W.ID c).cur>=0)&&Og 3 (UF W g c x).IC g (Q6 W (gi W.ID c).cur).group)
  by_cases hc:(gi W.ID c).cur>=0
  ·rw[zye (hT.tree gJ.w.a.tree) (by rw[hT.eB]; exact hu) (by rw[hT.eB]; exact hcu c c0 c1 hc)]; rfl
  ·rw[decide_eq_false hc]; rfl
 have hlen:(UF W g c x).IC.length=W.IC.length:=hT.len;have wD:Fr W (UF W g c x):=(Tm u0 u1).fr;have eW:Qb (UF W g c x) m=Qb W m:=UZ wD;have eE:Qb (Rp (UF W g c x) c) m=Qb W m:=UZ (wD.trans (zdv _ _));refine⟨W8,_,_,_,hr.g.Ry u0 u1,AN8,_,_,_,_,_,(hr.g.IE g u0 u1) c c0 Qo,λb2 bR=>⟨λg1 wr hx=>⟨rfl,?_⟩,λg1=>⟨λg2=>?_,λg2=>?_⟩⟩⟩
 ·have g1:(Qc W g c).w=x:=Iy g1;unfold G7;rw[C' g1];exact(Mv.start h).M' hx
 ·have hss:zf8 W g c x=⟨(Qc W g c).floor,(Qc W g c).on,(Qc W (gi W.IC g).parent c).floor+Yk ((Qc W g c).v-(Qc W (gi W.IC g).parent c).floor) x,x,(Qc W g c).sum⟩:=by
   unfold zf8;rw[C' (show (Qc W g c).on=true from g2)]
  have Sk:=zer gJ h hk hu rfl c0 c1 (zf8 W g c x);rw[hss] at Sk;have T':=((hM.add bR).Sl Sk (zms Qo));have hV:RF W g c ⟨(Qc W g c).floor,(Qc W g c).on,(Qc W (gi W.IC g).parent c).floor+Yk ((Qc W g c).v-(Qc W (gi W.IC g).parent c).floor) x,x,(Qc W g c).sum⟩=UF W g c x:=by unfold UF; rw[hss]
  rw[hV] at T';have uJ:=T'.rd;have B70:=T'.close;have bQ:=B70.rd;refine⟨W8,_,hr.g.parent u0 u1,hr.g.ix p0 p1,_,_,_,hr.g.Ry p0 p1,(hr.g.IE _ p0 p1).ix X7 c0 Qo,_,zpf.f (hr.g.IE _ p0 p1) c0 Qo (j:=0) rfl,⟨by show _<=(Qc W g c).v-(Qc W (gi W.IC g).parent c).floor; omega,by show (Qc W g c).v-(Qc W (gi W.IC g).parent c).floor<=_; omega⟩,_,KO,⟨by show _<=(Qc W (gi W.IC g).parent c).floor+Yk ((Qc W g c).v-(Qc W (gi W.IC g).parent c).floor) x; omega,by show (Qc W (gi W.IC g).parent c).floor+Yk ((Qc W g c).v-(Qc W (gi W.IC g).parent c).floor) x<=_; omega⟩,W8,_,_,_,hr.g.Ry u0 u1,AN8,vV,hcx,(gi W.ID c).cur,?_⟩;refine⟨z28.f bQ.c c0 c1 (j:=1) rfl,λgc=>bQ.t.ix QG (Ot gc) (rX gc),_,λgc=>zu6.f bQ.t (Ot gc) (rX gc) (j:=1) rfl,_,λgc=>by rw[<-hlen]; exact OU bQ.g (by have:=Zg; omega),λgc I' R3 gI=>?_,λgc Rj R3=>?_⟩
  ·have he:zmy (UF W g c x) g c=true:=by rw[<-hE]; exact gc
   have cJ:=T'.step (R3.of_nil);have Rt:=ZG cJ.own c0 c1;rw[eW,eE] at Rt;refine I3 Rt ?_;rintro e wv ⟨eH,Sm⟩;refine⟨_,_,_,_,_,_,_,_,_,_,eH,cJ.kept Sm gI,λO' Si=>⟨rfl,?_⟩⟩;unfold G7;rw[B' (show ¬(Qc W g c).w=x from ne_of_beq_false g1),C' he];exact((cJ.call Sm gI).step Si).close
  ·have he:zmy (UF W g c x) g c=false:=by rw[<-hE]; exact gc
   refine⟨rfl,?_⟩;unfold G7;rw[B' (show ¬(Qc W g c).w=x from ne_of_beq_false g1),B' (by rw[he]; decide)];exact(T'.step R3.of_nil).close
 ·have hss:zf8 W g c x=⟨(Qc W g c).floor,(Qc W g c).on,(Qc W g c).v,x,(Qc W g c).sum⟩:=by
   unfold zf8;rw[B' (by rw[show (Qc W g c).on=false from g2]; decide)]
  have Sk:=zer gJ h hk hu rfl c0 c1 (zf8 W g c x);rw[hss] at Sk;have T':=((hM.add bR).Sl Sk (zms Qo));have hV:RF W g c ⟨(Qc W g c).floor,(Qc W g c).on,(Qc W g c).v,x,(Qc W g c).sum⟩=UF W g c x:=by unfold UF; rw[hss]
  rw[hV] at T';have uJ:=T'.rd;have B70:=T'.close;have bQ:=B70.rd;refine⟨W8,_,_,_,hr.g.Ry u0 u1,AN8,vV,hcx,(gi W.ID c).cur,?_⟩;refine⟨z28.f bQ.c c0 c1 (j:=1) rfl,λgc=>bQ.t.ix QG (Ot gc) (rX gc),_,λgc=>zu6.f bQ.t (Ot gc) (rX gc) (j:=1) rfl,_,λgc=>by rw[<-hlen]; exact OU bQ.g (by have:=Zg; omega),λgc I' R3 gI=>?_,λgc Rj R3=>?_⟩
  ·have he:zmy (UF W g c x) g c=true:=by rw[<-hE]; exact gc
   have cJ:=T'.step (R3.of_nil);have Rt:=ZG cJ.own c0 c1;rw[eW,eE] at Rt;refine I3 Rt ?_;rintro e wv ⟨eH,Sm⟩;refine⟨_,_,_,_,_,_,_,_,_,_,eH,cJ.kept Sm gI,λO' Si=>⟨rfl,?_⟩⟩;unfold G7;rw[B' (show ¬(Qc W g c).w=x from ne_of_beq_false g1),C' he];exact((cJ.call Sm gI).step Si).close
  ·have he:zmy (UF W g c x) g c=false:=by rw[<-hE]; exact gc
   refine⟨rfl,?_⟩;unfold G7;rw[B' (show ¬(Qc W g c).w=x from ne_of_beq_false g1),B' (by rw[he]; decide)];exact(T'.step R3.of_nil).close
theorem Br{g x:Int}(h:XF [] w W m)(hl:UG W) :
  Cz T7 #[.agg (Qb W m).toArray,I g,I x] w λe w'=>∃v,e=.returned v/\QL (Yv W (zpc W g x) (zyg W g x)) w v w':=by
 refine B8 _ _ _ _ _ _ _ _ _ _ g x (R:=λv w'=>QL (Yv W (zpc W g x) (zyg W g x)) w v w') ?_;intro y hy y1 aR;refine⟨_,Ud,λwr R0 SR=>?_⟩;refine I3 (VU (g:=g) (ok:=X6 x 1 20) (h.ext R0) hl) ?_;rintro e wv (⟨hW,he,Sm⟩ | ⟨hW,m',he,hM,Sm⟩)
 ·exact⟨_,_,_,_,_,_,_,_,_,_,_,he,Qf Sm SR,λ_ I' R3=>QL.bad hW ((R0.trans Sm).fresh R3 λz hm=>.inl (X4 hy aR z hm)),λg=>by simp at g⟩
 have hK:=Wk.begin hy aR R0 SR hM Sm;refine⟨_,_,_,_,_,_,_,_,_,_,_,he,Qf Sm SR,λg1 I' R3=>QL.no hW (by simpa[zpc] using g1) (hK.step R3) rfl,λg1=>?_⟩;have hb:zpc W g x=0:=by simpa[zpc] using g1
 have hr:=hK.rd;obtain⟨Co1,hz,hu,AD5,_,sf,hcu,hT⟩:=zyh hW hb;have hxr:=Qx.1 Co1;obtain⟨u0,u1,_⟩:=Q4.1 hu;have dD:W.IC.length=8:=by have:=sf.w.a.gl; rwa[hT.len] at this
 have W8:=hr.g.ix (i:=g) u0 u1;have Sk:Wk 8 [y,y1] w (R5 wv m'.gO (Int.toNat g*14+3) [I x]) (Rm W g (Lx W g x)) m':=hK.R5 (hK.own.A23 u0 Qo (g:=Lx W g x) rfl rfl rfl (j:=3) (vs:=[I x]) rfl Qs) zbf;have vV:=zs7 hK.own hK.nb (i:=g) u0 Qo (j:=3) (k:=1) Qd;have e0:Qb (Rm W g (Lx W g x)) m'=Qb W m':=by simp[Qb,Rm]
 have huV:Q7 (Rm W g (Lx W g x)).IC g=true:=by rw[hT.eB]; exact hu
 have tL:(Rm W g (Lx W g x)).ID.length=W.ID.length:=rfl;have hE:zyg W g x=Qh (D2 (Rm W g (Lx W g x)) g x W.ID.length):=rfl;rw[hE];have hc4:=sf.w.a.c2;generalize Rm W g (Lx W g x)=V at Sk sf hcu hT e0 huV tL hc4;refine⟨W8,vV,λvs w1=>∃(k:Nat),vs=I (k:Int)::Qb W m'/\k<=W.ID.length/\Wk 8 [y,y1] w w1 (D2 V g x k) m',Zx W.ID.length 0,λw1 tZ _=>⟨0,rfl,Ic _,Sk.step tZ⟩,?_⟩;rintro c1 l RV Sa Sg S3 Sd Sf S4 S5 S8 Rr gI ⟨k,aM,hk,gV⟩;obtain⟨hS,hf,hc2⟩:=zmz sf (I2 _) hcu huV hz hxr.1 hxr.2 k Qo;have SP:D2 V g x (k+1)=G7 (D2 V g x k) g (k:Int) x:=rfl;have nO:k=W.ID.length->D2 V g x W.ID.length=D2 V g x k:=λe=>by rw[e]
 have eU:Qb (D2 V g x k) m'=Qb W m':=(UZ hf).trans e0;have hcU:=hf.c;have huU:Q7 (D2 V g x k).IC g=true:=by rw[hf.g.eB]; exact huV
 simp only[Qb,I4,I5,Iv,true_and,and_true] at aM;obtain⟨rfl,rfl,⟨rfl,rfl,rfl⟩,⟨rfl,rfl,rfl⟩,rfl,rfl,rfl⟩:=aM;generalize D2 V g x k=U at gV hS hf hc2 SP nO eU hcU huU;refine⟨λIT Rj R3 fT=>?_,λRC RE Sb hZ=>?_⟩
 ·have IT:=Ot IT;have rY:=gV.step R3;have Rt:=Le rY.own hS (I2 _) (by simp only[Qj]; decide) hc2 (g:=g) (c:=(k:Int)) (x:=x) huU hz Qo Qo;rw[eU] at Rt;refine I3 Rt ?_;rintro e RO ⟨fS,dG⟩;refine⟨_,_,_,_,_,_,_,_,_,_,fS,rY.kept dG fT,⟨Qo,Qo⟩,λRn Si _=>⟨⟨k+1,rfl,Qo,?_⟩,?_⟩⟩
  ·rw[SP];exact(rY.Sl dG fT).step Si
  ·simp only[Zx,Xm,ZP,Ie]; omega
 ·have RC:=Ou RC;rw[nO Qo];have fG:=gV.step Sb;have Rt:=Qy fG.own hS.w (by simp only[Qj]; decide) (by simp only[Qj]; decide) fG.base;rw[eU] at Rt;refine I3 Rt ?_;rintro e2 Rr ⟨m2,aM,Sm⟩;exact⟨_,_,_,_,_,_,_,_,_,_,aM,fG.kept Sm hZ,λRn Sb=>QL.ok hW hb ((fG.Sl Sm hZ).step Sb)⟩
section
variable {pb:Nat}
end
end
def z3l(W:Q8)(t b c:Int):Bool:=(BB W c==0)||decide (BB W c+Qe (Q6 W t).nice<=BB W b-Qe (Q6 W t).nice)
def zix(W:Q8)(b c:Int)(t:Nat):Bool:=(((Q6 W (t:Int)).J'==b)&&Vm W (t:Int) c)&&z3l W (t:Int) b c
def PB(W:Q8)(b c:Int):Nat->Nat->Int
 | 0,_ => -1
 | f+1,j=>if zix W b c j=true then (j:Int) else PB W b c f (j+1)
theorem ztt{W:Q8}{b c:Int}{f j:Nat}(h:zix W b c j=true):PB W b c (f+1) j=(j:Int):=C' h
theorem zp5{W:Q8}{b c:Int}{f j:Nat}(h:zix W b c j=false):PB W b c (f+1) j=PB W b c f (j+1):=B' (by rw[h]; decide)
noncomputable def zoj(W:Q8)(c:Int):Nat->Nat->Int
 | 0,_ => -1
 | f+1,k=>if Ps W c (k:Int)<0 then zoj W c f (k+1) else if PB W (Ps W c (k:Int)) c 12 0<0 then zoj W c f (k+1) else PB W (Ps W c (k:Int)) c 12 0
noncomputable def Lo(W:Q8)(c:Int):Int:=zoj W c (zbs (W.ID.length:Int)).toNat 0
theorem zol{W:Q8}{c:Int}{f k:Nat}(h:Ps W c (k:Int)<0):zoj W c (f+1) k=zoj W c f (k+1):=C' h
theorem zok{W:Q8}{c:Int}{f k:Nat}(h:PB W (Ps W c (k:Int)) c 12 0<0):zoj W c (f+1) k=zoj W c f (k+1):=by
 simp only[zoj]
 by_cases h0:Ps W c (k:Int)<0
 ·rw[C' h0]
 ·rw[B' h0,C' h]
theorem zom{W:Q8}{c:Int}{f k:Nat}(h0:¬Ps W c (k:Int)<0)(h:¬PB W (Ps W c (k:Int)) c 12 0<0):zoj W c (f+1) k=PB W (Ps W c (k:Int)) c 12 0:=by
 simp only[zoj];rw[B' h0,B' h]
theorem zet{W:Q8}(wp:Jq W)(c:Int):0<=BB W c/\BB W c<=240:=by
 have:=Th (AU W c) W.tasks.length;have ht:=wp.a.t;unfold BB;omega
section
variable {W:Q8}{m:MW}{w:Wo}{bs:List Nat}{p:OA}
theorem zek{t b c:Int}(h:XF bs w W m)(wp:Jq W)(t0:0<=t)(t1:t<(W.tasks.length:Int)):PX bs PU #[.agg (Qb W m).toArray,I t,I b,I c] w (.bool (z3l W t b c)):=
 zfb _ _ _ _ _ _ _ _ _ _ t b c λwr hx=>by
  have h:=(h.ext hx).less (cs:=[]) Qs;have r1:=zet wp c;have r2:=zet wp b;have r3:0<=Qe (gi W.tasks t).nice/\Qe (gi W.tasks t).nice<=20:=JN _;exact λ_ _=>⟨_,TY h wp,h.t.ix QG t0 t1,_,h.t.f t0 t1 (j:=3) rfl,_,ZA,λ_=>⟨Qo,Qo⟩,_,λ_=>TY h wp,λ_=>⟨Qo,Qo⟩,rfl⟩
theorem zel{c:Int}(h:XF bs w W m)(wp:Jq W)(c0:0<=c)(c1:c<(W.ID.length:Int)):PX bs PV #[.agg (Qb W m).toArray,I c] w (I (Lo W c)):=
 zfd _ _ _ _ _ _ _ _ _ _ c λwr hx=>by
  have h:=(h.ext hx).less (cs:=[]) Qs;have hlv:=zsb (W.ID.length:Int);have fZ:=wp.a.t;intro _ _;refine J1 2 0 rfl (λk=>(k:Int)<=zbs (W.ID.length:Int)/\zoj W c ((zbs (W.ID.length:Int)).toNat-k) k=Lo W c) ⟨hlv.1,rfl⟩ λk ⟨hk,hI⟩=>⟨_,Mg,λIT=>?_,λRC=>?_⟩
  ·have IT:=Ot IT;have ek:(zbs (W.ID.length:Int)).toNat-k=((zbs (W.ID.length:Int)).toNat-(k+1))+1:=Qo;rw[ek] at hI;have nxt:zoj W c ((zbs (W.ID.length:Int)).toNat-(k+1)) (k+1)=Lo W c->((k+1:Nat):Int)<=zbs (W.ID.length:Int)/\zoj W c ((zbs (W.ID.length:Int)).toNat-(k+1)) (k+1)=Lo W c:=λhp=>⟨Qo,hp⟩
   refine⟨_,Bp,_,Bt h wp c0 c1,λg=>⟨⟨Qo,Qo⟩,QH Qo (nxt ?_)⟩,λg=>?_⟩
   ·rw[<-hI,zol (show Ps W c (k:Int)<0 from Ot g)]
   ·have g:¬Ps W c (k:Int)<0:=Ou g;refine J1 12 0 rfl (λj=>j<=12/\PB W (Ps W c (k:Int)) c (12-j) j=PB W (Ps W c (k:Int)) c 12 0) ⟨Ic _,rfl⟩ λj ⟨hj,hF⟩=>⟨λRw=>?_,λbP=>?_⟩
    ·have Rw:=Ot Rw;have vT:j<12:=Qo;rw[show 12-j=(12-(j+1))+1 by omega] at hF;refine⟨h.t.ix QG Qo Rw,_,h.t.f Qo Rw (j:=2) rfl,_,λ_=>Gi h wp Qo Rw c0 c1,_,λ_=>zek h wp Qo Rw,λg2=>?_,λg2=>⟨⟨Qo,Qo⟩,QH vT ⟨Qo,?_⟩⟩⟩
     ·have g2:zix W (Ps W c (k:Int)) c j=true:=g2;rw[ztt g2] at hF;rw[<-hI,zom g (by rw[<-hF]; omega),<-hF]
     ·have g2:zix W (Ps W c (k:Int)) c j=false:=g2;rw[<-hF,zp5 g2]
    ·have bP:=Ou bP;have:j=12:=Qo;subst this;refine⟨⟨Qo,Qo⟩,QH Qo (nxt ?_)⟩;rw[<-hI,zok (by rw[<-hF]; show (-1:Int)<0; decide)]
  ·have RC:=Ou RC;have:(zbs (W.ID.length:Int)).toNat-k=0:=Qo;rw[this] at hI;rw[<-hI]; rfl
theorem zqr(W:Q8)(c:Int) : -1<=Lo W c:=by
 have hf:∀(b:Int) (f j:Nat),-1<=PB W b c f j:=λb f=>by
  induction f with
  | zero=>intro j; exact I2 _
  | succ f ih=>
   intro j;simp only[PB];split
   ·omega
   ·exact ih _
 have hp:∀(f k:Nat),-1<=zoj W c f k:=λf=>by
  induction f with
  | zero=>intro k; exact I2 _
  | succ f ih=>
   intro k;simp only[zoj];split
   ·exact ih _
   ·split
    ·exact ih _
    ·exact hf _ _ _
 exact hp _ _
end
def zhb(W:Q8)(g:Int)(j:Nat):Int:=zd3 W g (j:Int)
theorem MY(W:Q8)(g c:Int)(h:W.tasks.length=12):0<=zd3 W g c/\zd3 W g c<=240:=by
 have:=Th (zd2 W g c) W.tasks.length;unfold zd3;omega
def z2a(a b:Int):Int:=if a>b then a else b
def Kb(W:Q8)(g c:Int):Int:=
 if XZ (zhb W g) W.ID.length=0 then (gi W.IC g).weight else z2a 1 (Int.tdiv ((gi W.IC g).weight*zd3 W g c) (XZ (zhb W g) W.ID.length))
theorem z1p{a b:Int}(ha:0<=a)(ha2:a<=100000)(hb:0<b):Qr .i64 (Int.tdiv a b):=by
 have h1:=Int.tdiv_nonneg ha (Int.le_of_lt hb);have h2:Int.tdiv a b<=a:=by rw[Int.tdiv_eq_ediv_of_nonneg ha]; exact Int.ediv_le_self _ ha
 exact⟨Qo,Qo⟩
theorem zhw{a b:Int}{w:Wo}{bs:List Nat}:PX bs YY #[I a,I b] w (I (z2a a b)):=TZ
section
variable {W:Q8}{m:MW}{w:Wo}{bs:List Nat}{p:OA}
theorem zq0{g c:Int}(wp:TU W)(hu:Q7 W.IC g=true):0<=(gi W.IC g).weight*zd3 W g c/\(gi W.IC g).weight*zd3 W g c<=4800:=by
 have hw:=(wp.a.u hu).2.2;have hi:=MY W g c wp.a.t;have w1:=hw.w1;have w2:=hw.w2;refine⟨Int.mul_nonneg Qo hi.1,?_⟩;have:=Int.mul_le_mul w2 hi.2 hi.1 (show (0:Int)<=20 by decide);omega
theorem NF{g:Int}(wp:TU W)(k:Nat):0<=XZ (zhb W g) k/\XZ (zhb W g) k<=(k:Int)*240:=Th (λj=>MY W g (j:Int) wp.a.t) k
theorem zao{g c:Int}(h:XF bs w W m)(wp:TU W)(hl:UG W)(hu:Q7 W.IC g=true):PX bs OM #[.agg (Qb W m).toArray,I g,I c] w (I (Kb W g c)):=
 za5 _ _ _ _ _ _ _ _ _ _ g c λwr hx=>by
  have h:=(h.ext hx).less (cs:=[]) Qs;have tL:=wp.a.c2;obtain⟨u1,u2,_⟩:=Q4.1 hu;intro _ _;refine PF W.ID.length 0 rfl (λx k=>k<=W.ID.length/\x=XZ (zhb W g) k) ⟨Ic _,rfl⟩ λx k ⟨hk,R0⟩=>⟨λIT=>?_,λRC=>⟨λg2=>⟨h.g.ix u1 u2,_,(h.g.cells g u1 u2).get 3 _ rfl,?_⟩,λg2=>?_⟩⟩
  ·have IT:=Ot IT;have hr:=NF (g:=g) wp k;have hi:=MY W g (k:Int) wp.a.t;exact⟨_,Lf h wp hl hu,⟨Qo,Qo⟩,⟨Qo,Qo⟩,QP Qo ⟨Qo,by simp only[XZ]; rw[R0]; rfl⟩⟩
  ·have RC:=Ou RC;have:k=W.ID.length:=Qo;subst this;unfold Kb;rw[C' (by rw[<-R0]; simpa using g2)]
  ·have RC:=Ou RC;have:k=W.ID.length:=Qo;subst this;have hr:=NF (g:=g) wp W.ID.length;have hp:=zq0 (c:=c) wp hu;have fI:x≠0:=by simpa using g2
   refine⟨h.g.ix u1 u2,_,(h.g.cells g u1 u2).get 3 _ rfl,zd3 W g c,Lf h wp hl hu,⟨Qo,Qo⟩,⟨fI,z1p hp.1 Qo Qo⟩,_,zhw,?_⟩;unfold Kb;rw[B' (by rw[<-R0]; exact fI),R0]
end
theorem zwj{gs:List ZX}(ht:Ye gs){g:Int}:∀h:Int,Q7 gs h=true->g∈Zd gs h->Og 3 gs g h=true:=
 K7 ht (λhx=>by rw[show Zd gs 0=[] from Zs _ _] at hx; cases hx) λh hu hz ih hx=>by
  by_cases e:h=g
  ·subst e; simp[Og]
  ·rw[zjd ht hu hz e];rw[YU ht hu hz] at hx;rcases Ii.1 hx with e2 | e2
   ·exact Ir e2.symm e
   ·exact ih e2
theorem zsw(W:Q8)(g c x:Int):Oc W (G7 W g c x):=by
 unfold G7;split
 ·exact Oc.refl _
 ·split
  ·exact(zf0 _ _ _ _).trans (G6 _ _)
  ·exact zf0 _ _ _ _
theorem O6.wei{W:Q8}(p:O6 W){g c x:Int}(hu:Q7 W.IC g=true)(hz:g≠0)(c0:0<=c)(c1:c<(W.ID.length:Int)):O6 (G7 W g c x):=by
 obtain⟨u0,u1,_⟩:=Q4.1 hu;have hl:=p.a.gl;have hsl:=p.a.sl hu;have tU:c<((gi W.IC g).IE.length:Int):=Qo;have e:∀{i j:Int},0<=i->0<=j->Qc (UF W g c x) i j=if g=i/\c=j then zf8 W g c x else Qc W i j:=λhi hj=>Vf u0 u1 c0 tU hi hj
 have hT:Z7 W.IC (UF W g c x).IC:=Jm u0 u1
 have ef:∀{i j:Int},0<=i->0<=j->(Qc (UF W g c x) i j).floor=(Qc W i j).floor:=λ{i j} hi hj=>by
  rw[e hi hj]; split
  ·rename_i h; obtain⟨rfl,rfl⟩:=h; rfl
  ·rfl
 have hpu:=p.a.up hu hz;have p0:=(Q4.1 hpu).1
 have same:∀{i j:Int},Q7 W.IC i=true->i≠0->0<=j->¬(g=i/\c=j)->Tg W i j->Tg (UF W g c x) i j:=λ{i j} iu iz j0 hn h=>by
  unfold Tg at h ⊢;rw[hT.p,ef (Q4.1 (p.a.up iu iz)).1 j0,e (Q4.1 iu).1 j0,B' hn];exact h
 have hA:PreA (UF W g c x):=by
  refine⟨p.a.RF u0 Qo,λt t0 t1=>?_,λt t0 t1 n=>p.l t t0 t1 n,λi j iu j0 j1=>?_⟩
  ·rcases p.t t t0 t1 with h | ⟨n,h⟩
   ·exact .inl h
   ·exact .inr ⟨n,h.st,by rw[hT.eB]; exact h.g,h.n,h.m,h.m0,h.s,h.u,h.l1,h.l2,λh1=>by
     show (Qc (UF W g c x) (Q6 W t).group (Q6 W t).J').floor<=(Q6 W t).v/\(Q6 W t).v-(Qc (UF W g c x) (Q6 W t).group (Q6 W t).J').floor<=_;rw[ef (Q4.1 h.g).1 (p.l t t0 t1 n).1]; exact h.f h1⟩
  ·rw[hT.eB] at iu;have hs:=p.s i j iu j0 j1;have i0:=(Q4.1 iu).1
   by_cases h:g=i/\c=j
   ·obtain⟨rfl,rfl⟩:=h;refine⟨by rw[e i0 j0,C' ⟨rfl,rfl⟩]; exact hs.s,λh0=>Ir h0 hz,λ_ ho=>?_⟩;rw[e i0 j0,C' ⟨rfl,rfl⟩] at ho;have ho:(Qc W g c).on=true:=ho;unfold Tg;rw[hT.p,ef p0 j0,e i0 j0,C' ⟨rfl,rfl⟩];simp only[zf8];rw[C' ho];have:=ZY ((Qc W g c).v-(Qc W (gi W.IC g).parent c).floor) x;omega
   ·refine⟨by rw[e i0 j0,B' h]; exact hs.s,by rw[e i0 j0,B' h]; exact hs.root,λiz ho=>?_⟩;rw[e i0 j0,B' h] at ho;exact same iu iz j0 h (hs.st iz ho)
 have hC:∀d:Int,0<=d->d<(W.ID.length:Int)->(d=c->zmy (UF W g c x) g c=false)->z1f (UF W g c x) d:=λd d0 d1 hd=>by
  have h:=p.c d d0 d1;refine⟨h.b,h.i,h.c1,h.c2,h.no,h.yes,λh0 h1 h2=>?_⟩;obtain⟨q1,q2⟩:=h.q h0 h1 h2
  have hcu:Q7 W.IC (Q6 W (gi W.ID d).cur).group=true:=by
   rcases p.t _ h0 h.c2 with hz | ⟨_,hx⟩
   ·have h1:(Q6 W (gi W.ID d).cur).state=1:=h1;have h3:(Q6 W (gi W.ID d).cur).state=0:=hz.1;rw[h3] at h1; cases h1
   ·exact hx.g
  refine⟨by show (Q6 W (gi W.ID d).cur).v-(Qc (UF W g c x) (Q6 W (gi W.ID d).cur).group d).floor<=_; rw[ef (Q4.1 hcu).1 d0]; exact q1,λy hy=>?_⟩;have hy:y∈Zd W.IC (Q6 W (gi W.ID d).cur).group:=by rw[<-O5 hT]; exact hy
  obtain⟨yu,yz⟩:=X1 p.a.tree _ hcu y hy;have y0:=(Q4.1 yu).1
  have hn:¬(g=y/\c=d):=by
   rintro⟨rfl,rfl⟩;have h3:=hd rfl;unfold zmy at h3;have h4:=zwj (hT.tree p.a.tree) (g:=g) (Q6 W (gi W.ID c).cur).group (by rw[hT.eB]; exact hcu) (by rw[O5 hT]; exact hy);rw[show (gi (UF W g c x).ID c).cur=(gi W.ID c).cur from rfl,Ih (show (gi W.ID c).cur>=0 from h0),Bool.true_and] at h3;rw[show (Q6 (UF W g c x) (gi W.ID c).cur).group=(Q6 W (gi W.ID c).cur).group from rfl,h4] at h3;cases h3
  obtain⟨s1,s2⟩:=q2 y hy;refine⟨same yu yz d0 hn s1,?_⟩;rw[hT.p,ef (Q4.1 (p.a.up yu yz)).1 d0,e y0 d0,B' hn];exact s2
 unfold G7;split
 ·exact p
 ·split
  ·refine⟨hA.Rp c0 c1,λd d0 d1=>?_⟩;have hlen:(YtnclplgaicdapaaGreatDoor.Rp (UF W g c x) c).ID.length=W.ID.length:=E';have kR:gi (YtnclplgaicdapaaGreatDoor.Rp (UF W g c x) c).ID d=if c=d then Js (gi W.ID c) else gi W.ID d:=QO _ _ c0 c1 d0;rw[hlen] at d1
   by_cases ed:c=d
   ·subst ed;have h:=p.c c c0 c1;rw[C' rfl] at kR;have n1:(Js (gi W.ID c)).cur = -1:=rfl;exact⟨by rw[kR]; exact h.b,by rw[kR]; exact h.i,by rw[kR,n1]; exact I2 _,by rw[kR,n1]; decide,λ_=>by rw[kR]; rfl,λh=>by rw[kR,n1] at h; omega,λh=>by rw[kR,n1] at h; omega⟩
   ·have h:=hC d d0 d1 λhd=>Ir hd.symm ed
    rw[B' ed] at kR;exact⟨by rw[kR]; exact h.b,by rw[kR]; exact h.i,by rw[kR]; exact h.c1,by rw[kR]; exact h.c2,by rw[kR]; exact h.no,by rw[kR]; exact h.yes,by rw[kR]; exact h.q⟩
  ·rename_i he;exact⟨hA,λd d0 d1=>hC d d0 d1 λ_=>by simpa using he⟩
theorem SW.tu{K:Int}{W:Q8}(h:SW K W):TU W:=⟨h.a,λt0 t1 hs=>h.li t0 t1 hs⟩
theorem zsz{f:Nat->Int}(h:∀j,0<=f j):∀m:Nat,0<=XZ f m
 | 0=>I2 _
 | m+1=>by
  have ih:=zsz h m;have:=h m;simp only[XZ];omega
theorem zsy{f:Nat->Int}(h:∀j,0<=f j){k:Nat}:∀n:Nat,k<n->f k<=XZ f n
 | 0,hk=>Ir hk (Nat.not_lt_zero k)
 | n+1,hk=>by
  simp only[XZ];have hn:=zsz h
  by_cases e:k=n
  ·subst e; have:=hn k; omega
  ·have:=zsy h (k:=k) n Qo;have:=h n;omega
theorem zoz{W:Q8}(wp:TU W){g c:Int}(hu:Q7 W.IC g=true)(c0:0<=c)(c1:c<(W.ID.length:Int)):1<=Kb W g c/\Kb W g c<=(gi W.IC g).weight:=by
 have hg:=(wp.a.u hu).2.2;have w1:=hg.w1;have hi:=MY W g c wp.a.t
 have oI:zd3 W g c<=XZ (zhb W g) W.ID.length:=by
  have:=zsy (f:=zhb W g) (λj=>(MY W g (j:Int) wp.a.t).1) (k:=c.toNat) W.ID.length Qo;unfold zhb at this
  rwa[show ((c.toNat:Nat):Int)=c by omega] at this
 unfold Kb;split
 ·omega
 ·rename_i hn
  have hp:0<XZ (zhb W g) W.ID.length:=by
   have:=(NF (g:=g) wp W.ID.length).1;omega
  have hq:Int.tdiv ((gi W.IC g).weight*zd3 W g c) (XZ (zhb W g) W.ID.length)<=(gi W.IC g).weight:=by
   rw[Int.tdiv_eq_ediv_of_nonneg (Int.mul_nonneg Qo hi.1)];refine Int.ediv_le_of_le_mul hp ?_;exact Int.mul_le_mul_of_nonneg_left oI Qo
  unfold z2a
  split <;> omega
theorem zoy{W:Q8}(wp:TU W){g c:Int}(hu:Q7 W.IC g=true)(c0:0<=c)(c1:c<(W.ID.length:Int)):1<=Kb W g c/\Kb W g c<=20:=by
 have h:=zoz wp hu c0 c1;have:=(wp.a.u hu).2.2.w2;omega
def KC(W:Q8)(c:Int):Nat->Q8
 | 0=>W
 | k+1=>if k≠0/\(gi (KC W c k).IC (k:Int)).used=true then G7 (KC W c k) (k:Int) c (Kb (KC W c k) (k:Int) c) else KC W c k
def VZ(W:Q8)(c:Int):Q8:=Qh (KC W c 8)
noncomputable def Of(W:Q8)(c:Int):Int:=Lo (VZ W c) c
noncomputable def zkz(W:Q8)(c:Int):Q8:=if Of W c<0 then VZ W c else Qh (Uq (VZ W c) (Of W c) (Q6 (VZ W c) (Of W c)).group c)
noncomputable abbrev FW(W:Q8)(c:Int):Int:=T0 W c true 0
structure z0u (W V:Q8):Prop where
 sf:SF Qq (Qq+Qj) V
 fr:Fr W V
 cu:Em V
 pre:O6 V
 sta:Oc W V
theorem zky{W:Q8}(wp:Jq W)(hr:Ga W){c:Int}(c0:0<=c)(c1:c<(W.ID.length:Int)):∀k:Nat,k<=8->z0u W (KC W c k)
 | 0,_=>⟨Kt (Mi wp hr),Fr.refl _,zrt wp,XN wp,Oc.refl _⟩
 | k+1,hk=>by
  have ih:=zky wp hr c0 c1 k Qo;simp only[KC];split
  ·rename_i h;have hl:=ih.sf.w.a.gl;have hu:Q7 (KC W c k).IC (k:Int)=true:=Q4.2 ⟨Qo,Qo,h.2⟩;have tU:c<((KC W c k).ID.length:Int):=by rw[ih.fr.c]; exact c1
   have hs:=zoy ih.sf.w.tu hu c0 tU;obtain⟨a,b,d⟩:=zs6 ih.sf (I2 _) ih.cu hu Qo c0 tU hs.1 hs.2;exact⟨a,ih.fr.trans b,d,ih.pre.wei hu Qo c0 tU,ih.sta.trans (zsw _ _ _ _)⟩
  ·exact ih
theorem zk0{W:Q8}{c:Int}(hW:QB W=true)(hb:FW W c=0):0<=c/\c<(W.ID.length:Int)/\z0u W (KC W c 8)/\Jq (VZ W c)/\SW (Qq+Qj+Vu) (VZ W c)/\Fr W (VZ W c):=by
 obtain⟨h1,_,_,h4⟩:=zk7 hb;have wp:=Qm.1 hW;obtain⟨c0,c1⟩:=Tz h1;have hB:=zky wp (Qm.1 h4) c0 c1 8 (I7 _);have hs:=P2 hB.sf.w (by simp only[Qj]; decide);exact⟨c0,c1,hB,(zfx hB.sf.w (by simp only[Qj]; decide) (by simp only[Qj,Vu]; decide) hB.pre (hB.sta.loc hB.fr.t (Vr wp))).1,hs.1,hB.fr.trans hs.2⟩
theorem zdp{W:Q8}{b c:Int}:∀f j:Nat,0<=PB W b c f j->∃i:Nat,PB W b c f j=(i:Int)/\j<=i/\i<j+f/\zix W b c i=true
 | 0,j,h=>by
  have:(0:Int)<=-1:=h;omega
 | f+1,j,h=>by
  simp only[PB] at h ⊢;split
  ·rename_i hp;exact⟨j,rfl,I7 _,Qo,hp⟩
  ·rename_i hp;rw[B' hp] at h;obtain⟨i,a,b',c',d⟩:=zdp f (j+1) h;exact⟨i,a,Qo,Qo,d⟩
theorem zju{W:Q8}{c:Int}(h:¬Lo W c<0):∃(i:Nat) (b:Int),Lo W c=(i:Int)/\i<12/\zix W b c i=true:=by
 have key:∀f k:Nat,0<=zoj W c f k->∃(i:Nat) (b:Int),zoj W c f k=(i:Int)/\i<12/\zix W b c i=true:=λf=>by
  induction f with
  | zero=>intro k h; have:(0:Int)<=-1:=h; omega
  | succ f ih=>
   intro k h
   by_cases h0:Ps W c (k:Int)<0
   ·rw[zol h0] at h ⊢; exact ih _ h
   ·by_cases h1:PB W (Ps W c (k:Int)) c 12 0<0
    ·rw[zok h1] at h ⊢; exact ih _ h
    ·rw[zom h0 h1] at h ⊢;obtain⟨i,a,_,b,d⟩:=zdp 12 0 h;exact⟨i,_,a,Qo,d⟩
 exact key _ _ (by have:=zqr W c; unfold Lo at *; omega)
theorem z0e{W:Q8}{c:Int}(h:¬Lo W c<0):0<=Lo W c/\Lo W c<12/\(Q6 W (Lo W c)).state=1:=by
 obtain⟨i,b,e,hi,hp⟩:=zju h;unfold zix at hp;simp only[A'] at hp;rw[e];exact⟨Qo,Qo,(AN hp.1.2).1⟩
theorem zzx{W V:Q8}(hl:UG W)(ha:WA V)(hT:Z7 W.IC V.IC):UG V:=by
 have h1:=ha.c2;have h2:=ha.t;have h3:=ha.gl;have hm:=Zg;have hn1:=ha.n1;have hn2:=ha.n2;refine⟨Qo,Qo,Qo,λi a b=>?_⟩;have hb:=GW ha a Qo;have hg:=ha.grp i a Qo;refine⟨by rw[hT.n]; exact(hl.f i a (by rw[<-hT.len]; exact b)).nm,?_,Qo,Qo,Qo⟩
 cases hu:(gi V.IC i).used with
 | false=>rw[(hg.1 hu).ne]; exact⟨Qd,Qd⟩
 | true=>
  have hg:=hg.2 hu
  by_cases hq:(gi V.IC i).IS.IX=0
  ·rw[(hg.none hq).2.2]; exact⟨Qd,Qd⟩
  ·have:=hg.IS hq;exact⟨Qo,Qo⟩
theorem zrn{W:Q8}{c:Int}(hW:QB W=true)(hb:FW W c=0)(hp:¬Of W c<0):0<=Of W c/\Of W c<12/\(Q6 (VZ W c) (Of W c)).state=1/\Q7 (VZ W c).IC (Q6 (VZ W c) (Of W c)).group=true/\SF (Qq+Qj+Vu) (Qq+Qj+Vu+Qj) (VZ W c)/\
  SF (Qq+Qj+Vu) (Qq+Qj+Vu+Qj) (Uq (VZ W c) (Of W c) (Q6 (VZ W c) (Of W c)).group c):=by
 obtain⟨c0,c1,_,wp,sw,fr⟩:=zk0 hW hb;obtain⟨p0,p1,ps⟩:=z0e hp;have sf:SF (Qq+Qj+Vu) (Qq+Qj+Vu+Qj) (VZ W c):=sw.sf.mono (I2 _) (by simp only[Qj]; omega);have hu:=(sw.t _ p0 p1 (show (Q6 (VZ W c) (Of W c)).state≠0 by unfold Of; rw[ps]; decide)).1;exact⟨p0,p1,ps,hu,sf,(BU sf (I2 _) p0 p1 hu c0 (by rw[fr.c]; exact c1)).2⟩
section
variable {base pb:Nat}{W W':Q8}{m:MW}{w:Wo}
theorem Bo{c:Int}(h:XF [] w W m)(hl:UG W) :
  Cz T4 #[.agg (Qb W m).toArray,I c] w λe w'=>∃v,e=.returned v/\QL (Yv W (FW W c) (zkz W c)) w v w':=by
 refine B6 _ _ _ _ _ _ _ _ _ _ c (R:=λv w'=>QL (Yv W (FW W c) (zkz W c)) w v w') ?_;intro y hy y1 aR wr R0 SR;have hm0:=J5;have hlc:=hl.c;refine I3 (Zi (h.ext R0) hl) ?_;rintro e wv (⟨hW,he,Sm⟩ | ⟨hW,m',he,hM,Sm⟩)
 ·exact⟨_,_,_,_,_,_,_,_,_,_,_,he,Qf Sm SR,λg=>by simp at g,true,λg=>by simp at g,λ_ I' R3=>QL.bad hW ((R0.trans Sm).fresh R3 λz hm=>.inl (X4 hy aR z hm)),λg=>by simp at g⟩
 have hK:=Wk.begin hy aR R0 SR hM Sm;have hr:=hK.rd;have wp:=Qm.1 hW;refine⟨_,_,_,_,_,_,_,_,_,_,_,he,Qf Sm SR,λ_=>⟨Qo,Qo⟩,Xp W c,λ_=>Qu,λg I' R3=>?_,λg=>?_⟩
 ·have g:Xp W c=false:=by
   cases hc:Xp W c with
   | false=>rfl
   | true=>rw[hc] at g; split at g <;> simp at g
  have hb:FW W c=1:=by unfold FW T0; rw[C' g]
  exact QL.no hW (by rw[hb]; decide) (hK.step R3) hb
 have g:Xp W c=true:=by
  cases hc:Xp W c with
  | true=>rfl
  | false=>rw[hc] at g; simp at g
 obtain⟨c0,c1⟩:=Tz g;refine⟨hr.c.ix Yh c0 c1,_,hr.c.f c0 c1 (j:=0) rfl,λg2 O' R3=>?_,λg2=>⟨λg3 Rj R3=>?_,λg3=>?_⟩⟩
 ·have g2:(gi W.ID c).up=false:=by simpa using g2
  have hb:FW W c=6:=by unfold FW T0; rw[B' (by rw[g]; decide),C' (by rw[g2]; decide)]
  exact QL.no hW (by rw[hb]; decide) (hK.step R3) hb
 ·have g2:(gi W.ID c).up=true:=by simpa using g2
  have bQ:¬QK W=true:=λhr=>by rw[C' hr] at g3; simp at g3
  have hb:FW W c=10:=by unfold FW; rw[D7 g g2 rfl,C' (by simpa using bQ)]
  rw[B' bQ];exact QL.no hW (by rw[hb]; decide) (hK.step R3) hb
 have g2:(gi W.ID c).up=true:=by simpa using g2
 have bQ:QK W=true:=Iq λhr=>by rw[B' hr] at g3; simp at g3
 have hb:FW W c=0:=by unfold FW; rw[D7 g g2 rfl,B' (by rw[bQ]; decide)]
 obtain⟨_,_,hB8,wpS,swS,frS⟩:=zk0 hW hb;refine⟨λvs w1=>∃k:Nat,vs=I (k:Int)::Qb W m'/\1<=k/\k<=8/\Wk 8 [y,y1] w w1 (KC W c k) m',Zx 8 0,λw1 tZ _=>⟨1,rfl,Qd,Qd,hK.step tZ⟩,?_⟩;rintro g1 l RV Sa Sg S3 Sd Sf S4 S5 S8 Rr gI ⟨k,aM,hk1,hk8,hKk⟩;have hOk:=zky wp (Qm.1 bQ) c0 c1 k hk8;have e0:Qb (KC W c k) m'=Qb W m':=UZ hOk.fr;have SP:KC W c (k+1)=if k≠0/\(gi (KC W c k).IC (k:Int)).used=true then G7 (KC W c k) (k:Int) c (Kb (KC W c k) (k:Int) c) else KC W c k:=rfl;have dD:=hOk.sf.w.a.gl;have Be8:=wp.a.gl;simp only[Qb,I4,I5,Iv,true_and,and_true] at aM;obtain⟨rfl,rfl,⟨rfl,rfl,rfl⟩,⟨rfl,rfl,rfl⟩,rfl,rfl,rfl⟩:=aM;refine⟨λIT=>?_,λRC S9 AD8 nP=>?_⟩
 ·have IT:=Ot IT;have hrk:=hKk.rd;have W8:=hrk.g.ix (i:=(k:Int)) Qo Qo;rw[dD] at W8;rw[Be8] at IT ⊢;refine⟨W8,_,XG ((hrk.g.cells (k:Int) Qo Qo).get 0 _ rfl),λgu=>?_,λgu=>⟨⟨Qo,Qo⟩,λWw kS _=>⟨⟨k+1,by rw[<-Be8]; rfl,Qo,Qo,?_⟩,?_⟩⟩⟩
  ·have hu:Q7 (KC W c k).IC (k:Int)=true:=Q4.2 ⟨Qo,Qo,gu⟩;have tU:c<((KC W c k).ID.length:Int):=by rw[hOk.fr.c]; exact c1
   have hsh:=zoy hOk.sf.w.tu hu c0 tU;have Ar5:=zao (c:=c) hrk hOk.sf.w.tu (zzx hl hOk.sf.w.a hOk.fr.g) hu;rw[e0] at Ar5;simp only[Qb] at Ar5;rw[Be8] at Ar5;refine⟨_,Ar5,λSn dK hs7=>?_⟩;have hK7:=hKk.step dK;have Rt:=Le hK7.own hOk.sf (I2 _) (by simp only[Qj]; decide) hOk.cu (x:=Kb (KC W c k) (k:Int) c) hu Qo c0 tU;rw[e0] at Rt;simp only[Qb] at Rt;rw[Be8] at Rt;refine I3 Rt ?_;rintro e1 RO ⟨eH,dG⟩;refine⟨_,_,_,_,_,_,_,_,_,_,eH,hK7.kept dG hs7,⟨Qo,Qo⟩,λSL nQ _=>⟨⟨k+1,by rw[<-Be8]; rfl,Qo,Qo,?_⟩,?_⟩⟩
   ·rw[SP,C' ⟨Qo,gu⟩];exact(hK7.Sl dG hs7).step nQ
   ·simp only[Zx,Xm,ZP,Ie]; omega
  ·rw[SP,B' (by rintro⟨_,h⟩; rw[show (gi (KC W c k).IC (k:Int)).used=false from gu] at h; cases h)];exact hKk.step kS
  ·simp only[Zx,Xm,ZP,Ie]; omega
 ·have RC:=Ou RC;have:k=8:=Qo;subst this;have AH8:=hKk.step AD8;have Rt:=Qy AH8.own hB8.sf.w (by simp only[Qj]; decide) (by simp only[Qj]; decide) AH8.base;rw[e0] at Rt;refine I3 Rt ?_;rintro e3 cQ ⟨m2,fS,hy5⟩;have A99:Wk 8 [y,y1] w cQ (VZ W c) m2:=AH8.Sl hy5 nP;have CA4:=A99.rd;have CQ7:=zel CA4 wpS c0 (by rw[frS.c]; exact c1);refine⟨_,_,_,_,_,_,_,_,_,_,fS,AH8.kept hy5 nP,_,CQ7,λg5=>?_,λg5 Wn BB7=>?_⟩
  ·have g5:¬Of W c<0:=by have:=Ot g5; unfold Of; omega
   obtain⟨p0,p1,ps,hu,sf,sfP⟩:=zrn hW hb g5;have fZ:=wpS.a.t;refine⟨CA4.t.ix QG p0 (by rw[fZ]; exact p1),_,CA4.t.f p0 (by rw[fZ]; exact p1) (j:=1) rfl,λSh AT0 AD6=>?_⟩;have Ax1:=A99.step AT0;refine I3 (VB Ax1.own sf (I2 _) (by simp only[Qj,Vu]; decide) (t:=Of W c) (g:=(Q6 (VZ W c) (Of W c)).group) (c:=c) p0 p1 (by rw[ps]; decide) hu c0 (by rw[frS.c]; exact c1)) ?_;rintro e4 fX ⟨he4,hy6⟩;refine⟨_,_,_,_,_,_,_,_,_,_,he4,Ax1.kept hy6 AD6,λSo wS AN9=>?_⟩;have Br2:=(Ax1.Sl hy6 AD6).step wS
   have Ci3:Qb (Uq (VZ W c) (Of W c) (Q6 (VZ W c) (Of W c)).group c) m2=Qb (VZ W c) m2:=by
    obtain⟨q1,q2,q3,q4⟩:=zxl (VZ W c) (Of W c) (Q6 (VZ W c) (Of W c)).group c;simp only[Qb,q1,q2,q3,q4]
   have aK:=Qy Br2.own sfP.w (by simp only[Qj,Vu]; decide) (by simp only[Qj,Vu]; decide) Br2.base;rw[Ci3] at aK;refine I3 aK ?_;rintro e5 fM ⟨m3,he5,hy7⟩;refine⟨_,_,_,_,_,_,_,_,_,_,he5,Br2.kept hy7 AN9,λSX Bh8=>?_⟩;have hE:zkz W c=Qh (Uq (VZ W c) (Of W c) (Q6 (VZ W c) (Of W c)).group c):=by unfold zkz; rw[B' g5]
   rw[hE];exact QL.ok hW hb ((Br2.Sl hy7 AN9).step Bh8)
  ·have g5:Of W c<0:=by have:=Ou g5; unfold Of; omega
   have hE:zkz W c=VZ W c:=by unfold zkz; rw[C' g5]
   rw[hE];exact QL.ok hW hb (A99.step BB7)
end
theorem zd4{W:Q8}{g n x:Int}(hW:QB W=true)(hb:Y9 W g n x=0):Jw (Me W g n x):=by
 have wp:=Qm.1 hW;have h:=Bi hW hb;have p:=XN wp
 have hT:Fu W (PC W g n x):=⟨.inl rfl,h.u,h.w,h.m,h.m0,by show ZO 0=true; decide,by show ZO 0=true; decide,I2 _,by show (0:Int)<=8000000; decide,λ_=>by
  have:=(Yb (Qe n)).1;show (Qc W g (MU W g x)).floor<=(Qc W g (MU W g x)).floor/\(Qc W g (MU W g x)).floor-(Qc W g (MU W g x)).floor<=Zw (Qe n);omega⟩
 exact ZC (h.sw2.Rp h.c0 h.c1) Qd Qd (zbx p h.f0 h.f1 (show (1:Int)≠0 by decide) hT rfl h.c0 h.c1) (((Vr wp).IM wp.a h.f0 h.f1 (x:=PC W g n x) λ_=>h.ch).Rp _)
theorem zzo{W:Q8}{g x:Int}(hW:QB W=true)(hb:zpc W g x=0):Jw (zyg W g x):=by
 have wp:=Qm.1 hW;obtain⟨h1,hz,hu,_,_,sf,cu,hT⟩:=zyh hW hb;have hx:=Qx.1 h1;have hu':Q7 (Rm W g (Lx W g x)).IC g=true:=by rw[hT.eB]; exact hu
 have p1:O6 (Rm W g (Lx W g x)):=(XN wp).same sf.w.a rfl rfl hT (zq1 rfl);have l1:zb8 (Rm W g (Lx W g x)):=(Vr wp).same rfl hT (λi=>Xc (f:=ZX.ID) W.IC g (x:=Lx W g x) rfl i) rfl;have hlen:(Rm W g (Lx W g x)).ID.length=W.ID.length:=rfl;show Jw (Qh (D2 (Rm W g (Lx W g x)) g x W.ID.length));rw[<-hlen];generalize Rm W g (Lx W g x)=V at sf cu hu' p1 l1
 have all:∀k:Nat,k<=V.ID.length->O6 (D2 V g x k)/\Oc V (D2 V g x k):=by
  intro k
  induction k with
  | zero=>exact λ_=>⟨p1,Oc.refl _⟩
  | succ k ih=>
   intro hk;obtain⟨a,b⟩:=ih Qo;exact⟨a.wei (by rw[b.g.eB]; exact hu') hz Qo (by rw[b.len]; omega),b.trans (zsw _ _ _ _)⟩
 obtain⟨a,b⟩:=all _ (I7 _);obtain⟨sf2,fr,_⟩:=zmz sf (I2 _) cu hu' hz hx.1 hx.2 V.ID.length (I7 _);exact ZC sf2.w (by simp only[Qj]; decide) (by simp only[Qj,Vu]; decide) a (b.loc fr.t l1)
theorem ztk{W:Q8}{t c:Int}(h:Vm W t c=true):Z1 (Qn W (Q6 W t).group (Q6 W t).mask) c=true:=by
 unfold Vm at h;simp only[A',IB,H',I6] at h;exact h.1.2
theorem zzh{W:Q8}{c:Int}(hW:QB W=true)(hb:FW W c=0):Jw (zkz W c):=by
 have wp:=Qm.1 hW;obtain⟨c0,c1,hB,wpS,swS,frS⟩:=zk0 hW hb;have iS:Jw (VZ W c):=ZC hB.sf.w (by simp only[Qj]; decide) (by simp only[Qj,Vu]; decide) hB.pre (hB.sta.loc hB.fr.t (Vr wp));unfold zkz;split
 ·exact iS
 ·rename_i hp;obtain⟨p0,p1,ps,pu,_,sf⟩:=zrn hW hb hp;obtain⟨i,b,e,hi,ht⟩:=zju hp;have e:Of W c=(i:Int):=e;unfold zix at ht;simp only[A'] at ht;have hcd:=ztk ht.1.2;rw[<-e] at hcd;have cS:c<((VZ W c).ID.length:Int):=by rw[frS.c]; exact c1
  clear hp iS swS frS hB ht e;have hK0:0<=Qq+Qj+Vu+Qj:=Qd;have hK1:Qq+Qj+Vu+Qj+Vu<=100000000000000000:=Qd;have hcd:Z1 (Qn (VZ W c) (Q6 (VZ W c) (Of W c)).group (Q6 (VZ W c) (Of W c)).mask) c=true:=hcd;generalize Of W c=q at *;generalize VZ W c=V at *;refine ZC sf.w hK0 hK1 (zfo (XN wpS) p0 p1 (by rw[ps]; decide) pu c0 cS) λt t0 t1 n=>?_
  rw[(zb2 V _ _ _).wh];rw[zqt wpS.a.t p0 p1 t0] at n ⊢
  split at n
  ·rename_i he;rw[C' he];exact hcd
  ·rename_i he;rw[B' he];exact Vr wpS t t0 t1 n
def zh4:GO:=⟨0,false,0,10,0⟩
def Mr(n:Nat)(p:Int)(name:ByteArray):ZX:=⟨true,p,name,10,15,0,0,0,⟨0,0,0,[],[]⟩,List.replicate n zh4⟩
def zga:ZX:=⟨false,0,⟨[].toArray⟩,0,0,0,0,0,⟨0,0,0,[],[]⟩,[]⟩
def UE(n:Nat):Q8:=⟨0,List.replicate n ⟨true,-1,0,0,0⟩,List.replicate 12 Ow,(List.replicate 8 zga).set 0 (Mr n (-1) ⟨[].toArray⟩)⟩
section
variable {n:Nat}
theorem F4(k:Int)(k0:0<=k)(k1:k<8):gi (UE n).IC k=if k=0 then Mr n (-1) ⟨[].toArray⟩ else zga:=by
 have:=QO (List.replicate 8 zga) (Mr n (-1) ⟨[].toArray⟩) (i:=0) (j:=k) (I2 _) Qd k0;show gi ((List.replicate 8 zga).set (0:Int).toNat _) k=_;rw[this]
 by_cases h:k=0
 ·rw[C' h.symm,C' h]
 ·rw[B' λe=>h e.symm,B' h,MV _ _ k0 Qo]
theorem zw6:(UE n).IC.length=8:=by simp[UE]
theorem zw5(c:Int)(c0:0<=c)(c1:c<(n:Int)):gi (UE n).ID c=⟨true,-1,0,0,0⟩:=MV _ _ c0 c1
theorem zw7(t:Int)(t0:0<=t)(t1:t<12):Q6 (UE n) t=Ow:=MV 12 _ t0 Qo
theorem z2g(c:Int)(c0:0<=c)(c1:c<(n:Int)):Qc (UE n) 0 c=zh4:=by
 unfold Qc;rw[F4 0 (I2 _) Qd,C' rfl];exact MV _ _ c0 c1
theorem zud:Ye (UE n).IC:=by
 have g0:gi (UE n).IC 0=Mr n (-1) ⟨[].toArray⟩:=by rw[F4 0 (I2 _) Qd,C' rfl]
 have un:∀g:Int,1<=g->g<8->(gi (UE n).IC g).used=true->False:=λg a b h=>by
  rw[F4 g Qo b,B' Qo] at h; cases h
 exact⟨zw6,by rw[g0]; rfl,by rw[g0]; rfl,by rw[g0]; rfl,λg a b h=>(un g a b h).elim,λg a b h=>(un g a b h).elim,λg a b h=>(un g a b h).elim,λg k a b d h=>(un g Qo d h).elim⟩
theorem zz7(n0:1<=n)(n1:n<=4):WA (UE n):=by
 have tL:(UE n).ID.length=n:=by simp[UE]
 refine⟨I2 _,by show (0:Int)<=_; decide,Qo,Qo,by simp[UE],zud,AI (c:=0) Qo (I2 _) Qo (by rw[zw5 0 (I2 _) Qo]),λk k0 k1=>?_⟩;unfold Kz;rw[F4 k k0 k1];split
 ·refine⟨λh=>(by cases h),λ_=>⟨show (1:Int)<=10 by decide,show (10:Int)<=20 by decide,show O7 15=true by decide,show (15:Int)≠0 by decide,show ZO 0=true by decide,by simp[Mr,tL],λ_=>⟨rfl,rfl,rfl⟩,λ_=>⟨show OY ⟨0,0,0,[],[]⟩=true by decide,rfl,rfl⟩,λh=>Ir rfl h⟩⟩
 ·exact⟨λ_=>⟨rfl,rfl,rfl,rfl,rfl,rfl,rfl,rfl,Qd⟩,λh=>by cases h⟩
theorem zzl(n0:1<=n)(n1:n<=4):Jw (UE n):=by
 have ha:=zz7 n0 n1;have tL:(UE n).ID.length=n:=by simp[UE]
 have hmt:∀(k c:Int) (j:Nat),j<12->Pp (UE n) k c j=false:=λk c j hj=>by
  unfold Pp;rw[show gi (UE n).tasks (j:Int)=Ow from zw7 (j:Int) Qo Qo];rfl
 have hmg:∀(k c:Int) (j:Nat),j<8->Jy (UE n) k c j=false:=λk c j hj=>by
  unfold Jy;rw[F4 (j:Int) Qo Qo]
  by_cases h:(j:Int)=0
  ·rw[show decide (1<=j)=false from decide_eq_false Qo]; rfl
  ·rw[B' h];simp[zga]
 refine⟨⟨ha,λt t0 t1=>.inl ?_,λk c k0 k1 c0 c1=>?_,λc c0 c1=>?_⟩,λk c hu c0 c1 hb=>?_⟩
 ·rw[zw7 t t0 t1]; exact⟨rfl,rfl⟩
 ·by_cases hk:k=0
  ·subst hk;rw[F4 0 k0 k1,C' rfl] at c1;have c1:c<(n:Int):=by simpa[Mr] using c1
   have e:=z2g c c0 c1;refine⟨?_,?_,?_,?_,?_,λ_=>?_,λh=>Ir rfl h,λh=>Ir rfl h⟩ <;> rw[e]
   ·decide
   ·decide
   ·decide
   ·decide
   ·decide
   ·exact⟨rfl,rfl,rfl⟩
  ·rw[F4 k k0 k1,B' hk] at c1;have c1:c<0:=c1;omega
 ·rw[tL] at c1;have e:=zw5 c c0 c1;refine⟨by rw[e]; decide,by rw[e]; decide,by rw[e]; decide,by rw[e]; show (-1:Int)<((UE n).tasks.length:Int); simp[UE],λ_=>by rw[e],λh=>?_⟩;rw[e] at h;have h:(0:Int)<=-1:=h;omega
 ·unfold Zy at hb;have hb:=Ot hb;rcases Zv (Zr (UE n) k c) (Zl (UE n) c) 20 with ⟨a,_⟩ | ⟨_,h2,h3,_⟩
  ·rw[a] at hb; omega
  ·exfalso
   have IT:(Z0 (Zr (UE n) k c) (Zl (UE n) c) 20).toNat<20:=Qo;generalize (Z0 (Zr (UE n) k c) (Zl (UE n) c) 20).toNat=j at h3 IT
   by_cases hj:j<12
   ·rw[Vs hj,hmt k c j hj] at h3; cases h3
   ·rw[show j=12+(j-12) by omega,Uo,hmg k c (j-12) Qo] at h3; cases h3
end
theorem znd{gs:List ZX}(ht:Ye gs):∀(f:Nat) (h:Int),Q7 gs h=true->dep 3 gs h<=(f:Int)->dep f gs h=dep 3 gs h
 | 0,h,hu,hd=>by
  by_cases hz:h=0
  ·subst hz; rw[Y6,Y6]
  ·obtain⟨_,_,_,d,e,_⟩:=Yf ht hu hz;omega
 | f+1,h,hu,hd=>by
  by_cases hz:h=0
  ·subst hz; rw[Y6,Y6]
  ·obtain⟨hp,_,_,d,e,e2,_⟩:=Yf ht hu hz;have ih:=znd ht f _ hp Qo;show (if h=0 then 0 else if dep f gs (gi gs h).parent<0 then -1 else dep f gs (gi gs h).parent+1)=_;rw[B' hz,ih,e2,B' Qo,e]
structure zge (W:Q8) (a p:Int) (name:ByteArray):Prop where
 a1:1<=a
 a8:a<8
 fr:(gi W.IC a).used=false
 up:Q7 W.IC p=true
 nm:UW name=true
 no:∀h:Int,1<=h->h<8->(gi W.IC h).used=true->¬((gi W.IC h).parent=p/\(gi W.IC h).name=name)
 dp:dep 3 W.IC p≠3
def PM(W:Q8)(a p:Int)(name:ByteArray):Q8:=Rm W a (Mr W.ID.length p name)
section
variable {W:Q8}{a p:Int}{name:ByteArray}
theorem AV(ha:WA W)(h:zge W a p name){i:Int}(hi:0<=i):gi (PM W a p name).IC i=if a=i then Mr W.ID.length p name else gi W.IC i:=Xo (by have:=h.a1; omega) (by have:=ha.gl; have:=h.a8; omega) hi
theorem zw3(h:zge W a p name){k:Int}(hu:Q7 W.IC k=true):a≠k:=λe=>by
 have:=(Q4.1 hu).2.2;rw[<-e,h.fr] at this;cases this
theorem F3(ha:WA W)(h:zge W a p name){k:Int}(hu:Q7 W.IC k=true):gi (PM W a p name).IC k=gi W.IC k:=by
 rw[AV ha h (Q4.1 hu).1,B' (zw3 h hu)]
theorem Hu(ha:WA W)(h:zge W a p name):gi (PM W a p name).IC a=Mr W.ID.length p name:=by
 rw[AV ha h (by have:=h.a1; omega),C' rfl]
theorem zl3(ha:WA W):(PM W a p name).IC.length=8:=by
 have:=ha.gl;simp[PM,Rm]; omega
theorem BE(ha:WA W)(h:zge W a p name){k:Int}:Q7 (PM W a p name).IC k=true↔Q7 W.IC k=true\/k=a:=by
 have dD:=ha.gl;have a1:=h.a1;have a8:=h.a8;rw[Q4,Q4,zl3 ha,dD];constructor
 ·rintro⟨x,y,z⟩;rw[AV ha h x] at z
  by_cases e:a=k
  ·exact .inr e.symm
  ·rw[B' e] at z;exact .inl ⟨x,y,z⟩
 ·rintro (⟨x,y,z⟩ | rfl)
  ·refine⟨x,y,?_⟩;rw[AV ha h x,B' λe=>by rw[<-e,h.fr] at z; cases z];exact z
  ·refine⟨Qo,Qo,?_⟩;rw[Hu ha h]; rfl
theorem zqj(ha:WA W)(h:zge W a p name):∀(f:Nat) (k:Int),Q7 W.IC k=true->dep f (PM W a p name).IC k=dep f W.IC k
 | 0,_,_=>rfl
 | f+1,k,hu=>by
  by_cases hz:k=0
  ·subst hz; rw[Y6,Y6]
  ·have ih:=zqj ha h f _ (Yf ha.tree hu hz).1;simp only[dep];rw[F3 ha h hu,ih]
theorem zl5(ha:WA W)(h:zge W a p name):∀(f:Nat) (k:Int),Q7 W.IC k=true->Vj f (PM W a p name).IC k=Vj f W.IC k
 | 0,_,_=>rfl
 | f+1,k,hu=>by
  by_cases hz:k=0
  ·subst hz; rw[Zs,Zs]
  ·have ih:=zl5 ha h f _ (Yf ha.tree hu hz).1;simp only[Vj];rw[F3 ha h hu,ih]
theorem z3o(ha:WA W)(h:zge W a p name):dep 3 (PM W a p name).IC a=dep 3 W.IC p+1/\0<=dep 3 W.IC p:=by
 have hr:=H2 ha h.up;have hd:=h.dp;have e:=znd ha.tree 2 p h.up Qo;refine⟨?_,hr.1⟩;show (if a=0 then 0 else if dep 2 (PM W a p name).IC (gi (PM W a p name).IC a).parent<0 then -1 else dep 2 (PM W a p name).IC (gi (PM W a p name).IC a).parent+1)=_;rw[B' (by have:=h.a1; omega),Hu ha h];show (if dep 2 (PM W a p name).IC p<0 then -1 else dep 2 (PM W a p name).IC p+1)=_;rw[zqj ha h 2 p h.up,e,B' Qo]
theorem zz5(ha:WA W)(h:zge W a p name):Ye (PM W a p name).IC:=by
 have ht:=ha.tree;have dD:=ha.gl;have a1:=h.a1;have r:=F3 ha h ha.root
 have sp:∀{g:Int},1<=g->g<8->(gi (PM W a p name).IC g).used=true->g=a\/(Q7 W.IC g=true/\gi (PM W a p name).IC g=gi W.IC g):=λ{g} b d hh=>by
  rcases (BE ha h).1 (Q4.2 ⟨Qo,by rw[zl3 ha]; omega,hh⟩) with e | e
  ·exact .inr ⟨e,F3 ha h e⟩
  ·exact .inl e
 refine⟨zl3 ha,by rw[r]; exact ht.ru,by rw[r]; exact ht.rp,by rw[r]; exact ht.rn,λg b d hh=>?_,λg b d hh=>?_,λg b d hh=>?_,λg k b d e hg hk=>?_⟩
 ·rcases sp b d hh with rfl | ⟨hu,e⟩
  ·rw[Hu ha h]; exact h.nm
  ·rw[e] at hh ⊢; exact ht.nm g b d hh
 ·rcases sp b d hh with rfl | ⟨hu,e⟩
  ·rw[Hu ha h]; exact(BE ha h).2 (.inl h.up)
  ·rw[e] at hh ⊢; exact(BE ha h).2 (.inl (ht.par g b d hh))
 ·rcases sp b d hh with rfl | ⟨hu,e⟩
  ·have:=z3o ha h; omega
  ·rw[zqj ha h 3 g hu]; exact ht.dp g b d (Q4.1 hu).2.2
 ·rintro⟨q1,q2⟩;rcases sp Qo e hg with hga | ⟨hu,eg⟩
  ·rcases sp b Qo hk with hka | ⟨hu2,ek⟩
   ·omega
   ·rw[hga,Hu ha h,ek] at q1 q2;exact h.no k b Qo (Q4.1 hu2).2.2 ⟨q1,q2⟩
  ·rcases sp b Qo hk with hka | ⟨hu2,ek⟩
   ·rw[hka,Hu ha h,eg] at q1 q2;exact h.no g Qo e (Q4.1 hu).2.2 ⟨q1.symm,q2.symm⟩
   ·rw[eg,ek] at q1 q2;exact ht.uniq g k b d e (Q4.1 hu).2.2 (Q4.1 hu2).2.2 ⟨q1,q2⟩
end
section
variable {W:Q8}{a p:Int}{name:ByteArray}
theorem LW(ha:WA W)(h:zge W a p name){k c:Int}(hu:Q7 W.IC k=true):Qc (PM W a p name) k c=Qc W k c:=by
 unfold Qc;rw[F3 ha h hu]
theorem zse(ha:WA W)(h:zge W a p name){c:Int}(c0:0<=c)(c1:c<(W.ID.length:Int)):Qc (PM W a p name) a c=zh4:=by
 unfold Qc;rw[Hu ha h];exact MV _ _ c0 c1
theorem zsd(ha:WA W)(h:zge W a p name){k c:Int}(c0:0<=c)(c1:c<(W.ID.length:Int))(j:Nat)(hj:j<8):Jy (PM W a p name) k c j=Jy W k c j:=by
 have a1:=h.a1;unfold Jy
 by_cases e:a=(j:Int)
 ·rw[<-e,zse ha h c0 c1,h.fr];show (_&&_&&zh4.on)=_;simp[zh4]
 ·rw[AV ha h Qo,B' e]
  have:Qc (PM W a p name) (j:Int) c=Qc W (j:Int) c:=by
   unfold Qc;rw[AV ha h Qo,B' e]
  rw[this]
theorem zw2(ha:WA W)(h:zge W a p name){k c:Int}(c0:0<=c)(c1:c<(W.ID.length:Int)):QX (PM W a p name) k c=QX W k c:=by
 unfold QX;rw[show Oe (Pp (PM W a p name) k c) (PM W a p name).tasks.length=Oe (Pp W k c) W.tasks.length from rfl,zl3 ha,ha.gl];rw[KY λj hj=>zsd ha h c0 c1 j hj]
theorem zl4(wp:Jq W)(h:zge W a p name){c:Int}(j:Nat)(hj:j<20):Zr W a c j=false:=by
 by_cases vT:j<12
 ·rw[Vs vT];unfold Pp;rcases wp.t (j:Int) Qo Qo with hz | ⟨_,hx⟩
  ·have:(gi W.tasks (j:Int)).state=0:=hz.1;rw[this]; rfl
  ·have hg:(gi W.tasks (j:Int)).group≠a:=λe=>zw3 h hx.g e.symm
   rw[show ((gi W.tasks (j:Int)).group==a)=false by simpa using hg];simp
 ·rw[show j=12+(j-12) by omega,Uo];unfold Jy
  cases hu:(gi W.IC ((j-12:Nat):Int)).used with
  | false=>simp
  | true=>
   have hl:=wp.a.gl;have huu:Q7 W.IC ((j-12:Nat):Int)=true:=Q4.2 ⟨Qo,Qo,hu⟩
   by_cases h1:1<=j-12
   ·have hpu:=(Yf wp.a.tree huu Qo).1;have hg:(gi W.IC ((j-12:Nat):Int)).parent≠a:=λe=>zw3 h hpu e.symm
    rw[show ((gi W.IC ((j-12:Nat):Int)).parent==a)=false by simpa using hg];simp
   ·rw[show decide (1<=j-12)=false from decide_eq_false h1]; simp
theorem KZ{p:Nat->Bool}:∀{n:Nat},(∀j,j<n->p j=false)->Oe p n=false
 | 0,_=>rfl
 | n+1,h=>by simp only[Oe]; rw[KZ λj hj=>h j Qo,h n Qo]; rfl
theorem zz4(wp:Jq W)(h:zge W a p name){c:Int}:QX W a c=false:=by
 have hl:=wp.a.gl;have ht:=wp.a.t;unfold QX;rw[KZ λj hj=>by have:=zl4 wp h (c:=c) j Qo; rwa[Vs Qo] at this,KZ λj hj=>by have:=zl4 wp h (c:=c) (12+j) Qo; rwa[Uo] at this];rfl
theorem NX{α β:Type}{f g:β->α->β}:∀(l:List α) (s:β),(∀(s:β) (x:α),x∈l->f s x=g s x)->l.foldl f s=l.foldl g s
 | [],_,_=>rfl
 | y::l,s,hl=>by
  rw[List.foldl_cons,List.foldl_cons,hl s y I9];exact NX l _ λs x hx=>hl s x (I1 _ hx)
theorem z2b(ha:WA W)(h:zge W a p name){k:Int}(hu:Q7 W.IC k=true)(u:Int):Ts (PM W a p name).IC k u=Ts W.IC k u:=by
 have e:Zd (PM W a p name).IC k=Zd W.IC k:=zl5 ha h 3 k hu;unfold Ts;rw[e];refine NX _ _ λs x hx=>?_
 have hxu:Q7 W.IC x=true:=by
  rcases Im.1 hx with hx | hx
  ·exact(X1 ha.tree k hu x hx).1
  ·rw[Iz.1 hx]; exact ha.root
 rw[F3 ha h hxu]
theorem zyi{W W':Q8}(e:W'.ID=W.ID){k:Int}(hp:∀u:Int,Ts W'.IC k u=Ts W.IC k u)(m:Int):Qn W' k m=Qn W k m:=by
 unfold Qn;rw[e,hp]
theorem z3p(ha:WA W)(h:zge W a p name){k:Int}(hu:Q7 W.IC k=true)(m:Int):Qn (PM W a p name) k m=Qn W k m:=zyi (W:=W) (W':=PM W a p name) rfl (z2b ha h hu) m
theorem zwm(iv:Jw W)(h:zge W a p name):Jw (PM W a p name):=by
 have wp:=iv.wp;have ha:=wp.a;have a1:=h.a1;have a8:=h.a8;have dD:=ha.gl;have hpu:∀{k:Int},Q7 W.IC k=true->k≠0->Q7 W.IC (gi W.IC k).parent=true:=λhu hz=>(Yf ha.tree hu hz).1
 have hA:WA (PM W a p name):=by
  refine⟨ha.n1,ha.n2,ha.c1,ha.c2,ha.t,zz5 ha h,ha.ups,λk k0 k1=>?_⟩;unfold Kz;rw[AV ha h k0];split
  ·refine⟨λhh=>(by cases hh),λ_=>⟨show (1:Int)<=10 by decide,show (10:Int)<=20 by decide,show O7 15=true by decide,show (15:Int)≠0 by decide,show ZO 0=true by decide,by simp[Mr]; rfl,λ_=>⟨rfl,rfl,rfl⟩,λ_=>⟨show OY ⟨0,0,0,[],[]⟩=true by decide,rfl,rfl⟩,λhh=>Ir rfl hh⟩⟩
  ·have:=ha.grp k k0 k1;exact⟨this.1,λhu=>by have:=this.2 hu; exact⟨this.w1,this.w2,this.m,this.m0,this.s,this.len,this.root,this.none,this.IS⟩⟩
 refine⟨⟨hA,λt t0 t1=>?_,λk c k0 k1 c0 c1=>?_,λc c0 c1=>?_⟩,λk c hu c0 c1 hb=>?_⟩
 ·rcases wp.t t t0 t1 with hz | ⟨n,hx⟩
  ·exact .inl hz
  ·refine .inr ⟨n,hx.st,(BE ha h).2 (.inl hx.g),hx.n,hx.m,hx.m0,hx.v,hx.s,hx.u,hx.l1,hx.l2,?_,λhs=>?_⟩
   ·rw[show (Q6 (PM W a p name) t)=Q6 W t from rfl,z3p ha h hx.g]; exact hx.c
   ·rw[show (Q6 (PM W a p name) t)=Q6 W t from rfl,LW ha h hx.g]; exact hx.f hs
 ·by_cases e:a=k
  ·subst e;rw[Hu ha h] at c1;have c1:c<(W.ID.length:Int):=by simpa[Mr] using c1
   have es:=zse ha h c0 c1;refine⟨by rw[es]; decide,by rw[es]; decide,by rw[es]; decide,by rw[es]; decide,by rw[es]; decide,λhz=>by omega,λ_=>?_,λ_ ho=>?_⟩
   ·rw[es,zw2 ha h c0 c1,zz4 wp h]; rfl
   ·rw[es] at ho; cases ho
  ·have hg:gi (PM W a p name).IC k=gi W.IC k:=by rw[AV ha h k0,B' e]
   rw[hg] at c1
   have hu:Q7 W.IC k=true:=by
    cases hh:(gi W.IC k).used with
    | true=>exact Q4.2 ⟨k0,Qo,hh⟩
    | false=>
     have:=((ha.grp k k0 k1).1 hh).l;omega
   have cl:c<(W.ID.length:Int):=by rw[<-ha.sl hu]; exact c1
   have hs:=wp.s k c k0 k1 c0 c1;have es:=LW ha h (c:=c) hu;refine⟨by rw[es]; exact hs.f,by rw[es]; exact hs.v,by rw[es]; exact hs.s,by rw[es]; exact hs.w1,by rw[es]; exact hs.w2,λhz=>by rw[es]; exact hs.root hz,λhz=>?_,λhz ho=>?_⟩
   ·rw[es,zw2 ha h c0 cl,show UD (PM W a p name) k c=UD W k c by unfold UD; rw[hg]];exact hs.on hz
   ·rw[es] at ho;rw[es,hg,LW ha h (hpu hu hz)];exact hs.st hz ho
 ·have hc:=wp.c c c0 c1;refine⟨hc.b,hc.i,hc.c1,hc.c2,hc.no,λh0=>?_⟩;have h0:0<=(gi W.ID c).cur:=h0;obtain⟨y1,y2,y3,y4,y5,y6⟩:=hc.yes h0;have hl:=ha.t
  have kF:Q7 W.IC (Q6 W (gi W.ID c).cur).group=true:=by
   have hc2:=hc.c2;rcases wp.t _ h0 Qo with hz | ⟨_,hx⟩
   ·unfold ZL at y5;rw[hz.1] at y5;simp at y5
   ·exact hx.g
  have hpt:Zd (PM W a p name).IC (Q6 W (gi W.ID c).cur).group=Zd W.IC (Q6 W (gi W.ID c).cur).group:=zl5 ha h 3 _ kF;refine⟨y1,y2,y3,y4,?_,?_⟩
  ·unfold ZL VC at y5 ⊢;rw[show (gi (PM W a p name).ID c).cur=(gi W.ID c).cur from rfl,show Q6 (PM W a p name) (gi W.ID c).cur=Q6 W (gi W.ID c).cur from rfl,hpt];rw[A',List.all_eq_true] at y5 ⊢;exact⟨y5.1,λx hx=>by rw[LW ha h (X1 ha.tree _ kF x hx).1]; exact y5.2 x hx⟩
  ·unfold Kc Ov at y6 ⊢;rw[show (gi (PM W a p name).ID c).cur=(gi W.ID c).cur from rfl,show (gi (PM W a p name).ID c).WV=(gi W.ID c).WV from rfl,show Q6 (PM W a p name) (gi W.ID c).cur=Q6 W (gi W.ID c).cur from rfl,hpt,LW ha h kF];rw[A',List.all_eq_true] at y6 ⊢;refine⟨y6.1,λx hx=>?_⟩;obtain⟨xu,xz⟩:=X1 ha.tree _ kF x hx;rw[LW ha h xu,F3 ha h xu,LW ha h (hpu xu xz)];exact y6.2 x hx
 ·have cl:c<(W.ID.length:Int):=c1
  have Aa7:∀j,j<20->Zr (PM W a p name) k c j=Zr W k c j:=λj hj=>by
   by_cases vT:j<12
   ·rw[Vs vT,Vs vT]; rfl
   ·rw[show j=12+(j-12) by omega,Uo,Uo,zsd ha h c0 cl (j-12) Qo]
  rcases (BE ha h).1 hu with hk | rfl
  ·have hv:∀j,j<20->Zr (PM W a p name) k c j=true->Zl (PM W a p name) c j=Zl W c j:=λj hj hm=>by
    unfold Zl;split
    ·rfl
    ·rename_i vT;rw[Aa7 j hj,show j=12+(j-12) by omega,Uo] at hm;unfold Jy at hm;simp only[A'] at hm;rw[LW ha h (Q4.2 ⟨Qo,Qo,hm.1.2.1⟩)]
   have e:Z0 (Zr (PM W a p name) k c) (Zl (PM W a p name) c) 20=Z0 (Zr W k c) (Zl W c) 20:=Kr Aa7 hv;have oF:=iv.fl k c hk c0 cl (by unfold Zy at hb ⊢; rwa[e] at hb);rw[LW ha h hk];refine Int.le_trans (Int.le_of_eq ?_) oF;unfold Zy at hb;have hb:=Ot hb;rw[e] at hb;unfold Z6;rw[e,B' Qo,B' Qo];rcases Zv (Zr W k c) (Zl W c) 20 with ⟨q,_⟩ | ⟨_,q2,q3,_⟩
   ·omega
   ·have IT:(Z0 (Zr W k c) (Zl W c) 20).toNat<20:=Qo;exact hv _ IT (by rw[Aa7 _ IT]; exact q3)
  ·exfalso
   unfold Zy at hb;have hb:=Ot hb;rcases Zv (Zr (PM W k p name) k c) (Zl (PM W k p name) c) 20 with ⟨q,_⟩ | ⟨_,q2,q3,_⟩
   ·omega
   ·rw[Aa7 _ Qo,zl4 wp h _ Qo] at q3;cases q3
end
theorem zww{W:Q8}(ha:WA W){k c d:Int}(hu:Q7 W.IC k=true)(hd:dep 3 W.IC k=d)(d1:1<=d)(c0:0<=c)(c1:c<(W.ID.length:Int)) :
  WA (RF W k c (ZZ W k c))/\Tr (RF W k c (ZZ W k c)) c k/\∀g:Int,Q7 W.IC g=true->g≠k->(gi W.IC k).parent≠g->Tr W c g->Tr (RF W k c (ZZ W k c)) c g:=by
 have hz:k≠0:=λe=>by subst e; rw[Y6] at hd; omega
 obtain⟨u0,u1,_⟩:=Q4.1 hu;have hl:=ha.gl;have hsl:=ha.sl hu;have tU:c<((gi W.IC k).IE.length:Int):=Qo
 have hpk:(gi W.IC k).parent≠k:=λe=>by
  obtain⟨_,_,_,n,e1,e2,_⟩:=Yf ha.tree hu hz;rw[e] at e2; omega
 have e:∀{i j:Int},0<=i->0<=j->Qc (RF W k c (ZZ W k c)) i j=if k=i/\c=j then ZZ W k c else Qc W i j:=λhi hj=>Vf u0 u1 c0 tU hi hj
 have hT:=Jm (W:=W) (g:=k) (c:=c) (s:=ZZ W k c) u0 u1
 have act:∀g:Int,(gi W.IC k).parent≠g->QX (RF W k c (ZZ W k c)) g c=QX W g c:=λg hg=>by
  refine Pq (W:=W) (W':=RF W k c (ZZ W k c)) rfl hT λj hj _ _ hp=>?_
  rw[e Qo c0,B'];rintro⟨h,_⟩;exact hg (by rw[h]; exact hp)
 refine⟨ha.RF u0 Qo,?_,λg gu gk hg h=>?_⟩
 ·unfold Tr;rw[e u0 c0,C' ⟨rfl,rfl⟩,act k hpk,D8 u0 u1 u0];rfl
 ·unfold Tr;have g0:=(Q4.1 gu).1;rw[e g0 c0,B' λh=>gk h.1.symm,act g hg,D8 u0 u1 g0];exact h
theorem zn9{W:Q8}(ha:WA W){c d:Int}(d1:1<=d)(c0:0<=c)(c1:c<(W.ID.length:Int))(hI:∀g:Int,Q7 W.IC g=true->d<dep 3 W.IC g->Tr W c g):∀k:Nat,k<=8->
  WA (Zq W c d k)/\UH W (Zq W c d k)/\∀g:Int,Q7 W.IC g=true->d<dep 3 W.IC g\/dep 3 W.IC g=d/\g<(k:Int)->Tr (Zq W c d k) c g
 | 0,_=>⟨ha,UH.refl _,λg gu h=>hI g gu (by
   rcases h with h | h
   ·exact h
   ·have:=(Q4.1 gu).1;have:=h.2;omega)⟩
 | k+1,hk=>by
  obtain⟨a,b,ih⟩:=zn9 ha d1 c0 c1 hI k Qo;have hl:=a.gl;have hT:=b.g;simp only[Zq];split
  ·rename_i hc;have hu:Q7 (Zq W c d k).IC (k:Int)=true:=Q4.2 ⟨Qo,Qo,hc.1⟩;obtain⟨l1,l3,l4⟩:=zww a hu hc.2 d1 c0 (c:=c) (by rw[b.c]; exact c1);refine⟨l1,b.trans (Tm Qo Qo),λg gu h=>?_⟩
   by_cases e:g=(k:Int)
   ·subst e; exact l3
   ·have hkz:(k:Int)≠0:=λe=>by have:=hc.2; rw[e,Y6] at this; omega
    obtain⟨_,_,_,n,e1,e2,_⟩:=Yf a.tree hu hkz;refine l4 g (by rw[hT.eB]; exact gu) e (λhp=>?_) (ih g gu ?_)
    ·rw[hp,hT.dep] at e2;have:=hc.2;omega
    ·rcases h with h | h
     ·exact .inl h
     ·exact .inr ⟨h.1,by have:=h.2; omega⟩
  ·rename_i hc;refine⟨a,b,λg gu h=>ih g gu ?_⟩;rcases h with h | h
   ·exact .inl h
   ·refine .inr ⟨h.1,?_⟩
    by_cases e:g=(k:Int)
    ·subst e;exact Ir ⟨by rw[hT.u]; exact(Q4.1 gu).2.2,by rw[hT.dep]; exact h.1⟩ hc
    ·have:=h.2;omega
theorem zt6{W:Q8}(ha:WA W){c:Int}(c0:0<=c)(c1:c<(W.ID.length:Int)):WA (QJ W c)/\UH W (QJ W c)/\∀g:Int,Q7 W.IC g=true->g≠0->Tr (QJ W c) c g:=by
 have key:∀j:Nat,j<=3->WA (Xd W c j)/\UH W (Xd W c j)/\∀g:Int,Q7 W.IC g=true->3-(j:Int)<dep 3 W.IC g->Tr (Xd W c j) c g:=by
  intro j
  induction j with
  | zero=>exact λ_=>⟨ha,UH.refl _,λg gu h=>by have:=(H2 ha gu).2; omega⟩
  | succ j ih=>
   intro hj;obtain⟨a,b,h⟩:=ih Qo;have hT:=b.g;obtain⟨a2,b2,h2⟩:=zn9 a (c:=c) (d:=3-(j:Int)) Qo c0 (by rw[b.c]; exact c1) (λg gu hd=>h g (by rwa[hT.eB] at gu) (by rwa[hT.dep] at hd)) 8 (I7 _);refine⟨a2,b.trans b2,λg gu hd=>h2 g (by rw[hT.eB]; exact gu) ?_⟩;rw[hT.dep];have:=(Q4.1 gu).2.1;have:=ha.gl
   by_cases e:dep 3 W.IC g=3-(j:Int)
   ·exact .inr ⟨e,Qo⟩
   ·exact .inl Qo
 obtain⟨a,b,h⟩:=key 3 (I7 _);refine⟨a,b,λg gu gz=>h g gu ?_⟩;obtain⟨_,_,_,n,e1,_⟩:=Yf ha.tree gu gz;omega
theorem zjo{W:Q8}(ha:WA W){c d:Int}(d1:1<=d)(c0:0<=c)(c1:c<(W.ID.length:Int)):∀k:Nat,k<=8->Ng c W (Zq W c d k)/\WA (Zq W c d k)
 | 0,_=>⟨Ng.refl _ _,ha⟩
 | k+1,hk=>by
  obtain⟨o,a⟩:=zjo ha d1 c0 c1 k Qo;have hl:=a.gl;simp only[Zq];split
  ·rename_i hc;have hu:Q7 (Zq W c d k).IC (k:Int)=true:=Q4.2 ⟨Qo,Qo,hc.1⟩;exact⟨o.trans (Ak Qo Qo c0 (by rw[a.sl hu,o.len]; exact c1)),a.RF Qo Qo⟩
  ·exact⟨o,a⟩
theorem zqm{W:Q8}(ha:WA W){c:Int}(c0:0<=c)(c1:c<(W.ID.length:Int)):Ng c W (QJ W c):=by
 have key:∀j:Nat,j<=3->Ng c W (Xd W c j)/\WA (Xd W c j):=by
  intro j
  induction j with
  | zero=>exact λ_=>⟨Ng.refl _ _,ha⟩
  | succ j ih=>
   intro hj;obtain⟨o,a⟩:=ih Qo;obtain⟨o2,a2⟩:=zjo a (c:=c) (d:=3-(j:Int)) Qo c0 (by rw[o.len]; exact c1) 8 (I7 _);exact⟨o.trans o2,a2⟩
 exact(key 3 (I7 _)).1
structure Dm (W:Q8) (c:Int):Prop where
 on:∀k:Int,Q7 W.IC k=true->k≠0->Tr W c k
 cu:0<=(gi W.ID c).cur->(Q6 W (gi W.ID c).cur).J'=c/\ZL W (gi W.ID c).cur=true
theorem z3e{W:Q8}(wp:Jq W){c:Int}(c0:0<=c)(c1:c<(W.ID.length:Int)):Dm W c:=
 ⟨λk hu hz=>(HO wp hu c0 c1).on hz,λh=>⟨((wp.c c c0 c1).yes h).2.2.2.1,((wp.c c c0 c1).yes h).2.2.2.2.1⟩⟩
theorem Dm.oth{K:Int}{c d:Int}{W W':Q8}(h:Dm W d)(sw:SW K W)(o:Ng c W W')(d0:0<=d)(d1:d<(W.ID.length:Int))(hd:d≠c):Dm W' d:=by
 refine⟨λk hu hz=>?_,λh0=>?_⟩
 ·rw[o.g.eB] at hu;have k0:=(Q4.1 hu).1;have:=h.on k hu hz;unfold Tr at this ⊢;rw[o.e k d k0 d0 hd,o.SM d0 hd,zlb (o.b k k0)];exact this
 ·rw[o.cp d d0 hd] at h0 ⊢;rw[Ju o.t];obtain⟨h1,h2⟩:=h.cu h0;refine⟨h1,?_⟩
  have hs:(Q6 W (gi W.ID d).cur).state=1:=by
   unfold ZL at h2;rw[A'] at h2;exact Iy h2.1
  have hu:=(sw.t _ h0 (sw.cu d d0 d1).2 (by rw[hs]; decide)).1;rw[o.line sw.a.tree hu (by rw[h1]; exact d0) (by rw[h1]; exact hd)];exact h2
theorem zo3{K:Int}{W:Q8}(sw:SW K W){c:Int}(c0:0<=c)(c1:c<(W.ID.length:Int)):Ng c W (VG W c)/\Dm (VG W c) c:=by
 obtain⟨p1,os,hon⟩:=zt6 sw.a c0 c1;have ol:=zqm sw.a c0 c1;obtain⟨f,hA,_⟩:=NW p1 c0 (c:=c) (by rw[os.c]; exact c1) 8 (I7 _);have f:FC c (QJ W c) (Zc (QJ W c) c):=f;have hon:∀g:Int,Q7 (QJ W c).IC g=true->g≠0->Tr (QJ W c) c g:=λg gu gz=>hon g (by rwa[os.g.eB] at gu) gz
 have SP:VG W c=if MX (Zc (QJ W c) c) c=true then Rp (Zc (QJ W c) c) c else Zc (QJ W c) c:=rfl;have hO:Ng c W (Zc (QJ W c) c):=ol.trans f.o;have hFc:(Zc (QJ W c) c).ID.length=W.ID.length:=hO.len;have hT:=f.o.g
 have BR9:∀k:Int,Q7 (Zc (QJ W c) c).IC k=true->k≠0->Tr (Zc (QJ W c) c) c k:=λk hu hz=>by
  rw[hT.eB] at hu;have k0:=(Q4.1 hu).1;have:=hon k hu hz;unfold Tr at this ⊢;rw[f.on k c k0 c0,Pq f.o.t hT λj _ _ _ _=>f.on _ c Qo c0,zlb (f.o.b k k0)];exact this
 rw[SP];clear SP;generalize Zc (QJ W c) c=F at BR9 hO hFc;have cF:c<(F.ID.length:Int):=by rw[hFc]; exact c1
 split
 ·refine⟨hO.trans (zog c0 cF),BR9,λh0=>?_⟩;rw[show gi (Rp F c).ID c=Js (gi F.ID c) from (QO _ _ c0 cF c0).trans (C' rfl)] at h0;have h0:(0:Int)<=-1:=h0;omega
 ·rename_i hg;have hg:MX F c=false:=by simpa using hg
  refine⟨hO,BR9,λh0=>?_⟩;unfold MX at hg;rw[Ih h0,Bool.true_and,H'] at hg;exact⟨by simpa using hg.1,by simpa using hg.2⟩
theorem zo1{K:Int}{W:Q8}(sw:SW K W)(hK:0<=K):∀c:Nat,c<=W.ID.length->∀d:Int,0<=d->d<(c:Int)->Dm (Jg W c) d
 | 0,_=>λd a b=>by omega
 | c+1,hc=>λd d0 d1=>by
  obtain⟨s1,f1⟩:=Lu sw hK c Qo;obtain⟨o,dm⟩:=zo3 s1 (c:=(c:Int)) Qo (by rw[f1.c]; omega)
  by_cases h:d=(c:Int)
  ·subst h; exact dm
  ·exact(zo1 sw hK c Qo d d0 Qo).oth s1 o d0 (by rw[f1.c]; omega) h
theorem zuu{K:Int}{W:Q8}(sw:SW K W)(hK:0<=K){d:Int}(d0:0<=d)(d1:d<(W.ID.length:Int)):Dm (Qh W) d:=by
 obtain⟨s1,o1⟩:=OV (F:=K) (K:=K+Qj) (sw.sf.mono (I2 _) (by simp only[Qj]; omega)) (I2 _) W.ID.length (I7 _);obtain⟨s2,b2⟩:=TW s1 8 (I7 _);exact zo1 s2.w (by simp only[Qj]; omega) W.ID.length (by show W.ID.length<=(Yg (Yl W W.ID.length) 8).ID.length; rw[b2.c,o1.c]; exact I7 _) d d0 d1
structure zri (W:Q8) (t c:Int):Prop where
 t0:0<=t
 t1:t<12
 st:(Q6 W t).state=1
 J':(Q6 W t).J'=c
 on:∀x∈Zd W.IC (Q6 W t).group,(Qc W x c).on=true
theorem zue{W:Q8}(ha:WA W){c:Int}(f:Nat):∀g:Int,Q7 W.IC g=true->(4-dep 3 W.IC g).toNat=f->(∀x∈Zd W.IC g,(Qc W x c).on=true)->0<=Lk W g c->zri W (Lk W g c) c:=by
 induction f with
 | zero=>
  intro g hu hf;have:=H2 ha hu;omega
 | succ f ih=>
  intro g hu hf hp h;rw[Ag ha hu] at h ⊢
  by_cases h1:QY W g c<0
  ·rw[C' h1] at h; omega
  ·rw[B' h1] at h ⊢
   by_cases h2:QY W g c<12
   ·rw[C' h2] at h ⊢
    have hm:Zr W g c (QY W g c).toNat=true:=by
     rcases Zv (Zr W g c) (Zl W c) 20 with ⟨a,_⟩ | ⟨_,_,a,_⟩
     ·unfold QY at h1; omega
     ·exact a
    rw[Vs Qo] at hm;unfold Pp at hm;rw[show (((QY W g c).toNat:Nat):Int)=QY W g c by omega] at hm;simp only[A',Is] at hm;refine⟨h,h2,hm.1.1,hm.2,?_⟩;rw[show (Q6 W (QY W g c)).group=g from hm.1.2];exact hp
   ·rw[B' h2] at h ⊢;obtain⟨k1,k2,k3,k4⟩:=Da ha hu (g:=g) (c:=c) Qo
    have hm:Zr W g c (QY W g c).toNat=true:=by
     rcases Zv (Zr W g c) (Zl W c) 20 with ⟨a,_⟩ | ⟨_,_,a,_⟩
     ·unfold QY at h1; omega
     ·exact a
    rw[show (QY W g c).toNat=12+(QY W g c-12).toNat by omega,Uo] at hm;unfold Jy at hm;rw[show (((QY W g c-12).toNat:Nat):Int)=QY W g c-12 by omega] at hm;simp only[A',Is] at hm;refine ih _ k1 Qo (λx hx=>?_) h;rw[YU ha.tree k1 k2] at hx;rcases Ii.1 hx with e | e
    ·rw[e]; exact hm.2
    ·rw[hm.1.2.2] at e; exact hp x e
theorem zum{W:Q8}(ha:WA W){c:Int}(h12:(gi W.ID c).cur<12)(hcu:0<=(gi W.ID c).cur->(Q6 W (gi W.ID c).cur).J'=c/\ZL W (gi W.ID c).cur=true)(h:¬Qw W c<0):zri W (Qw W c) c:=by
 unfold Qw at h ⊢;split
 ·rename_i hc;obtain⟨h1,h2⟩:=hcu hc.1;unfold ZL VC at h2;rw[A',List.all_eq_true,h1] at h2;exact⟨hc.1,h12,Iy h2.1,h1,h2.2⟩
 ·rename_i hc;rw[B' hc] at h;exact zue ha _ 0 ha.root rfl (λx hx=>by rw[show Zd W.IC 0=[] from Zs _ _] at hx; cases hx) Qo
structure Od (W W':Q8):Prop where
 n:W'.now=W.now
 t:W'.tasks=W.tasks
 s:∀i d:Int,(Qc W' i d).sum=(Qc W i d).sum
 g:∀i:Int,(gi W'.IC i).sum=(gi W.IC i).sum
 b:∀i:Int,(gi W'.ID i).busy=(gi W.ID i).busy
 i:∀i:Int,(gi W'.ID i).idle=(gi W.ID i).idle
 u:∀i:Int,(gi W'.ID i).up=(gi W.ID i).up
 r:∀i:Int,(gi W'.ID i).WV=(gi W.ID i).WV\/(gi W'.ID i).WV=0
theorem Od.refl(W:Q8):Od W W:=⟨rfl,rfl,λ_ _=>rfl,λ_=>rfl,λ_=>rfl,λ_=>rfl,λ_=>rfl,λ_=>.inl rfl⟩
theorem Od.trans{A B C:Q8}(h:Od A B)(k:Od B C):Od A C:=
 ⟨k.n.trans h.n,k.t.trans h.t,λi d=>(k.s i d).trans (h.s i d),λi=>(k.g i).trans (h.g i),λi=>(k.b i).trans (h.b i),λi=>(k.i i).trans (h.i i),λi=>(k.u i).trans (h.u i),λi=>by
  rcases k.r i with e | e
  ·rcases h.r i with e2 | e2
   ·exact .inl (e.trans e2)
   ·exact .inr (e.trans e2)
  ·exact .inr e⟩
theorem zx5(W:Q8){g c:Int}{s:GO}(h:s.sum=(Qc W g c).sum):Od W (RF W g c s):=
 ⟨rfl,rfl,λi d=>Xc (f:=λG:ZX=>(gi G.IE d).sum) W.IC g (x:={ gi W.IC g with IE:=(gi W.IC g).IE.set c.toNat s }) (Xc (f:=GO.sum) (gi W.IC g).IE c h d) i,λi=>Xc (f:=ZX.sum) W.IC g (x:={ gi W.IC g with IE:=(gi W.IC g).IE.set c.toNat s }) rfl i,λ_=>rfl,λ_=>rfl,λ_=>rfl,λ_=>.inl rfl⟩
theorem zx4(W:Q8)(g:Int)(b:Vv):Od W (RL W g b):=
 ⟨rfl,rfl,λi d=>Xc (f:=λG:ZX=>(gi G.IE d).sum) W.IC g (x:={ gi W.IC g with IS:=b }) rfl i,λi=>Xc (f:=ZX.sum) W.IC g (x:={ gi W.IC g with IS:=b }) rfl i,λ_=>rfl,λ_=>rfl,λ_=>rfl,λ_=>.inl rfl⟩
theorem ztv{α:Type}[Inhabited α](l:List α)(k:Int)(x:α)(i:Int):gi (l.set k.toNat x) i=gi l i\/gi (l.set k.toNat x) i=x:=by
 unfold gi;simp only[List.getD_eq_getElem?_getD,List.getElem?_set];split
 ·split
  ·exact .inr rfl
  ·rename_i e hl;refine .inl ?_;rw[show l[i.toNat]? = none from List.getElem?_eq_none_iff.2 Qo]
 ·exact .inl rfl
theorem zs0(W:Q8)(c:Int):Od W (Rp W c):=
 ⟨rfl,rfl,λ_ _=>rfl,λ_=>rfl,λi=>Xc (f:=KV.busy) W.ID c (x:=Js (gi W.ID c)) rfl i,λi=>Xc (f:=KV.idle) W.ID c (x:=Js (gi W.ID c)) rfl i,λi=>Xc (f:=KV.up) W.ID c (x:=Js (gi W.ID c)) rfl i,λi=>by
  rcases ztv W.ID c (Js (gi W.ID c)) i with e | e
  ·exact .inl (by show (gi (W.ID.set c.toNat (Js (gi W.ID c))) i).WV=_; rw[e])
  ·exact .inr (by show (gi (W.ID.set c.toNat (Js (gi W.ID c))) i).WV=0; rw[e]; rfl)⟩
theorem AG(W:Q8)(c d:Int):∀k:Nat,Od W (Zq W c d k)
 | 0=>Od.refl _
 | k+1=>by
  simp only[Zq];split
  ·exact(AG W c d k).trans (zx5 _ rfl)
  ·exact AG W c d k
theorem Fo(W:Q8)(c:Int):∀j:Nat,Od W (Xd W c j)
 | 0=>Od.refl _
 | j+1=>(Fo W c j).trans (AG _ _ _ _)
theorem zf4(W:Q8):∀c:Nat,Od W (Yl W c)
 | 0=>Od.refl _
 | c+1=>(zf4 W c).trans (Fo (Yl W c) (c:Int) 3)
theorem AE(W:Q8)(k:Int):∀c:Nat,Od W (ZV W k c)
 | 0=>Od.refl _
 | c+1=>by
  simp only[ZV];split
  ·exact(AE W k c).trans (zx4 _ _ _)
  ·exact AE W k c
theorem AF(W:Q8):∀k:Nat,Od W (Yg W k)
 | 0=>Od.refl _
 | k+1=>by
  simp only[Yg];split
  ·exact(AF W k).trans (AE _ _ _)
  ·exact AF W k
theorem Fm(W:Q8)(c:Int):∀k:Nat,Od W (QT W c k)
 | 0=>Od.refl _
 | k+1=>by
  simp only[QT];split
  ·exact(Fm W c k).trans (zx5 _ rfl)
  ·exact Fm W c k
theorem zu0(W:Q8)(c:Int):Od W (VG W c):=by
 have h:=(Fo W c 3).trans (Fm (QJ W c) c 8);unfold VG;split
 ·exact h.trans (zs0 _ _)
 ·exact h
theorem zj8(W:Q8):∀c:Nat,Od W (Jg W c)
 | 0=>Od.refl _
 | c+1=>(zj8 W c).trans (zu0 (Jg W c) (c:Int))
theorem zq6(W:Q8):Od W (Qh W):=((zf4 W W.ID.length).trans (AF (Yl W W.ID.length) 8)).trans (zj8 (Gc (Yl W W.ID.length)) W.ID.length)
structure RB (S:Int) (W:Q8):Prop where
 n:W.now<=50000000000000000
 t:∀t:Int,0<=t->t<12->0<=(Q6 W t).sum/\(Q6 W t).sum<=S/\0<=(Q6 W t).used/\(Q6 W t).used<=S
 s:∀k c:Int,Q7 W.IC k=true->0<=c->c<(W.ID.length:Int)->0<=(Qc W k c).sum/\(Qc W k c).sum<=S
 g:∀k:Int,Q7 W.IC k=true->0<=(gi W.IC k).sum/\(gi W.IC k).sum<=S
 c:∀c:Int,0<=c->c<(W.ID.length:Int)->0<=(gi W.ID c).busy/\(gi W.ID c).busy<=S/\0<=(gi W.ID c).idle/\(gi W.ID c).idle<=50000000000000000/\0<=(gi W.ID c).WV/\(gi W.ID c).WV<=149
theorem RB.sum{S:Int}{W W':Q8}(h:RB S W)(k:Od W W')(hT:Z7 W.IC W'.IC)(hl:W'.ID.length=W.ID.length):RB S W':=by
 refine⟨by rw[k.n]; exact h.n,λt a b=>by rw[Ju k.t]; exact h.t t a b,λi c u a b=>?_,λi u=>?_,λc a b=>?_⟩
 ·rw[hT.eB] at u;rw[hl] at b;rw[k.s]; exact h.s i c u a b
 ·rw[hT.eB] at u;rw[k.g]; exact h.g i u
 ·rw[hl] at b;have:=h.c c a b;rw[k.b,k.i];refine⟨this.1,this.2.1,this.2.2.1,this.2.2.2.1,?_⟩;rcases k.r c with e | e
  ·rw[e]; exact this.2.2.2.2
  ·rw[e]; exact⟨Qo,Qo⟩
theorem z3x{W:Q8}(wp:Jq W)(r:Ga W):RB Qq W:=by
 have hl:=wp.a.gl;have ht:=wp.a.t;refine⟨r.n,λt a b=>?_,λk c u a b=>?_,λk u=>?_,λc a b=>?_⟩
 ·have h:=r.t t a Qo;rcases wp.t t a b with hz | ⟨_,hx⟩
  ·rw[hz.2]; decide
  ·exact⟨(YV.1 hx.s).1,h.2.1,(YV.1 hx.u).1,h.2.2⟩
 ·obtain⟨u0,u1,_⟩:=Q4.1 u;have hs:=wp.a.sl u;exact⟨(YV.1 (HO wp u a b).s).1,(r.s k c u0 u1 a Qo).2.2⟩
 ·obtain⟨u0,u1,hg⟩:=wp.a.u u;exact⟨(YV.1 hg.s).1,r.g k u0 Qo⟩
 ·have hc:=wp.c c a b;have hr:=r.c c a b;refine⟨(YV.1 hc.b).1,hr.1,(YV.1 hc.i).1,hr.2,?_⟩
  by_cases h:(gi W.ID c).cur<0
  ·rw[hc.no h]; decide
  ·have:=hc.yes Qo; omega
theorem zx7{b:Vv}(h:Pg b){c:Int}(c0:0<=c)(c1:c<(b.locals.length:Int)):Pg (Y5 b c).1/\(Y5 b c).1.locals.length=b.locals.length/\(Y5 b c).1.IX=b.IX:=by
 unfold Y5;split
 ·exact⟨h,rfl,rfl⟩
 ·rename_i hn;have hm:=zbu h.p1;have he:=h.each c c0 c1;have hs:=N4 b.locals c (ZH 20 b.Rx) c0 c1 b.locals.length;rw[C' c1] at hs;have p2:=h.p2;have su:=h.sum;have dl:=h.dl;refine⟨⟨h.q1,h.q2,?_,?_,?_,?_,?_,h.s1,h.s2,λd d0 d1=>?_,?_⟩,Qs,rfl⟩
  ·simp only[E']; exact h.l1
  ·simp only[E']; exact h.l2
  ·simp only[E']; exact h.dl
  ·show 0<=b.Rx-ZH 20 b.Rx; omega
  ·show b.Rx-ZH 20 b.Rx<=b.IX; omega
  ·simp only[E'] at d1;have hd:=h.each d d0 d1;show 0<=gi (b.locals.set c.toNat (ZH 20 b.Rx)) d/\gi (b.locals.set c.toNat (ZH 20 b.Rx)) d<=b.IX/\(gi (b.Rz.set c.toNat (ZH 20 b.Rx==0)) d=true->gi (b.locals.set c.toNat (ZH 20 b.Rx)) d=0/\b.Rx-ZH 20 b.Rx=0);rw[QO _ _ c0 c1 d0,QO _ _ c0 Qo d0];have hz:ZH 20 b.Rx=0->b.Rx=0:=λe=>by unfold ZH at e; split at e <;> omega
   by_cases e:c=d
   ·subst e;rw[C' rfl,C' rfl];refine⟨hm.1,Qo,λhd0=>?_⟩;have e0:ZH 20 b.Rx=0:=Iy hd0;have:=hz e0;exact⟨e0,Qo⟩
   ·rw[B' e,B' e];refine⟨hd.1,hd.2.1,λhd0=>?_⟩;have:=hd.2.2 hd0;exact⟨this.1,Qo⟩
  ·show b.Rx-ZH 20 b.Rx+b.Sr+VH (b.locals.set c.toNat (ZH 20 b.Rx)) (b.locals.set c.toNat (ZH 20 b.Rx)).length=b.IX;rw[E',hs];omega
theorem zuy{b:Vv}(h:Pg b){c n:Int}(c0:0<=c)(c1:c<(b.locals.length:Int)):Pg (J2 b c n).1/\(J2 b c n).1.locals.length=b.locals.length/\(J2 b c n).1.IX=b.IX:=by
 unfold J2;split
 ·exact⟨h,rfl,rfl⟩
 ·rename_i hn;have hs:=N4 b.locals c (gi b.locals c-n) c0 c1 b.locals.length;rw[C' c1] at hs;have hnn:=(zmt (λd d0 d1=>(h.each d d0 d1).1) c0 b.locals.length (I7 _)).2 c1;have p1:=h.p1;have su:=h.sum;have s1:=h.s1;have dl:=h.dl;have hn1:¬n<1:=λe=>hn (.inl e)
  have hn2:¬n>gi b.locals c:=λe=>hn (.inr e)
  refine⟨⟨h.q1,h.q2,?_,?_,?_,h.p1,h.p2,?_,?_,λd d0 d1=>?_,?_⟩,Qs,rfl⟩
  ·simp only[E']; exact h.l1
  ·simp only[E']; exact h.l2
  ·simp only[E']; exact h.dl
  ·show 0<=b.Sr+n; omega
  ·show b.Sr+n<=b.IX; omega
  ·simp only[E'] at d1;have hd:=h.each d d0 d1;show 0<=gi (b.locals.set c.toNat (gi b.locals c-n)) d/\gi (b.locals.set c.toNat (gi b.locals c-n)) d<=b.IX/\(gi b.Rz d=true->gi (b.locals.set c.toNat (gi b.locals c-n)) d=0/\b.Rx=0);rw[QO _ _ c0 c1 d0]
   by_cases e:c=d
   ·subst e;rw[C' rfl];exact⟨Qo,Qo,λhd0=>by have:=(hd.2.2 hd0).1; omega⟩
   ·rw[B' e];exact hd
  ·show b.Rx+(b.Sr+n)+VH (b.locals.set c.toNat (gi b.locals c-n)) (b.locals.set c.toNat (gi b.locals c-n)).length=b.IX;rw[E',hs];omega
def zhn(b:Vv)(c:Int):Nat->Nat
 | 0=>0
 | d+1=>zhn b c d+if (d:Int)≠c/\gi b.locals (d:Int)>0 then 1 else 0
def zrb(b:Vv)(c:Int):Nat:=if gi b.Rz c=true then 0 else 1
def JM(b:Vv)(c:Int):Nat:=9*zhn b c 4+zrb b c
theorem zr2(b:Vv)(c:Int):∀n:Nat,zhn b c n<=n
 | 0=>I7 _
 | n+1=>by
  have:=zr2 b c n;simp only[zhn]
  split <;> omega
theorem z0b(b:Vv)(c:Int):JM b c<=37:=by
 have:=zr2 b c 4;unfold JM zrb
 split <;> omega
def zit(W:Q8)(c:Int):Nat->Nat
 | 0=>0
 | k+1=>zit W c k+JM (gi W.IC (k:Int)).IS c
def GE(W:Q8)(c:Int):Nat:=zit W c 8
theorem Dh{W W':Q8}{c:Int}(h:∀k:Nat,k<8->JM (gi W'.IC (k:Int)).IS c<=JM (gi W.IC (k:Int)).IS c):∀k:Nat,k<=8->zit W' c k<=zit W c k
 | 0,_=>I7 _
 | k+1,hk=>by
  have:=Dh h k Qo;have:=h k Qo;simp only[zit];omega
theorem zsi{W W':Q8}{c:Int}(h:∀k:Nat,k<8->JM (gi W'.IC (k:Int)).IS c<=JM (gi W.IC (k:Int)).IS c){j:Nat}(hj:JM (gi W'.IC (j:Int)).IS c<JM (gi W.IC (j:Int)).IS c):∀k:Nat,j<k->k<=8->zit W' c k<zit W c k
 | 0,h0,_=>Ir h0 (Nat.not_lt_zero j)
 | k+1,gZ,hk=>by
  have h1:=Dh h k Qo;have h2:=h k Qo;simp only[zit]
  by_cases e:j=k
  ·subst e; omega
  ·have:=zsi h hj k Qo Qo;omega
theorem z0d(W:Q8)(c:Int):GE W c<=296:=by
 have key:∀k:Nat,zit W c k<=37*k:=by
  intro k
  induction k with
  | zero=>exact I7 _
  | succ k ih=>
   have:=z0b (gi W.IC (k:Int)).IS c;simp only[zit];omega
 exact key 8
theorem Db{b b':Vv}{c:Int}(h:∀d:Nat,(d:Int)≠c->gi b'.locals (d:Int)=gi b.locals (d:Int)):∀n:Nat,zhn b' c n=zhn b c n
 | 0=>rfl
 | n+1=>by
  simp only[zhn];rw[Db h n]
  by_cases e:(n:Int)=c
  ·simp[e]
  ·rw[h n e]
theorem znv{b b':Vv}{c:Int}{e:Nat}(he:(e:Int)≠c)(h0:gi b'.locals (e:Int)=0)(h1:gi b.locals (e:Int)>0)(h:∀d:Nat,d≠e->gi b'.locals (d:Int)=gi b.locals (d:Int)):∀n:Nat,zhn b' c n+(if e<n then 1 else 0)=zhn b c n
 | 0=>rfl
 | n+1=>by
  have ih:=znv he h0 h1 h n;simp only[zhn]
  by_cases hn:n=e
  ·subst hn;rw[B' (Nat.lt_irrefl n)] at ih;rw[C' (Nat.lt_succ_self n),B' (by rintro⟨_,h⟩; omega),C' ⟨he,h1⟩];omega
  ·rw[h n hn];generalize (if (n:Int)≠c/\gi b.locals (n:Int)>0 then 1 else 0)=y
   by_cases IT:e<n
   ·rw[C' IT] at ih;rw[C' Qo];omega
   ·rw[B' IT] at ih;rw[B' Qo];omega
theorem zxh{b:Vv}(h:Pg b){c:Int}{e:Nat}(e1:(e:Int)<(b.locals.length:Int))(hp:gi b.locals (e:Int)>0):JM (YG b (e:Int)) c<=JM b c:=by
 have hl:=h.l2
 have Sk:∀d:Nat,gi (YG b (e:Int)).locals (d:Int)=if e=d then 0 else gi b.locals (d:Int):=λd=>by
  show gi (b.locals.set (e:Int).toNat 0) (d:Int)=_;rw[QO _ _ Qo e1 Qo]
  by_cases h:e=d
  ·subst h; simp
  ·rw[B' h,B' Qo]
 unfold JM
 by_cases hc:(e:Int)=c
 ·have h1:=Db (b:=b) (b':=YG b (e:Int)) (c:=c) (λd hd=>by rw[Sk d,B' (λh=>hd (by rw[<-h]; exact hc))]) 4
  have hw:gi b.Rz c=false:=by
   cases hd:gi b.Rz c with
   | false=>rfl
   | true=>
    have:=((h.each c Qo Qo).2.2 hd).1;rw[<-hc] at this; omega
  rw[h1];unfold zrb;rw[hw]
  split <;> simp
 ·have h1:=znv (b:=b) (b':=YG b (e:Int)) (c:=c) hc (by rw[Sk e,C' rfl]) hp (λd hd=>by rw[Sk d,B' (λh=>hd h.symm)]) 4;rw[C' Qo] at h1;have:zrb (YG b (e:Int)) c<=1:=by unfold zrb; split <;> omega
  omega
theorem zxi{b:Vv}{c:Int}(c0:0<=c)(c1:c<(b.locals.length:Int))(hdl:b.Rz.length=b.locals.length)(hw:gi b.Rz c=false):JM (Y5 b c).1 c<=JM b c/\((Y5 b c).2=2->JM (Y5 b c).1 c<JM b c)/\((Y5 b c).2≠2->gi (Y5 b c).1.Rz c=false):=by
 unfold Y5;split
 ·exact⟨I7 _,λh=>(by cases h),λ_=>hw⟩
 ·have h1:=Db (b:=b) (b':=⟨b.IX,b.Rx-ZH 20 b.Rx,b.Sr,b.locals.set c.toNat (ZH 20 b.Rx),b.Rz.set c.toNat (ZH 20 b.Rx==0)⟩) (c:=c) (λd hd=>by
   show gi (b.locals.set c.toNat (ZH 20 b.Rx)) (d:Int)=_;rw[QO _ _ c0 c1 Qo,B' λh=>hd h.symm]) 4
  have hd:gi (b.Rz.set c.toNat (ZH 20 b.Rx==0)) c=(ZH 20 b.Rx==0):=by rw[QO _ _ c0 Qo c0,C' rfl]
  unfold JM;rw[h1];unfold zrb;rw[hw];simp only[hd]
  by_cases hm:ZH 20 b.Rx=0
  ·rw[C' (show (ZH 20 b.Rx==0)=true by rw[hm]; rfl),B' Qd];exact⟨Qo,λ_=>by omega,λh=>Ir (C' hm) h⟩
  ·have hb:(ZH 20 b.Rx==0)=false:=by simpa using hm
   rw[hb];exact⟨I7 _,λh=>(by rw[B' hm] at h; cases h),λ_=>rfl⟩
theorem zul{b:Vv}{c n:Int}(c0:0<=c)(c1:c<(b.locals.length:Int)):JM (J2 b c n).1 c=JM b c:=by
 unfold J2;split
 ·rfl
 ·unfold JM zrb
  rw[Db (b:=b) (c:=c) (λd hd=>by
   show gi (b.locals.set c.toNat (gi b.locals c-n)) (d:Int)=_;rw[QO _ _ c0 c1 Qo,B' λh=>hd h.symm]) 4]
theorem zjp{F K:Int}{W:Q8}(h:SF F K W){k:Int}(hu:Q7 W.IC k=true)(hq:(gi W.IC k).IS.IX≠0)(c:Int):∀d:Nat,d<=W.ID.length->(∀j:Int,0<=j->JM (gi (ZV W k d).IC j).IS c<=JM (gi W.IC j).IS c)
 | 0,_=>λ_ _=>I7 _
 | d+1,hd=>by
  have ih:=zjp h hu hq c d Qo;obtain⟨a,b,q⟩:=Hi h hu hq d Qo;simp only[ZV];split
  ·rename_i hc;have hu':Q7 (ZV W k d).IC k=true:=by rw[b.g.eB]; exact hu
   obtain⟨u0,u1,hg⟩:=a.w.a.u hu';have hb:=hg.IS q;have hl:=a.w.a.gl;intro j hj;show JM (gi (Rm _ k _).IC j).IS c<=_;rw[Xo u0 Qo hj];split
   ·rename_i e;subst e;exact IA (zxh hb.1 (by rw[hb.2.1,b.c]; omega) hc.1) (ih k hj)
   ·exact ih j hj
  ·exact ih
theorem zjq{F K:Int}{W:Q8}(h:SF F K W)(c:Int):∀k:Nat,k<=8->∀j:Int,0<=j->JM (gi (Yg W k).IC j).IS c<=JM (gi W.IC j).IS c
 | 0,_=>λ_ _=>I7 _
 | k+1,hk=>by
  have ih:=zjq h c k Qo;obtain⟨a,b⟩:=TW h k Qo;have hl:=a.w.a.gl;simp only[Yg];split
  ·rename_i hc;exact λj hj=>IA (zjp a (Q4.2 ⟨Qo,Qo,hc.1⟩) hc.2 c _ (I7 _) j hj) (ih j hj)
  ·exact ih
theorem zth{K:Int}{W:Q8}(sw:SW K W){c:Int}(c0:0<=c)(c1:c<(W.ID.length:Int))(i:Int)(hi:0<=i):(gi (VG W c).IC i).IS=(gi W.IC i).IS:=(zo3 sw c0 c1).1.b i hi
theorem zi5{K:Int}{W:Q8}(sw:SW K W)(hK:0<=K)(i:Int)(hi:0<=i):∀c:Nat,c<=W.ID.length->(gi (Jg W c).IC i).IS=(gi W.IC i).IS
 | 0,_=>rfl
 | c+1,hc=>by
  obtain⟨s1,f1⟩:=Lu sw hK c Qo;rw[show Jg W (c+1)=VG (Jg W c) (c:Int) from rfl,zth s1 Qo (by rw[f1.c]; omega) i hi,zi5 sw hK i hi c Qo]
theorem zqo{K:Int}{W:Q8}(sw:SW K W)(hK:0<=K)(c:Int):GE (Qh W) c<=GE W c:=by
 obtain⟨s1,o1⟩:=OV (F:=K) (K:=K+Qj) (sw.sf.mono (I2 _) (by simp only[Qj]; omega)) (I2 _) W.ID.length (I7 _);obtain⟨s2,b2⟩:=TW s1 8 (I7 _);refine Dh (λk hk=>?_) 8 (I7 _);have h1:(gi (Qh W).IC (k:Int)).IS=(gi (Yg (Yl W W.ID.length) 8).IC (k:Int)).IS:=zi5 s2.w (by simp only[Qj]; omega) (k:Int) Qo W.ID.length (by show W.ID.length<=(Yg (Yl W W.ID.length) 8).ID.length; rw[b2.c,o1.c]; exact I7 _);rw[h1];have h2:=zjq s1 c 8 (I7 _) (k:Int) Qo;rw[o1.b (k:Int) Qo] at h2;exact h2
def Xf(W:Q8)(t:Int):List Int:=Zd W.IC (Q6 W t).group++[0]
def zb3(W:Q8)(c g:Int):Q8×Bool:=if (gi W.IC g).IS.IX=0 then (W,true) else (RL W g (Y5 (gi W.IC g).IS c).1,decide ((Y5 (gi W.IC g).IS c).2≠2))
def zkd(c:Int):List Int->Q8->Q8×Bool
 | [],W=>(W,true)
 | g::l,W=>if (zb3 W c g).2=true then zkd c l (zb3 W c g).1 else ((zb3 W c g).1,false)
def zod(W:Q8)(c g n:Int):Int:=if (gi W.IC g).IS.IX>0 then ZH n (gi (gi W.IC g).IS.locals c) else n
def zez(W:Q8)(c:Int):List Int->Int->Int
 | [],n=>n
 | g::l,n=>zez W c l (zod W c g n)
def zbn(W:Q8)(c n g:Int):GO:={ Qc W g c with v:=if g≠0 then (Qc W g c).v+Zh n (Qc W g c).w else (Qc W g c).v,sum:=(Qc W g c).sum+n }
def zi6(W:Q8)(c n g:Int):Vv:=if (gi W.IC g).IS.IX>0 then (ZU (gi W.IC g).IS ⟨2,c,n⟩).1 else (gi W.IC g).IS
def GY(W:Q8)(c n g:Int):Q8:=RF W g c (zbn W c n g)
def AM(W:Q8)(c n g:Int):ZX:={ gi (GY W c n g).IC g with sum:=(gi W.IC g).sum+n }
def zc7(W:Q8)(c n g:Int):Q8:=RL (Rm (GY W c n g) g (AM W c n g)) g (zi6 W c n g)
def zk4(c n:Int):List Int->Q8->Q8
 | [],W=>W
 | g::l,W=>zk4 c n l (zc7 W c n g)
def GZ(W:Q8)(t n:Int):KW:={ Q6 W t with v:=(Q6 W t).v+Zh n (Qe (Q6 W t).nice),sum:=(Q6 W t).sum+n,used:=(Q6 W t).used+n }
def zrs(W:Q8)(c n:Int):KV:={ gi W.ID c with busy:=(gi W.ID c).busy+n,WV:=(gi W.ID c).WV+n }
def MD(W:Q8)(c t n:Int):Q8:=Se (zk4 c n (Xf W t) (IM W t (GZ W t n))) c (zrs W c n)
def YJ(W:Q8)(c t:Int):KV:=if t≠(gi W.ID c).cur\/(gi W.ID c).WV>=50 then { gi W.ID c with cur:=t,WV:=0 } else gi W.ID c
def Xw(W:Q8)(c t:Int):Q8:=Se W c (YJ W c t)
def Hj(W:Q8)(c n:Int):KV:={ gi W.ID c with idle:=(gi W.ID c).idle+n }
def Xl(W:Q8)(c:Int):Q8×Bool:=zkd c (Xf W (Qw W c)) (Xw W c (Qw W c))
def Vt(W:Q8)(c left:Int):Int:=zez (Xl W c).1 c (Xf W (Qw W c)) left
def BV(W:Q8)(c left:Int):Q8×Int:=
 if (Xl W c).2=true then (Qh (MD (Xl W c).1 c (Qw W c) (Vt W c left)),left-Vt W c left) else (Qh (Rp (Xl W c).1 c),left)
def zfr(c:Int):Nat->Q8->Int->Q8
 | 0,W,_=>W
 | f+1,W,left=>if left<=0 then Qh W else if Qw W c<0 then Qh (Rp (Se W c (Hj W c left)) c) else zfr c f (BV W c left).1 (BV W c left).2
structure zve (K c:Int) (W W':Q8):Prop where
 sw:SW K W'
 o:Tv W W'
 q:∀i:Int,0<=i->(gi W'.IC i).IS.IX=(gi W.IC i).IS.IX
 l:∀i:Int,0<=i->gi (gi W.IC i).IS.locals c>0->gi (gi W'.IC i).IS.locals c>0
 p:∀i:Int,0<=i->JM (gi W'.IC i).IS c<=JM (gi W.IC i).IS c
 su:Od W W'
theorem zve.refl{K c:Int}{W:Q8}(h:SW K W):zve K c W W:=⟨h,Tv.refl _,λ_ _=>rfl,λ_ _ h=>h,λ_ _=>I7 _,Od.refl _⟩
theorem zve.trans{K c:Int}{A B C:Q8}(h:zve K c A B)(k:zve K c B C):zve K c A C:=⟨k.sw,h.o.trans k.o,λi hi=>(k.q i hi).trans (h.q i hi),λi hi g=>k.l i hi (h.l i hi g),λi hi=>IA (k.p i hi) (h.p i hi),h.su.trans k.su⟩
theorem zu1{b:Vv}(h:Pg b){c:Int}(c0:0<=c)(c1:c<(b.locals.length:Int)):(gi b.locals c>0->(Y5 b c).1=b)/\((Y5 b c).2≠2->gi (Y5 b c).1.locals c>0):=by
 unfold Y5;split
 ·rename_i hp;exact⟨λ_=>rfl,λ_=>hp⟩
 ·rename_i hn;refine⟨λh=>Ir h hn,λh2=>?_⟩;show gi (b.locals.set c.toNat (ZH 20 b.Rx)) c>0;rw[QO _ _ c0 c1 c0,C' rfl];have hm:=zbu h.p1
  by_cases e:ZH 20 b.Rx=0
  ·exact Ir (C' e) h2
  ·omega
theorem zya{K c:Int}{W:Q8}(sw:SW K W)(c0:0<=c)(c1:c<(W.ID.length:Int)){g:Int}(hu:Q7 W.IC g=true)(hd:(gi W.IC g).IS.IX≠0->gi (gi W.IC g).IS.Rz c=false) :
  zve K c W (zb3 W c g).1/\((zb3 W c g).2=true->((gi W.IC g).IS.IX≠0->gi (gi (zb3 W c g).1.IC g).IS.locals c>0)/\∀i:Int,0<=i->((gi W.IC i).IS.IX≠0->gi (gi W.IC i).IS.Rz c=false)->(gi W.IC i).IS.IX≠0->gi (gi (zb3 W c g).1.IC i).IS.Rz c=false)
   /\ ((zb3 W c g).2=false->JM (gi (zb3 W c g).1.IC g).IS c<JM (gi W.IC g).IS c):=by
 obtain⟨u0,u1,hg⟩:=sw.a.u hu;have dD:=sw.a.gl;unfold zb3;split
 ·rename_i hq;exact⟨zve.refl sw,λ_=>⟨λh=>Ir hq h,λi _ h h2=>h h2⟩,λh=>by cases h⟩
 ·rename_i hq;obtain⟨hb,hbl,_⟩:=hg.IS hq;have tL:c<((gi W.IC g).IS.locals.length:Int):=Qo;obtain⟨bR,hl2,hq2⟩:=zx7 hb c0 tL;obtain⟨p1,p2,p3⟩:=zxi c0 tL hb.dl (hd hq);obtain⟨l1,l2⟩:=zu1 hb c0 tL;have ha:=sw.a.RL (g:=g) hu hq bR (by rw[hl2]; exact hbl) hq2;have e:∀i:Int,0<=i->gi (RL W g (Y5 (gi W.IC g).IS c).1).IC i=if g=i then { gi W.IC g with IS:=(Y5 (gi W.IC g).IS c).1 } else gi W.IC i:=λi hi=>Xo u0 Qo hi
  have ob:=Aj (W:=W) (b:=(Y5 (gi W.IC g).IS c).1) u0 Qo;refine⟨⟨(sw.sf.A21 ob ha).w,ob,λi hi=>?_,λi hi h=>?_,λi hi=>?_,zx4 _ _ _⟩,λh=>?_,λh=>?_⟩
  ·show (gi (RL W g _).IC i).IS.IX=_;rw[e i hi]; split
   ·rename_i e; subst e; exact hq2
   ·rfl
  ·show gi (gi (RL W g _).IC i).IS.locals c>0;rw[e i hi]; split
   ·rename_i e; subst e;show gi (Y5 (gi W.IC g).IS c).1.locals c>0;rw[l1 h]; exact h
   ·exact h
  ·show JM (gi (RL W g _).IC i).IS c<=_;rw[e i hi]; split
   ·rename_i e; subst e; exact p1
   ·exact I7 _
  ·have h:(Y5 (gi W.IC g).IS c).2≠2:=Ot h;refine⟨λ_=>?_,λi hi h1 h2=>?_⟩
   ·show gi (gi (RL W g _).IC g).IS.locals c>0;rw[e g u0,C' rfl];exact l2 h
   ·show gi (gi (RL W g _).IC i).IS.Rz c=false;rw[e i hi]; split
    ·rename_i e; subst e; exact p3 h
    ·exact h1 h2
  ·have h:(Y5 (gi W.IC g).IS c).2=2:=Iq λhn=>Ou h hn
   show JM (gi (RL W g _).IC g).IS c<_;rw[e g u0,C' rfl];exact p2 h
theorem zyb{K c:Int}(c0:0<=c):∀(l:List Int) {W:Q8},SW K W->c<(W.ID.length:Int)->(∀g∈l,Q7 W.IC g=true)->(∀g∈l,(gi W.IC g).IS.IX≠0->gi (gi W.IC g).IS.Rz c=false)->
  zve K c W (zkd c l W).1/\((zkd c l W).2=true->∀g∈l,(gi W.IC g).IS.IX≠0->gi (gi (zkd c l W).1.IC g).IS.locals c>0)/\((zkd c l W).2=false->∃g∈l,JM (gi (zkd c l W).1.IC g).IS c<JM (gi W.IC g).IS c)
 | [],W,sw,_,_,_=>⟨zve.refl sw,λ_ g hg=>(by cases hg),λh=>by cases h⟩
 | g::l,W,sw,c1,hu,hd=>by
  obtain⟨a,b,d⟩:=zya sw c0 c1 (hu g I9) (hd g I9);simp only[zkd]
  by_cases h2:(zb3 W c g).2=true
  ·rw[C' h2];obtain⟨b1,b2⟩:=b h2;have h0:∀x∈l,0<=x:=λx hx=>(Q4.1 (hu x (I1 _ hx))).1
   obtain⟨a',b',d'⟩:=zyb c0 l (W:=(zb3 W c g).1) a.sw (by rw[a.o.c]; exact c1) (λx hx=>by rw[a.o.g.eB]; exact hu x (I1 _ hx)) λx hx hq=>by
    rw[a.q x (h0 x hx)] at hq;exact b2 x (h0 x hx) (hd x (I1 _ hx)) hq
   refine⟨a.trans a',λh x hx hq=>?_,λh=>?_⟩
   ·rcases Ii.1 hx with e | e
    ·subst e;exact a'.l x (Q4.1 (hu x I9)).1 (b1 hq)
    ·exact b' h x e (by rw[a.q x (h0 x e)]; exact hq)
   ·obtain⟨x,hx,IT⟩:=d' h;exact⟨x,I1 _ hx,Nat.lt_of_lt_of_le IT (a.p x (h0 x hx))⟩
  ·rw[B' h2];exact⟨a,λh=>(by cases h),λ_=>⟨g,I9,d (by simpa using h2)⟩⟩
theorem zjl{W:Q8}{c:Int}:∀(l:List Int) (n:Int),1<=n->(∀g∈l,(gi W.IC g).IS.IX>0->gi (gi W.IC g).IS.locals c>0)->1<=zez W c l n/\zez W c l n<=n
 | [],n,h,_=>⟨h,I2 _⟩
 | g::l,n,h,hl=>by
  simp only[zez]
  have hm:1<=zod W c g n/\zod W c g n<=n:=by
   unfold zod;split
   ·rename_i hq;have:=hl g I9 hq;unfold ZH
    split <;> omega
   ·exact⟨h,I2 _⟩
  have:=zjl l (zod W c g n) hm.1 λx hx=>hl x (I1 _ hx)
  omega
theorem Dp(n w:Int)(h0:0<=n)(h1:n<=100):0<=Zh n w/\Zh n w<=Qj:=by
 by_cases h:1<=w/\w<=20
 ·rw[PI h0 Qo h.1 h.2];have hs:=zf2 h.1 h.2;refine⟨Int.mul_nonneg h0 Qo,?_⟩
  calc n*zj7 w<=100*zj7 w:=Int.mul_le_mul_of_nonneg_right h1 Qo
   _<=100*232792560:=Int.mul_le_mul_of_nonneg_left hs.2 Qd
   _<=Qj:=Qd
 ·rw[Dq Qo]; exact⟨I2 _,Qd⟩
theorem ztf{b:Vv}(h:Pg b){c n:Int}(c0:0<=c)(c1:c<(b.locals.length:Int)):Pg (ZU b ⟨2,c,n⟩).1/\(ZU b ⟨2,c,n⟩).1.locals.length=b.locals.length/\(ZU b ⟨2,c,n⟩).1.IX=b.IX/\JM (ZU b ⟨2,c,n⟩).1 c=JM b c:=by
 have e:ZU b ⟨2,c,n⟩=J2 b c n:=by
  unfold ZU;rw[B' (show ¬(2:Int)=4 by decide),B' (by rw[Qx.2 (by show 0<=c/\c<=_; omega)]; decide),B' (show ¬(2:Int)=1 by decide),C' rfl]
 rw[e];obtain⟨a,b',d⟩:=zuy h (n:=n) c0 c1;exact⟨a,b',d,zul c0 c1⟩
structure zyk (K S c n:Int) (W W':Q8):Prop where
 sw:SW K W'
 rb:RB S W'
 now:W'.now=W.now
 t:W'.tasks=W.tasks
 cp:W'.ID=W.ID
 g:Z7 W.IC W'.IC
 p:∀i:Int,0<=i->JM (gi W'.IC i).IS c=JM (gi W.IC i).IS c
theorem zpw{K S c n:Int}{W:Q8}(sw:SW K W)(rb:RB S W)(hS:S+n<=100000000000000000)(c0:0<=c)(c1:c<(W.ID.length:Int)){g:Int}(hu:Q7 W.IC g=true)(n0:0<=n)(n1:n<=100):zyk (K+Qj) (S+n) c n W (zc7 W c n g):=by
 obtain⟨u0,u1,hg⟩:=sw.a.u hu;have dD:=sw.a.gl;have hsl:=sw.a.sl hu;have hsr:=sw.s g c hu c0 c1;have hv:=Dp n (Qc W g c).w n0 n1;have hlg:0<=Qj:=Qd;have ea:∀{i:Int},0<=i->gi (GY W c n g).IC i=if g=i then { gi W.IC g with IE:=(gi W.IC g).IE.set c.toNat (zbn W c n g) } else gi W.IC i:=λhi=>Xo u0 Qo hi
 have eg:∀i:Int,0<=i->gi (zc7 W c n g).IC i=if g=i then { gi W.IC g with IE:=(gi W.IC g).IE.set c.toNat (zbn W c n g),sum:=(gi W.IC g).sum+n,IS:=zi6 W c n g } else gi W.IC i:=λi hi=>by
  have mR:g<((Rm (GY W c n g) g (AM W c n g)).IC.length:Int):=by
   have:(Rm (GY W c n g) g (AM W c n g)).IC.length=W.IC.length:=by simp[Rm,GY,RF]
   rw[this]; omega
  have hl2:g<((GY W c n g).IC.length:Int):=by
   have:(GY W c n g).IC.length=W.IC.length:=by simp[Rm,GY,RF]
   rw[this]; omega
  unfold zc7 RL;rw[Xo u0 mR hi,Xo u0 hl2 hi,Xo u0 hl2 u0,C' rfl,ea hi];split
  ·unfold AM;rw[ea u0,C' rfl]
  ·rfl
 have es:∀i d:Int,0<=i->0<=d->Qc (zc7 W c n g) i d=if g=i/\c=d then zbn W c n g else Qc W i d:=λi d hi hd=>by
  rw[<-Vf (W:=W) (s:=zbn W c n g) u0 Qo c0 Qo hi hd];unfold Qc;show gi (gi (zc7 W c n g).IC i).IE d=gi (gi (GY W c n g).IC i).IE d;rw[eg i hi,ea hi]
  split <;> rfl
 have hT:Z7 W.IC (zc7 W c n g).IC:=by
  have t1:=Jm (W:=W) (g:=g) (c:=c) (s:=zbn W c n g) u0 Qo;have t2:=Uj (W:=GY W c n g) (g:=g) (x:=AM W c n g) u0 (by show g<((GY W c n g).IC.length:Int); rw[show (GY W c n g).IC.length=W.IC.length from t1.len]; omega) rfl rfl rfl;have t3:=Uj (W:=Rm (GY W c n g) g (AM W c n g)) (g:=g) (x:={ gi (Rm (GY W c n g) g (AM W c n g)).IC g with IS:=zi6 W c n g }) u0 (by rw[t2.len,show (GY W c n g).IC.length=W.IC.length from t1.len]; omega) rfl rfl rfl;exact(t1.trans t2).trans t3
 have hB:(zi6 W c n g).IX=(gi W.IC g).IS.IX/\JM (zi6 W c n g) c=JM (gi W.IC g).IS c/\((gi W.IC g).IS.IX=0->zi6 W c n g=(gi W.IC g).IS)/\((gi W.IC g).IS.IX≠0->Pg (zi6 W c n g)/\(zi6 W c n g).locals.length=W.ID.length):=by
  unfold zi6;split
  ·rename_i hq;obtain⟨hb,hbl,_⟩:=hg.IS Qo;obtain⟨a,b,d,e⟩:=ztf hb (n:=n) c0 Qo;exact⟨d,e,λh=>by omega,λ_=>⟨a,by rw[b]; exact hbl⟩⟩
  ·rename_i hq;refine⟨rfl,rfl,λ_=>rfl,λh=>?_⟩;obtain⟨hb,hbl,_⟩:=hg.IS h;exact⟨hb,hbl⟩
 have hrg:=rb.g g hu
 have hW:WA (zc7 W c n g):=by
  have hl:=sw.a;refine⟨hl.n1,hl.n2,hl.c1,hl.c2,hl.t,hT.tree hl.tree,hl.ups,λk k0 k1=>?_⟩;unfold Kz;rw[eg k k0];split
  ·rename_i e;subst e;refine⟨λh=>?_,λ_=>⟨hg.w1,hg.w2,hg.m,hg.m0,YV.2 ⟨by show 0<=(gi W.IC g).sum+n; omega,by show (gi W.IC g).sum+n<=_; omega⟩,by show (List.set _ _ _).length=_; rw[E']; exact hg.len,λh=>⟨(hg.root h).1,(hg.root h).2.1,by show (zi6 W c n g).IX=0; rw[hB.1]; exact(hg.root h).2.2⟩,λh=>?_,λh=>?_⟩⟩
   ·have h:(gi W.IC g).used=false:=h;rw[(Q4.1 hu).2.2] at h; cases h
   ·have h:(zi6 W c n g).IX=0:=h;rw[hB.1] at h;have:=hg.none h;exact⟨by show OY (zi6 W c n g)=true; rw[hB.2.2.1 h]; exact this.1,this.2⟩
   ·have h:(zi6 W c n g).IX≠0:=h;rw[hB.1] at h;obtain⟨_,_,hp⟩:=hg.IS h;exact⟨(hB.2.2.2 h).1,(hB.2.2.2 h).2,hp⟩
  ·have:=hl.grp k k0 k1;exact⟨this.1,λhu=>by have:=this.2 hu; exact⟨this.w1,this.w2,this.m,this.m0,this.s,this.len,this.root,this.none,this.IS⟩⟩
 refine⟨⟨hW,λt a b m=>?_,λt a b=>?_,λk d u a b=>?_,sw.cu⟩,⟨rb.n,λt a b=>?_,λk d u a b=>?_,λk u=>?_,λd a b=>?_⟩,rfl,rfl,rfl,hT,λi hi=>?_⟩
 ·rw[hT.eB]; exact sw.t t a b m
 ·have:=sw.tv t a b;exact⟨this.1,by show (Q6 W t).v<=_; omega⟩
 ·rw[hT.eB] at u;have hk:=(Q4.1 u).1;have h:=sw.s k d u a b;rw[es k d hk a];split
  ·refine⟨hsr.1,by show (Qc W g c).floor<=_; omega,?_,?_,hsr.2.2.2.2.1,hsr.2.2.2.2.2⟩
   ·show 0<=if g≠0 then (Qc W g c).v+Zh n (Qc W g c).w else (Qc W g c).v
    split <;> omega
   ·show (if g≠0 then (Qc W g c).v+Zh n (Qc W g c).w else (Qc W g c).v)<=_
    split <;> omega
  ·exact⟨h.1,Qo,h.2.2.1,Qo,h.2.2.2.2.1,h.2.2.2.2.2⟩
 ·have:=rb.t t a b;exact⟨this.1,by show (Q6 W t).sum<=_; omega,this.2.2.1,by show (Q6 W t).used<=_; omega⟩
 ·rw[hT.eB] at u;have hk:=(Q4.1 u).1;have h:=rb.s k d u a b;rw[es k d hk a];split
  ·have h2:=rb.s g c hu c0 c1;exact⟨by show 0<=(Qc W g c).sum+n; omega,by show (Qc W g c).sum+n<=_; omega⟩
  ·exact⟨h.1,Qo⟩
 ·rw[hT.eB] at u;have h:=rb.g k u;rw[eg k (Q4.1 u).1];split
  ·exact⟨by show 0<=(gi W.IC g).sum+n; omega,by show (gi W.IC g).sum+n<=_; omega⟩
  ·exact⟨h.1,Qo⟩
 ·have:=rb.c d a b;exact⟨this.1,by show (gi W.ID d).busy<=_; omega,this.2.2.1,this.2.2.2.1,this.2.2.2.2⟩
 ·rw[eg i hi];split
  ·rename_i e; subst e; exact hB.2.1
  ·rfl
theorem RB.mono{S S':Int}{W:Q8}(h:RB S W)(k:S<=S'):RB S' W:=
 ⟨h.n,λt a b=>by have:=h.t t a b; omega,λk c u a b=>by have:=h.s k c u a b; omega,λk u=>by have:=h.g k u; omega,λc a b=>by have:=h.c c a b; omega⟩
theorem RB.Se{S:Int}{W:Q8}(h:RB S W){c:Int}(c0:0<=c)(c1:c<(W.ID.length:Int)){x:KV}(hx:0<=x.busy/\x.busy<=S/\0<=x.idle/\x.idle<=50000000000000000/\0<=x.WV/\x.WV<=149):RB S (Se W c x):=by
 have hl:(W.ID.set c.toNat x).length=W.ID.length:=E';refine⟨h.n,h.t,λk d u a b=>?_,h.g,λd a b=>?_⟩
 ·have b:d<(((W.ID.set c.toNat x).length:Nat):Int):=b;rw[hl] at b;exact h.s k d u a b
 ·have b:d<(((W.ID.set c.toNat x).length:Nat):Int):=b;rw[hl] at b;show _<=(gi (W.ID.set c.toNat x) d).busy/\(gi (W.ID.set c.toNat x) d).busy<=_/\_<=(gi (W.ID.set c.toNat x) d).idle/\(gi (W.ID.set c.toNat x) d).idle<=_/\_<=(gi (W.ID.set c.toNat x) d).WV/\(gi (W.ID.set c.toNat x) d).WV<=_;rw[QO _ _ c0 c1 a];split
  ·exact hx
  ·exact h.c d a b
theorem RB.IM{S:Int}{W:Q8}(h:RB S W)(hl:W.tasks.length=12){t:Int}(t0:0<=t)(t1:t<12){x:KW}(hx:0<=x.sum/\x.sum<=S/\0<=x.used/\x.used<=S):RB S (IM W t x):=by
 refine⟨h.n,λu a b=>?_,h.s,h.g,h.c⟩;show _<=(gi (W.tasks.set t.toNat x) u).sum/\(gi (W.tasks.set t.toNat x) u).sum<=_/\_<=(gi (W.tasks.set t.toNat x) u).used/\(gi (W.tasks.set t.toNat x) u).used<=_;rw[QO _ _ t0 Qo a];split
 ·exact hx
 ·exact h.t u a b
theorem zyk.trans{K S K' S' c n:Int}{A B C:Q8}(h:zyk K S c n A B)(k:zyk K' S' c n B C):zyk K' S' c n A C:=
 ⟨k.sw,k.rb,k.now.trans h.now,k.t.trans h.t,k.cp.trans h.cp,h.g.trans k.g,λi hi=>(k.p i hi).trans (h.p i hi)⟩
theorem zvw{c n:Int}(c0:0<=c)(n0:0<=n)(n1:n<=100):∀(l:List Int) {K S:Int} {W:Q8},SW K W->RB S W->S+100*(l.length:Int)<=100000000000000000->c<(W.ID.length:Int)->(∀g∈l,Q7 W.IC g=true)->
  zyk (K+Qj*(l.length:Int)) (S+100*(l.length:Int)) c n W (zk4 c n l W)
 | [],K,S,W,sw,rb,_,_,_=>⟨sw.mono Qs,rb.mono Qs,rfl,rfl,rfl,Z7.refl _,λ_ _=>rfl⟩
 | g::l,K,S,W,sw,rb,hS,c1,hu=>by
  rw[List.length_cons] at hS ⊢;have h1:=zpw sw rb Qo c0 c1 (hu g I9) n0 n1;have h2:=zvw c0 n0 n1 l (W:=zc7 W c n g) h1.sw (h1.rb.mono (show S+n<=S+100 by omega)) Qo (by rw[h1.cp]; exact c1) λx hx=>by rw[h1.g.eB]; exact hu x (I1 _ hx)
  have h3:=h1.trans h2;exact⟨h3.sw.mono (by simp only[Qj]; omega),h3.rb.mono Qo,h3.now,h3.t,h3.cp,h3.g,h3.p⟩
theorem z0c{W W':Q8}{c:Int}(h:∀i:Int,0<=i->JM (gi W'.IC i).IS c=JM (gi W.IC i).IS c):GE W' c=GE W c:=
 Nat.le_antisymm (Dh (λk _=>Nat.le_of_eq (h k Qo)) 8 (I7 _)) (Dh (λk _=>Nat.le_of_eq (h k Qo).symm) 8 (I7 _))
theorem zby{W:Q8}(ha:WA W){t:Int}(hu:Q7 W.IC (Q6 W t).group=true):(∀g∈Xf W t,Q7 W.IC g=true)/\(Xf W t).length<=4:=by
 refine⟨λg hg=>?_,?_⟩
 ·rcases Im.1 hg with h | h
  ·exact(X1 ha.tree _ hu g h).1
  ·rw[Iz.1 h]; exact ha.root
 ·have:=zfj W.IC 3 (Q6 W t).group;unfold Xf;rw[Io];show (Vj 3 W.IC (Q6 W t).group).length+1<=4;omega
theorem zmk{W W':Q8}(ht:W'.tasks=W.tasks)(hT:Z7 W.IC W'.IC)(t:Int):Xf W' t=Xf W t:=by
 unfold Xf;rw[Ju ht,O5 hT]
def BX(f:Nat):Int:=Qq+(400-(f:Int))*346860914400
def Ax(f:Nat):Int:=Qq+(400-(f:Int))*500
structure zgf (f:Nat) (c:Int) (W0 W:Q8) (left:Int):Prop where
 sw:SW (BX f) W
 rb:RB (Ax f) W
 dm:Dm W c
 c0:0<=c
 c1:c<(W.ID.length:Int)
 up:(gi W.ID c).up=true
 now:W.now=W0.now
 len:W.ID.length=W0.ID.length
 l0:0<=left
 l1:left<=100
 f1:left+GE W c<(f:Int)
 f2:f<=400
theorem BY{f:Nat}(h:f<=400):Qq<=BX f/\BX f<=50200000000000000:=by
 unfold BX Qq; omega
theorem zmm{f:Nat}(h:f<=400):Qq<=Ax f/\Ax f<=50000000000200000:=by
 unfold Ax Qq; omega
theorem zqx{W:Q8}(wp:Jq W)(r:Ga W){c n:Int}(c0:0<=c)(c1:c<(W.ID.length:Int))(up:(gi W.ID c).up=true)(n0:0<=n)(n1:n<=100):zgf 400 c W W n:=by
 have hp:=z0d W c;exact⟨(Mi wp r).mono (by unfold BX; omega),(z3x wp r).mono (by unfold Ax; omega),z3e wp c0 c1,c0,c1,up,rfl,rfl,n0,n1,Qo,I7 _⟩
theorem N3{K S:Int}{c t:Int}{W:Q8}(sw:SW K W)(rb:RB S W)(c0:0<=c)(c1:c<(W.ID.length:Int))(up:(gi W.ID c).up=true)(t0:0<=t)(t1:t<12) :
  SW K (Xw W c t)/\RB S (Xw W c t)/\(gi (Xw W c t).ID c).up=true/\(gi (Xw W c t).ID c).WV<50/\(gi (Xw W c t).ID c).cur=t/\(Xw W c t).ID.length=W.ID.length:=by
 have e:gi (Xw W c t).ID c=YJ W c t:=(QO _ _ c0 c1 c0).trans (C' rfl);have hl:(Xw W c t).ID.length=W.ID.length:=E';have hup:(YJ W c t).up=true:=by unfold YJ; split <;> exact up
 have hr:=rb.c c c0 c1;have hcu:=sw.cu c c0 c1;refine⟨sw.Se c0 c1 (AI (c:=c) (by rw[E']; exact sw.a.c2) c0 (by rw[E']; exact c1) (by rw[show gi (W.ID.set c.toNat (YJ W c t)) c=_ from e]; exact hup)) ?_ ?_,rb.Se c0 c1 ?_,by rw[e]; exact hup,?_,?_,hl⟩
 ·unfold YJ; split
  ·show -1<=t; omega
  ·exact hcu.1
 ·unfold YJ; split
  ·exact t1
  ·exact hcu.2
 ·unfold YJ; split
  ·exact⟨hr.1,hr.2.1,hr.2.2.1,hr.2.2.2.1,by show (0:Int)<=0; decide,by show (0:Int)<=149; decide⟩
  ·exact hr
 ·rw[e];unfold YJ; split
  ·show (0:Int)<50; decide
  ·omega
 ·rw[e];unfold YJ; split
  ·rfl
  ·rename_i h;exact Iq λhn=>h (.inl λe=>hn e.symm)
structure z4d (f:Nat) (c:Int) (W0 W:Q8) (left:Int):Prop where
 line:zri W (Qw W c) c
 us:Q7 W.IC (Q6 W (Qw W c)).group=true
 pin:∀g∈Xf W (Qw W c),Q7 W.IC g=true
 len:(Xf W (Qw W c)).length<=4
 s1:SW (BX (f+1)) (Xw W c (Qw W c))
 r1:RB (Ax (f+1)) (Xw W c (Qw W c))
 WV:(gi (Xw W c (Qw W c)).ID c).WV<50
 tk:zve (BX (f+1)) c (Xw W c (Qw W c)) (Xl W c).1
 dr:∀g∈Xf W (Qw W c),(gi (Xw W c (Qw W c)).IC g).IS.IX≠0->gi (gi (Xw W c (Qw W c)).IC g).IS.Rz c=false
 m:(Xl W c).2=true->1<=Vt W c left/\Vt W c left<=left
 ch:(Xl W c).2=true->SW (BX (f+1)+5*Qj) (MD (Xl W c).1 c (Qw W c) (Vt W c left))/\RB (Ax (f+1)+500) (MD (Xl W c).1 c (Qw W c) (Vt W c left))
 nx:zgf f c W0 (BV W c left).1 (BV W c left).2
 gt:Z7 W.IC (BV W c left).1.IC
theorem zk5{K S c t n:Int}{W:Q8}(sw:SW K W)(rb:RB S W)(hS:S+500<=100000000000000000)(c0:0<=c)(c1:c<(W.ID.length:Int))(up:(gi W.ID c).up=true)(WV:(gi W.ID c).WV<50)(t0:0<=t)(t1:t<12)(hu:Q7 W.IC (Q6 W t).group=true)(n0:0<=n)(n1:n<=100) :
  SW (K+5*Qj) (MD W c t n)/\RB (S+500) (MD W c t n)/\GE (MD W c t n) c=GE W c/\(MD W c t n).now=W.now/\(MD W c t n).ID.length=W.ID.length/\(gi (MD W c t n).ID c).up=true/\SW (K+Qj) (IM W t (GZ W t n))/\RB (S+100) (IM W t (GZ W t n))/\zyk (K+5*Qj) (S+500) c n (IM W t (GZ W t n)) (zk4 c n (Xf W t) (IM W t (GZ W t n))):=by
 have hv:=Dp n (Qe (Q6 W t).nice) n0 n1;have hlg:0<=Qj:=Qd;have htv:=sw.tv t t0 t1;have htr:=rb.t t t0 t1;have hcr:=rb.c c c0 c1;obtain⟨hp1,gW⟩:=zby sw.a hu;have s1:SW (K+Qj) (IM W t (GZ W t n)):=(sw.mono (K':=K+Qj) Qo).IM t0 t1 (x:=GZ W t n) (λh=>sw.t t t0 t1 h) (by show 0<=(Q6 W t).v+Zh n (Qe (Q6 W t).nice); omega) (by show (Q6 W t).v+Zh n (Qe (Q6 W t).nice)<=_; omega);have r1:RB (S+100) (IM W t (GZ W t n)):=(rb.mono (S':=S+100) Qo).IM sw.a.t t0 t1 (x:=GZ W t n) ⟨by show 0<=(Q6 W t).sum+n; omega,by show (Q6 W t).sum+n<=_; omega,by show 0<=(Q6 W t).used+n; omega,by show (Q6 W t).used+n<=_; omega⟩;have h0:=zvw c0 n0 n1 (Xf W t) s1 r1 Qo c1 hp1;have h2:zyk (K+5*Qj) (S+500) c n (IM W t (GZ W t n)) (zk4 c n (Xf W t) (IM W t (GZ W t n))):=⟨h0.sw.mono (by simp only[Qj]; omega),h0.rb.mono Qo,h0.now,h0.t,h0.cp,h0.g,h0.p⟩;have kR:(zk4 c n (Xf W t) (IM W t (GZ W t n))).ID=W.ID:=h2.cp
 have e:gi (MD W c t n).ID c=zrs W c n:=by
  show gi ((zk4 c n (Xf W t) (IM W t (GZ W t n))).ID.set c.toNat (zrs W c n)) c=_;rw[kR];exact(QO _ _ c0 c1 c0).trans (C' rfl)
 have hlen:(MD W c t n).ID.length=W.ID.length:=by
  show ((zk4 c n (Xf W t) (IM W t (GZ W t n))).ID.set c.toNat (zrs W c n)).length=_;rw[E',kR]
 have hcu:=sw.cu c c0 c1;refine⟨h2.sw.Se c0 (by rw[kR]; exact c1) (x:=zrs W c n) (AI (c:=c) ?_ c0 ?_ ?_) hcu.1 hcu.2,h2.rb.Se c0 (by rw[kR]; exact c1) (x:=zrs W c n) ⟨by show 0<=(gi W.ID c).busy+n; omega,by show (gi W.ID c).busy+n<=_; omega,hcr.2.2.1,hcr.2.2.2.1,by show 0<=(gi W.ID c).WV+n; omega,by show (gi W.ID c).WV+n<=149; omega⟩,z0c (W':=MD W c t n) h2.p,h2.now,hlen,by rw[e]; exact up,s1,r1,h2⟩
 ·rw[E',kR]; exact sw.a.c2
 ·rw[E',kR]; exact c1
 ·rw[show gi ((zk4 c n (Xf W t) (IM W t (GZ W t n))).ID.set c.toNat (zrs W c n)) c=_ from e]; exact up
theorem zfw{K S c:Int}{W:Q8}(sw:SW K W)(rb:RB S W)(hK:0<=K)(c0:0<=c)(c1:c<(W.ID.length:Int))(up:(gi W.ID c).up=true) :
  SW (K+Vu) (Qh W)/\RB S (Qh W)/\Dm (Qh W) c/\(gi (Qh W).ID c).up=true/\(Qh W).now=W.now/\(Qh W).ID.length=W.ID.length/\GE (Qh W) c<=GE W c:=by
 obtain⟨s,f⟩:=P2 sw hK;have su:=zq6 W;exact⟨s,rb.sum su f.g f.c,zuu sw hK c0 c1,by rw[su.u]; exact up,f.n,f.c,zqo sw hK c⟩
theorem zqw{f:Nat}{c left:Int}{W0 W:Q8}(h:zgf (f+1) c W0 W left)(hl:0<left)(hp:¬Qw W c<0):z4d f c W0 W left:=by
 have hf:=h.f2;have hh0:(0:Int)<=Qq:=Qd;have hK:=BY (f:=f+1) hf;have hS:=zmm (f:=f+1) hf;have c0:=h.c0;have c1:=h.c1;have eK:BX f=BX (f+1)+346860914400:=by unfold BX; omega
 have eS:Ax f=Ax (f+1)+500:=by unfold Ax; omega
 have mS:=zum h.sw.a (h.sw.cu c c0 c1).2 h.dm.cu hp;have hM:Vt W c left=zez (Xl W c).1 c (Xf W (Qw W c)) left:=rfl;have hT:Xl W c=zkd c (Xf W (Qw W c)) (Xw W c (Qw W c)):=rfl;have hR:BV W c left=if (Xl W c).2=true then (Qh (MD (Xl W c).1 c (Qw W c) (Vt W c left)),left-Vt W c left) else (Qh (Rp (Xl W c).1 c),left):=rfl;have t0:=mS.t0;have t1:=mS.t1;obtain⟨us,_,_⟩:=h.sw.t _ t0 t1 (by rw[mS.st]; decide);obtain⟨pin,CC7⟩:=zby h.sw.a us;obtain⟨s1,r1,u1,CW2,cu1,l1⟩:=N3 h.sw h.rb c0 c1 h.up t0 t1
 have hdr:∀g∈Xf W (Qw W c),(gi (Xw W c (Qw W c)).IC g).IS.IX≠0->gi (gi (Xw W c (Qw W c)).IC g).IS.Rz c=false:=λg hg hq=>by
  have hq:(gi W.IC g).IS.IX≠0:=hq;show gi (gi W.IC g).IS.Rz c=false;have hug:=pin g hg;obtain⟨u0,u8,kF⟩:=h.sw.a.u hug;rcases Im.1 hg with hg | hg
  ·have hon:=mS.on g hg;have hz:=(X1 h.sw.a.tree _ us g hg).2;have:=h.dm.on g hug hz;unfold Tr at this;rw[hon] at this
   have hd:UD W g c=false:=by
    cases hd:UD W g c with
    | false=>rfl
    | true=>rw[hd] at this; simp at this
   unfold UD at hd;have:=(kF.IS hq).1.q1;rw[Ih Qo,Bool.true_and] at hd;exact hd
  ·rw[Iz.1 hg] at hq kF;exact Ir (kF.root rfl).2.2 hq
 obtain⟨tk,tl,tf⟩:=zyb c0 (Xf W (Qw W c)) s1 (by rw[l1]; exact c1) pin hdr;rw[<-hT] at tk tl tf;have eT:(Xl W c).1.tasks=W.tasks:=tk.o.t;have eC:(Xl W c).1.ID=(Xw W c (Qw W c)).ID:=tk.o.c;have eG:Z7 W.IC (Xl W c).1.IC:=tk.o.g;have lT:(Xl W c).1.ID.length=W.ID.length:=by rw[eC,l1]
 have rT:RB (Ax (f+1)) (Xl W c).1:=r1.sum tk.su tk.o.g (by rw[eC]);have uT:Q7 (Xl W c).1.IC (Q6 (Xl W c).1 (Qw W c)).group=true:=by rw[eG.eB,Ju eT]; exact us
 have pT:Xf (Xl W c).1 (Qw W c)=Xf W (Qw W c):=zmk eT eG _;have upT:(gi (Xl W c).1.ID c).up=true:=by rw[eC]; exact u1
 have BE8:(gi (Xl W c).1.ID c).WV<50:=by rw[eC]; exact CW2
 have phT:GE (Xl W c).1 c<=GE W c:=Dh (λk _=>tk.p (k:Int) Qo) 8 (I7 _)
 have hm:(Xl W c).2=true->1<=Vt W c left/\Vt W c left<=left:=λht=>by
  refine zjl _ left Qo λg hg hq=>?_
  have g0:=(Q4.1 (pin g hg)).1;rw[tk.q g g0] at hq;exact tl ht g hg Qo
 have mR:=h.l1;have hch:(Xl W c).2=true->_:=λht=>zk5 (t:=Qw W c) (n:=Vt W c left) tk.sw rT Qo c0 (by rw[lT]; exact c1) upT BE8 t0 t1 uT (by have:=hm ht; omega) (by have:=hm ht; omega)
 refine⟨mS,us,pin,CC7,s1,r1,CW2,tk,hdr,hm,λht=>⟨(hch ht).1,(hch ht).2.1⟩,?_,?_⟩
 rotate_left
 ·rw[hR]
  by_cases ht:(Xl W c).2=true
  ·rw[C' ht];have a:=(hch ht).1;have g1:Z7 (Xl W c).1.IC (MD (Xl W c).1 c (Qw W c) (Vt W c left)).IC:=(hch ht).2.2.2.2.2.2.2.2.g;exact(eG.trans g1).trans (P2 a (by simp only[Qj]; omega)).2.g
  ·rw[B' ht];have g1:Z7 (Xl W c).1.IC (Rp (Xl W c).1 c).IC:=Z7.refl _;exact(eG.trans g1).trans (P2 (tk.sw.Rp c0 (by rw[lT]; exact c1)) Qo).2.g
 rw[hR];have hf1:=h.f1
 by_cases ht:(Xl W c).2=true
 ·rw[C' ht];obtain⟨a,b,d,e1,e2,e3,_⟩:=hch ht;obtain⟨b1,b2,b3,b4,b5,b6,b7⟩:=zfw a b (by simp only[Qj]; omega) c0 (by rw[e2,lT]; exact c1) e3;have hm:=hm ht
  exact⟨b1.mono (by simp only[Qj,Vu]; omega),b2.mono Qo,b3,c0,by rw[b6,e2,lT]; exact c1,b4,by rw[b5,e1,tk.o.n]; exact h.now,by rw[b6,e2,lT]; exact h.len,by show 0<=left-Vt W c left; omega,by show left-Vt W c left<=100; omega,by
   rw[d] at b7;show left-Vt W c left+((GE (Qh (MD (Xl W c).1 c (Qw W c) (Vt W c left))) c:Nat):Int)<_;omega,Qo⟩
 ·rw[B' ht];have ht:(Xl W c).2=false:=by simpa using ht
  obtain⟨g,hg,IT⟩:=tf ht;have g0:=Q4.1 (pin g hg);have dD:=h.sw.a.gl
  have hp1:GE (Xl W c).1 c<GE W c:=by
   refine zsi (λk _=>tk.p (k:Int) Qo) (j:=g.toNat) ?_ 8 Qo (I7 _);rw[show ((g.toNat:Nat):Int)=g by omega];exact IT
  have ce:c<((Xl W c).1.ID.length:Int):=by rw[lT]; exact c1
  have sE:=tk.sw.Rp c0 ce;have eE:gi (Rp (Xl W c).1 c).ID c=Js (gi (Xl W c).1.ID c):=(QO _ _ c0 ce c0).trans (C' rfl);have lE:(Rp (Xl W c).1 c).ID.length=(Xl W c).1.ID.length:=E';obtain⟨b1,b2,b3,b4,b5,b6,b7⟩:=zfw sE (rT.sum (zs0 _ c) (Z7.refl _) lE) Qo c0 (by rw[lE]; exact ce) (by rw[eE]; exact upT)
  exact⟨b1.mono (by simp only[Qj,Vu]; omega),b2.mono Qo,b3,c0,by rw[b6,lE]; exact ce,b4,by rw[b5]; show (Xl W c).1.now=_; rw[tk.o.n]; exact h.now,by rw[b6,lE,lT]; exact h.len,h.l0,h.l1,by
   have b7:GE (Qh (Rp (Xl W c).1 c)) c<=GE (Xl W c).1 c:=b7;show left+((GE (Qh (Rp (Xl W c).1 c)) c:Nat):Int)<_;omega,Qo⟩
theorem z1n{b:Vv}{c:Int}(c0:0<=c)(c1:c<(b.locals.length:Int)):ZU b ⟨1,c,0⟩=Y5 b c:=by
 unfold ZU;rw[B' (show ¬(1:Int)=4 by decide),B' (by rw[Qx.2 (by show 0<=c/\c<=_; omega)]; decide),C' rfl]
theorem zln{α:Type}[Inhabited α]{l:List α}{k:Nat}(h:k<l.length):l.drop k=gi l (k:Int)::l.drop (k+1):=by
 rw[List.drop_eq_getElem_cons h]
 congr 1
 unfold gi;rw[Ig,List.getD_eq_getElem?_getD,Il h]; rfl
theorem zlo{α:Type}[Inhabited α]{l:List α}{k:Nat}(h:k<l.length):gi l (k:Int)∈l:=by
 have:=List.getElem_mem h;unfold gi;rw[Ig,List.getD_eq_getElem?_getD,Il h]; exact this
theorem zo6{c g:Int}{l:List Int}{W:Q8}:zkd c (g::l) W=if (zb3 W c g).2=true then zkd c l (zb3 W c g).1 else ((zb3 W c g).1,false):=rfl
section
variable {base:Nat}{W:Q8}{m:MW}{w:Wo}
theorem K8{pb n:Nat}{l:List Int}{pO:OA}{pC:Nat}{w2:Wo}{bs:List Nat}{V:Q8}{m2:MW}(hp:Vi Um 1 Qa pb w pO pC l)(hpn:∀x∈QM pO,x∉QR n m)(hM:Mv n base bs w m w2 V m2):Vi Um 1 Qa pb w2 pO pC l/\zs8 bs w2 pO l:=by
 have h:=hp.ext hM.ext hpn
 exact⟨h,h.rd Xi.len λx hx hm=>by
  have:=(hp.lt x hx).2;have:=hM.new x hm;omega⟩
theorem Mv.put{n:Nat}{bs:List Nat}{w0 w w':Wo}{m0:MW}{b:Nat}(h:Mv n base bs w0 m0 w W m)(hx:Q0 bs w w')(hb:w.heap.size<=b):Mv n base (bs++[b]) w0 m0 w' W m:=(h.add hb).step (hx.mono λx hm=>Ia _ hm)
theorem zh3{K c:Int}{l:List Int}{pO:OA}{pC pb:Nat}(h:Zj 8 base w W m)(sw:SW K W)(uF:base<=w.heap.size)(hp:Vi Um 1 Qa pb w pO pC l)(hpn:∀x∈QM pO,x∉QR 8 m)(hl4:l.length<=4)(c0:0<=c)(c1:c<(W.ID.length:Int))(hu:∀g∈l,Q7 W.IC g=true)(hd:∀g∈l,(gi W.IC g).IS.IX≠0->gi (gi W.IC g).IS.Rz c=false) :
  Cz MT #[.agg (Qb W m).toArray,.slice pO l.length pC,I c] w λe w'=>∃m',e=.returned (.tuple #[.agg (Qb W m).toArray,.bool (zkd c l W).2])/\Mv 8 base [] w m w' (zkd c l W).1 m':=by
 refine(zhm _ _ _ _ _ _ _ _ _ _ pO l.length pC c (R:=λv w'=>∃m',v=.tuple #[.agg (Qb W m).toArray,.bool (zkd c l W).2]/\Mv 8 base [] w m w' (zkd c l W).1 m') ?_).mono λe w' ⟨v,he,m',hv,h3⟩=>⟨m',by rw[he,hv],h3⟩
 intro x hx x1 RR;have dD:=sw.a.gl;have Ar0:=X4 hx RR
 refine⟨λvs w2=>∃(k:Nat) (r:List Va) (V:Q8) (m2:MW),vs=I (k:Int)::r/\k<=l.length/\Mv 8 base [x,x1] w m w2 V m2/\zkd c l W=zkd c (l.drop k) V/\SW K V/\Tv W V/\∀g∈l.drop k,(gi V.IC g).IS.IX≠0->gi (gi V.IC g).IS.Rz c=false,
  Zx l.length 0,λwr R3 _=>⟨0,_,W,m,rfl,Ic _,(Mv.two h hx RR).M' R3,rfl,sw,Tv.refl _,hd⟩,?_⟩
 rintro i1 ll RV Sa Sg S3 Sd Sf S4 S5 S8 w2 SR ⟨k,r,V,m2,he,hk,T',hE,swV,oV,hdV⟩;simp only[I4,I5,true_and] at he;obtain⟨rfl,_⟩:=he;have hmg:m2.gO=m.gO:=by rw[T'.hd]
 have hr:=T'.rd;have B89:V.IC.length=8:=swV.a.gl;obtain⟨_,hpr⟩:=K8 hp hpn T';refine⟨λIT=>?_,λRC=>?_⟩
 ·have CP0:=Ot IT;have IT:k<l.length:=Qo;have hdr:=zln IT;have kF:=hu _ (zlo IT);rw[hdr] at hE hdV;have hug:Q7 V.IC (gi l (k:Int))=true:=by rw[oV.g.eB]; exact kF
  have oG:=hpr (k:Int) Qo Qo;have AI2:=hpr.ix JU (i:=(k:Int)) Qo Qo;have hdk:=hdV _ I9;generalize tX:gi l (k:Int)=g at hE hdV hug oG hdk kF hdr;obtain⟨u0,u1,hgg⟩:=swV.a.u hug;have Rw:g<(V.IC.length:Int):=Qo;have W8:Ix m.gO W.IC.length g:=by have:=hr.g.ix (i:=g) u0 Rw; rwa[B89,<-dD,hmg] at this
  have BB4:=hr.g.cells g u0 Rw;rw[hmg] at BB4;refine⟨AI2,g,oG,W8,_,_,_,_,_,_,_,_,_,_,_,_,_,_,_,_,_,_,_,_,BB4,λb4 hb4=>⟨BB4,oG,rfl,λg1=>?_,λg1=>?_⟩⟩
  ·have g1:(gi V.IC g).IS.IX=0:=by simpa using g1
   have hT:zb3 V c g=(V,true):=by unfold zb3; rw[C' g1]
   rw[zo6,hT,C' rfl] at hE;exact⟨⟨Qo,Qo⟩,λwr R3 _=>⟨⟨k+1,_,V,m2,by simp; rfl,Qo,T'.step R3,hE,swV,oV,λy hy=>hdV y (I1 _ hy)⟩,ZE (k:=k) rfl rfl IT⟩⟩
  ·have g1:(gi V.IC g).IS.IX≠0:=by simpa using g1
   obtain⟨hb,hbl,_⟩:=hgg.IS g1;have BA2:c<(V.ID.length:Int):=by rw[oV.c]; exact c1
   have tL:c<((gi V.IC g).IS.locals.length:Int):=Qo;intro Rj R3 fT;have eD:=T'.put R3 hb4;have hr4:=eD.rd0;refine I3 (VA (op:=⟨1,c,0⟩) hb (hr4.g.locals g u0 Rw) (hr4.g.Rz g u0 Rw)) ?_;rintro e Rr ⟨p,he,hO,hy⟩;rw[z1n c0 tL] at he hO;have tV:=eD.M' hy;have hbs:base<=Rj.heap.size:=by have:=eD.ext.size; omega
   have hOb:∀y∈YC p,Rj.heap.size<=y:=λy hy=>(hO.lt y hy).1
   have BB3:=tV.own.Bu9 (i:=g) u0 Qo (hO.mono hbs) (λy hy hm=>by have:=hOb y hy; have:=(eD.own.lt y hm).2; omega);have vV:=zs7 tV.own tV.nb (i:=g) u0 Qo (j:=8) (k:=5) Qd;have tB:=eD.ext.size
   have rZ:=tV.swap BB3 zbf rfl λy hy=>by
    rcases P1 y hy with h1 | h1
    ·exact .inl h1
    ·rcases P0 y h1 with h2 | h2
     ·have:=hOb y h2;exact .inr ⟨Qo,λhm=>by have:=fT y hm; omega⟩
     ·exact .inl (UV Qo h2)
   rw[hmg] at vV;have hgO:m2.gO=m.gO:=hmg;rw[hgO] at rZ;obtain⟨_,Cq3⟩:=K8 hp hpn tV;have CQ3:=Cq3 (k:Int) Qo Qo;rw[tX] at CQ3;have hTk:zb3 V c g=(RL V g (Y5 (gi V.IC g).IS c).1,decide ((Y5 (gi V.IC g).IS c).2≠2)):=by unfold zb3; rw[B' g1]
   obtain⟨tk,t2,_⟩:=zya swV c0 BA2 hug hdk;rw[zo6] at hE;refine⟨_,_,_,_,_,_,_,_,_,_,he,Qf hy fT,λb5 hb5=>⟨AI2,g,CQ3,W8,vV,λg2 RP Wt=>?_,λg2=>⟨⟨Qo,Qo⟩,λRP Wt tP=>⟨⟨k+1,_,RL V g (Y5 (gi V.IC g).IS c).1,_,by simp; rfl,Qo,(rZ.step Wt).BF0 Qs,?_,?_,?_,λy hy hq=>?_⟩,ZE (k:=k) rfl rfl IT⟩⟩⟩⟩
   ·have g2:(Y5 (gi V.IC g).IS c).2=2:=by simpa using g2
    have:(zb3 V c g).2=false:=by rw[hTk]; simp[g2]
    rw[hE,this,B' Qd,hTk];exact⟨_,rfl,(rZ.step Wt).close⟩
   all_goals
    have g2:(Y5 (gi V.IC g).IS c).2≠2:=by simpa using g2
    have ht2:(zb3 V c g).2=true:=by rw[hTk]; simp[g2]
    have hT1:(zb3 V c g).1=RL V g (Y5 (gi V.IC g).IS c).1:=by rw[hTk]
   ·rw[hE,C' ht2,hT1]
   ·rw[<-hT1]; exact tk.sw
   ·rw[<-hT1]; exact oV.trans tk.o
   ·have y0:=(Q4.1 (hu y (List.mem_of_mem_drop hy))).1;rw[<-hT1] at hq ⊢;rw[tk.q y y0] at hq;exact(t2 ht2).2 y y0 (hdV y (I1 _ hy)) hq
 ·have RC:=Ou RC;have hk2:k=l.length:=Qo;subst hk2;rw[List.drop_length] at hE;rw[hE];exact λw3 R3=>⟨m2,rfl,(T'.step R3).close⟩
theorem zh0{c n:Int}{l:List Int}{pO:OA}{pC:Nat}{bs:List Nat}(h:XF bs w W m)(ha:WA W)(hp:zs8 bs w pO l)(hl4:l.length<=4)(c0:0<=c)(c1:c<(W.ID.length:Int))(hu:∀g∈l,Q7 W.IC g=true) :
  PX bs MR #[.agg (Qb W m).toArray,.slice pO l.length pC,I c,I n] w (I (zez W c l n)):=
 ziq _ _ _ _ _ _ _ _ _ _ pO l.length pC c n λwr hx=>by
  have h:=(h.ext hx).less (cs:=[]) Qs;have hp:=(hp.ext hx).less (cs:=[]) Qs;intro _ _;refine PF l.length 0 rfl (λy k=>k<=l.length/\zez W c l n=zez W c (l.drop k) y) ⟨Ic _,rfl⟩ λy k ⟨hk,hy⟩=>⟨λIT=>?_,λRC=>?_⟩
  ·have CP0:=Ot IT;have IT:k<l.length:=Qo;have hdr:=zln IT;have kF:=hu _ (zlo IT);rw[hdr] at hy;have oG:=hp (k:Int) Qo Qo;generalize gi l (k:Int)=g at hy oG kF;obtain⟨u0,u1,hgg⟩:=ha.u kF;have dD:=ha.gl;have hyy:zez W c (g::l.drop (k+1)) y=zez W c (l.drop (k+1)) (zod W c g y):=rfl;rw[hyy] at hy;refine⟨hp.ix JU (i:=(k:Int)) Qo Qo,g,oG,h.g.ix u0 Qo,_,_,_,_,_,_,_,_,_,h.g.IS u0 Qo,λb1 fQ=>⟨h.g.IS u0 Qo,oG,rfl,λg1=>?_,λg1=>?_⟩⟩
   ·have g1:=Ot g1;obtain⟨hb,hbl,_⟩:=hgg.IS Qo;have hLo:=h.g.locals g u0 Qo;refine⟨hLo.ix JU c0 Qo,_,hLo c c0 Qo,_,U5,⟨Qo,Qo⟩,QP Qo ⟨Qo,?_⟩⟩;rw[hy]; unfold zod; rw[C' g1]
   ·have g1:=Ou g1;refine⟨⟨Qo,Qo⟩,QP Qo ⟨Qo,?_⟩⟩;rw[hy]; unfold zod; rw[B' g1]
  ·have RC:=Ou RC;have:k=l.length:=Qo;subst this;rw[List.drop_length] at hy;show I y=_;rw[hy]; rfl
end
theorem znb{c n g:Int}{l:List Int}{W:Q8}:zk4 c n (g::l) W=zk4 c n l (zc7 W c n g):=rfl
theorem D6(W:Q8)(c n g:Int):(GY W c n g).IC.length=W.IC.length:=by simp[GY,RF,Rm]
theorem zpv{W:Q8}{c n g:Int}(u0:0<=g)(u1:g<(W.IC.length:Int)):gi (GY W c n g).IC g={ gi W.IC g with IE:=(gi W.IC g).IE.set c.toNat (zbn W c n g) }:=by
 unfold GY RF;rw[Xo u0 u1 u0,C' rfl]
theorem zpx{W:Q8}{c n g:Int}(u0:0<=g)(u1:g<(W.IC.length:Int)):gi (Rm (GY W c n g) g (AM W c n g)).IC g=AM W c n g:=by
 rw[Xo u0 (by rw[D6]; exact u1) u0,C' rfl]
theorem zc8{W:Q8}{c n g:Int}(u0:0<=g)(u1:g<(W.IC.length:Int)):(AM W c n g).IS=(gi W.IC g).IS:=by
 unfold AM;rw[zpv u0 u1]
theorem zna{W:Q8}{c n g:Int}(u0:0<=g)(u1:g<(W.IC.length:Int))(h:¬(gi W.IC g).IS.IX>0):zc7 W c n g=Rm (GY W c n g) g (AM W c n g):=by
 unfold zc7 zi6;rw[B' h,<-zc8 (c:=c) (n:=n) u0 u1];have:=zpx (c:=c) (n:=n) u0 u1
 conv=>lhs; arg 3; rw[<-this]
 exact zfv u0 (by simp only[Rm,E']; rw[D6]; exact u1)
section
variable {base:Nat}{W:Q8}{m:MW}{w:Wo}
theorem zas{K S t c n:Int}{pO:OA}{pC pb:Nat}(h:Zj 8 base w W m)(uF:base<=w.heap.size)(hp:Vi Um 1 Qa pb w pO pC (Xf W t))(hpn:∀x∈QM pO,x∉QR 8 m)(sw:SW K W)(rb:RB S W)(hK:0<=K/\K<=60000000000000000)(hS:0<=S/\S<=60000000000000000)(c0:0<=c)(c1:c<(W.ID.length:Int))(up:(gi W.ID c).up=true)(WV:(gi W.ID c).WV<50)(t0:0<=t)(t1:t<12)(hu:Q7 W.IC (Q6 W t).group=true)(n0:0<=n)(n1:n<=100) :
  Cz OQ #[.agg (Qb W m).toArray,I t,.slice pO (Xf W t).length pC,I c,I n] w λe w'=>∃m',e=.returned (.agg (Qb (Qh (MD W c t n)) m').toArray)/\Mv 8 base [] w m w' (Qh (MD W c t n)) m':=by
 obtain⟨sE,rE,_,_,hlE,_,s1,r1,cp1⟩:=zk5 sw rb Qo c0 c1 up WV t0 t1 hu n0 n1;obtain⟨pin,CC7⟩:=zby sw.a hu;refine(z8 _ _ _ _ _ _ _ _ _ _ t pO (Xf W t).length pC c n (R:=λv w'=>∃m',v=.agg (Qb (Qh (MD W c t n)) m').toArray/\Mv 8 base [] w m w' (Qh (MD W c t n)) m') ?_).mono λe w' ⟨v,he,m',hv,h3⟩=>⟨m',by rw[he,hv],h3⟩
 intro x hx x1 RR;have dD:=sw.a.gl;have fZ:=sw.a.t;have hlg:Qj=34686091440:=rfl;have bQ:=h.rd (bs:=[]) Qs;have W8:=bQ.t.ix QG t0 Qo;have htv:=sw.tv t t0 t1;have htr:=rb.t t t0 t1;have hv:=Dp n (Qe (Q6 W t).nice) n0 n1;refine⟨W8,_,_,_,_,_,_,_,_,_,bQ.t t t0 Qo,λx2 R0=>⟨_,ZA,_,XK,⟨?_,?_⟩,⟨?_,?_⟩,⟨?_,?_⟩,W8,zkh h Qs t0 Qo (j:=0) Qd,?_⟩⟩
 ·show _<=(Q6 W t).v+Zh n (Qe (Q6 W t).nice); omega
 ·show (Q6 W t).v+Zh n (Qe (Q6 W t).nice)<=_; omega
 ·show _<=(Q6 W t).sum+n; omega
 ·show (Q6 W t).sum+n<=_; omega
 ·show _<=(Q6 W t).used+n; omega
 ·show (Q6 W t).used+n<=_; omega
 have eT:Zj 8 base (R5 w m.tO (Int.toNat t*9) (Xq (GZ W t n))) (IM W t (GZ W t n)) m:=h.pN t0 Qo (j:=0) (vs:=Xq (GZ W t n)) (x:=GZ W t n) (by simp[Xq]) (by simp[Xq]);have hM1:Mv 8 base [x,x1,x2] w m (R5 w m.tO (Int.toNat t*9) (Xq (GZ W t n))) (IM W t (GZ W t n)) m:=((Mv.two h hx RR).add R0).Sl eT Kd
 refine⟨λvs w2=>∃(k:Nat) (V:Q8) (m2:MW),vs=[I (k:Int)]/\k<=(Xf W t).length/\Mv 8 base [x,x1,x2] w m w2 V m2/\zk4 c n (Xf W t) (IM W t (GZ W t n))=zk4 c n ((Xf W t).drop k) V/\zyk (K+Qj+Qj*(k:Int)) (S+100+100*(k:Int)) c n (IM W t (GZ W t n)) V,
  Zx (Xf W t).length 0,λwr R3 _=>⟨0,_,m,rfl,Ic _,hM1.M' R3,rfl,⟨s1.mono Qs,r1.mono Qs,rfl,rfl,rfl,Z7.refl _,λ_ _=>rfl⟩⟩,?_⟩
 rintro i1 w2 SR ⟨k,V,m2,he,hk,T',hE,hC⟩;simp only[I4,I5,true_and,and_true] at he;subst he;have hkk:0<=Qj*(k:Int)/\Qj*(k:Int)<=138744365760:=by simp only[Qj]; omega
 have hk1:Qj*((k+1:Nat):Int)=Qj*(k:Int)+Qj:=by simp only[Qj]; omega
 have hmg:m2.gO=m.gO:=by rw[T'.hd]
 have hmc:m2.cO=m.cO:=by rw[T'.hd]
 have hr:=T'.rd;have B89:V.IC.length=8:=hC.sw.a.gl;have BA2:V.ID.length=W.ID.length:=by rw[hC.cp]; rfl
 obtain⟨_,hpr⟩:=K8 hp hpn T';refine⟨λIT=>?_,λRC=>?_⟩
 ·have CP0:=Ot IT;have IT:k<(Xf W t).length:=Qo;have hdr:=zln IT;have kF:=pin _ (zlo IT);rw[hdr,znb] at hE;have hug:Q7 V.IC (gi (Xf W t) (k:Int))=true:=by rw[hC.g.eB]; exact kF
  have oG:=hpr (k:Int) Qo Qo;have AI2:=hpr.ix JU (i:=(k:Int)) Qo Qo;generalize tX:gi (Xf W t) (k:Int)=g at hE hug oG kF hdr;have hC2:=hC.trans (zpw hC.sw hC.rb Qo c0 (by rw[BA2]; exact c1) hug n0 n1);have hC3:zyk (K+Qj+Qj*((k+1:Nat):Int)) (S+100+100*((k+1:Nat):Int)) c n (IM W t (GZ W t n)) (zc7 V c n g):=⟨hC2.sw.mono Qo,hC2.rb.mono Qo,hC2.now,hC2.t,hC2.cp,hC2.g,hC2.p⟩;obtain⟨u0,u1,hgg⟩:=hC.sw.a.u hug;have Rw:g<(V.IC.length:Int):=Qo;have hsl:=hC.sw.a.sl hug;have hcs:c<((gi V.IC g).IE.length:Int):=Qo;have BA8:Ix m.gO W.IC.length g:=by have:=hr.g.ix (i:=g) u0 Rw; rwa[B89,<-dD,hmg] at this
  have BB4:=hr.g.cells g u0 Rw;rw[hmg] at BB4;have hss:=hr.g.IE g u0 Rw;have hsc:=hss c c0 hcs;have B92:=hss.ix X7 c0 hcs;have hsv:=hC.sw.s g c hug c0 (by rw[BA2]; exact c1);have hsr:=hC.rb.s g c hug c0 (by rw[BA2]; exact c1);have hgr:=hC.rb.g g hug;have hv2:=Dp n (Qc V g c).w n0 n1;refine⟨AI2,g,oG,BA8,_,_,_,_,_,_,_,_,_,_,_,_,_,_,_,_,_,_,_,_,BB4,λb3 wC=>⟨BB4,oG,rfl,B92,_,_,_,_,_,hsc,λb4 hb4=>⟨AI2,g,oG,?_⟩⟩⟩
  have eA:∀s:GO,s=zbn V c n g->Zj 8 base (R5 w2 (m2.ms g.toNat).sO (Int.toNat c*5) (MH s)) (GY V c n g) m2:=λs hs=>by
   subst hs;exact T'.own.Bv2 u0 Qo c0 hcs (j:=0) (vs:=MH (zbn V c n g)) (x:=zbn V c n g) (by simp[MH]) (by simp[MH])
  have CS6:=z34 T'.own T'.nb (i:=g) u0 Qo c0 hcs (j:=0) (k:=5) Qd;have CA9:=hr.g.Ry (i:=g) u0 Rw;rw[hmg] at CA9;refine⟨λg1=>?_,λg1=>?_⟩
  ·have g1:g≠0:=by simpa using g1
   have hs:(⟨(Qc V g c).floor,(Qc V g c).on,(Qc V g c).v+Zh n (Qc V g c).w,(Qc V g c).w,(Qc V g c).sum+n⟩:GO)=zbn V c n g:=by unfold zbn; rw[C' g1]
   have eA:=eA _ hs;refine⟨_,XK,⟨?_,?_⟩,⟨?_,?_⟩,AI2,g,oG,BA8,_,_,_,CA9,B92,CS6,AI2,g,?_,⟨?_,?_⟩,BA8,?_,?_⟩
   ·show _<=(Qc V g c).v+Zh n (Qc V g c).w; omega
   ·show (Qc V g c).v+Zh n (Qc V g c).w<=_; omega
   ·show _<=(Qc V g c).sum+n; omega
   ·show (Qc V g c).sum+n<=_; omega
   ·have:=(K8 hp hpn (T'.Sl eA (zms Qo))).2 (k:Int) Qo Qo;rw[tX] at this;exact this
   ·show _<=(gi V.IC g).sum+n; omega
   ·show (gi V.IC g).sum+n<=_; omega
   ·have:=zs7 eA T'.nb (i:=g) u0 Qo (j:=7) (k:=1) Qd;rw[hmg] at this;exact this
   have cJ:=((T'.add wC).add hb4).Sl eA (zms Qo);have eU:=eA.A23 (i:=g) u0 Qo (g:=AM V c n g) rfl rfl rfl (j:=7) (vs:=[I ((gi V.IC g).sum+n)]) (by unfold AM; rw[zpv u0 Rw]; rfl) Qs;have eD:=cJ.Sl eU zbf;rw[hmg] at eD;have eD:Mv 8 base [x,x1,x2,b3,b4] w m _ (Rm (GY V c n g) g (AM V c n g)) m2:=eD;have hgb:=zc8 (c:=c) (n:=n) u0 Rw;have hgi:=zpx (c:=c) (n:=n) u0 Rw;have hl5:(Rm (GY V c n g) g (AM V c n g)).IC.length=V.IC.length:=by simp only[Rm,E']; exact D6 _ _ _ _
   have AS8:=zna (c:=c) (n:=n) u0 Rw;have SP:zc7 V c n g=RL (Rm (GY V c n g) g (AM V c n g)) g (zi6 V c n g):=rfl;generalize Rm (GY V c n g) g (AM V c n g)=V5 at eD hgi hl5 AS8 SP;refine⟨λg2 I' R3 gI=>?_,λg2=>⟨⟨Qo,Qo⟩,λI' R3 _=>⟨⟨k+1,zc7 V c n g,m2,Qs,Qo,?_,hE,hC3⟩,ZE (k:=k) rfl rfl IT⟩⟩⟩
   ·have g2:(gi V.IC g).IS.IX>0:=Ot g2;have hB:zi6 V c n g=(ZU (gi V.IC g).IS ⟨2,c,n⟩).1:=by unfold zi6; rw[C' g2]
    rw[hB] at SP;obtain⟨hb,hbl,_⟩:=hgg.IS Qo;have rZ:Mv 8 base [x,x1,x2,b3,b4] w m I' V5 m2:=eD.step (R3.mono λy hy=>by simp only[Ii,List.not_mem_nil,or_false] at hy ⊢; rcases hy with h | h | h <;> simp[h]);have hr6:=rZ.rd0;have hg5:g<(V5.IC.length:Int):=by rw[hl5]; exact Rw
    have hLo:=hr6.g.locals g u0 hg5;have hDo:=hr6.g.Rz g u0 hg5;rw[hgi,hgb] at hLo hDo;refine I3 (VA (op:=⟨2,c,n⟩) hb hLo hDo) ?_;rintro e Rr ⟨p,he,hO,hy⟩;have uD:=rZ.M' hy;have hbs:base<=I'.heap.size:=by have:=rZ.ext.size; omega
    have hOb:∀y∈YC p,I'.heap.size<=y:=λy hy=>(hO.lt y hy).1
    have BB3:=uD.own.Bu9 (i:=g) u0 Qo (hO.mono hbs) (λy hy hm=>by have:=hOb y hy; have:=(rZ.own.lt y hm).2; omega);have vV:=zs7 uD.own uD.nb (i:=g) u0 Qo (j:=8) (k:=5) Qd;have tB:=rZ.ext.size
    have hM8:=uD.swap BB3 zbf rfl λy hy=>by
     rcases P1 y hy with h1 | h1
     ·exact .inl h1
     ·rcases P0 y h1 with h2 | h2
      ·have:=hOb y h2;exact .inr ⟨Qo,λhm=>by have:=gI y hm; omega⟩
      ·exact .inl (UV Qo h2)
    rw[hmg] at vV hM8;rw[<-SP] at hM8;have Bh2:=(K8 hp hpn uD).2 (k:Int) Qo Qo;rw[tX] at Bh2;exact⟨_,_,_,_,_,_,_,_,_,_,he,Qf hy gI,λb5 hb5=>⟨AI2,g,Bh2,BA8,vV,⟨Qo,Qo⟩,λRP Wt _=>⟨⟨k+1,zc7 V c n g,_,Qs,Qo,(hM8.step Wt).BF0 Qs,hE,hC3⟩,ZE (k:=k) rfl rfl IT⟩⟩⟩
   ·have g2:¬(gi V.IC g).IS.IX>0:=Ou g2;rw[AS8 g2];exact(eD.BF0 (cs:=[x,x1,x2]) (λy hy=>by simp only[Ii,List.not_mem_nil,or_false] at hy ⊢; rcases hy with h | h | h <;> simp[h])).step R3
  ·have g1:¬g≠0:=by simpa using g1
   have hs:(⟨(Qc V g c).floor,(Qc V g c).on,(Qc V g c).v,(Qc V g c).w,(Qc V g c).sum+n⟩:GO)=zbn V c n g:=by unfold zbn; rw[B' g1]
   have eA:=eA _ hs;refine⟨⟨?_,?_⟩,AI2,g,oG,BA8,_,_,_,CA9,B92,CS6,AI2,g,?_,⟨?_,?_⟩,BA8,?_,?_⟩
   ·show _<=(Qc V g c).sum+n; omega
   ·show (Qc V g c).sum+n<=_; omega
   ·have:=(K8 hp hpn (T'.Sl eA (zms Qo))).2 (k:Int) Qo Qo;rw[tX] at this;exact this
   ·show _<=(gi V.IC g).sum+n; omega
   ·show (gi V.IC g).sum+n<=_; omega
   ·have:=zs7 eA T'.nb (i:=g) u0 Qo (j:=7) (k:=1) Qd;rw[hmg] at this;exact this
   have cJ:=((T'.add wC).add hb4).Sl eA (zms Qo);have eU:=eA.A23 (i:=g) u0 Qo (g:=AM V c n g) rfl rfl rfl (j:=7) (vs:=[I ((gi V.IC g).sum+n)]) (by unfold AM; rw[zpv u0 Rw]; rfl) Qs;have eD:=cJ.Sl eU zbf;rw[hmg] at eD;have eD:Mv 8 base [x,x1,x2,b3,b4] w m _ (Rm (GY V c n g) g (AM V c n g)) m2:=eD;have hgb:=zc8 (c:=c) (n:=n) u0 Rw;have hgi:=zpx (c:=c) (n:=n) u0 Rw;have hl5:(Rm (GY V c n g) g (AM V c n g)).IC.length=V.IC.length:=by simp only[Rm,E']; exact D6 _ _ _ _
   have AS8:=zna (c:=c) (n:=n) u0 Rw;have SP:zc7 V c n g=RL (Rm (GY V c n g) g (AM V c n g)) g (zi6 V c n g):=rfl;generalize Rm (GY V c n g) g (AM V c n g)=V5 at eD hgi hl5 AS8 SP;refine⟨λg2 I' R3 gI=>?_,λg2=>⟨⟨Qo,Qo⟩,λI' R3 _=>⟨⟨k+1,zc7 V c n g,m2,Qs,Qo,?_,hE,hC3⟩,ZE (k:=k) rfl rfl IT⟩⟩⟩
   ·have g2:(gi V.IC g).IS.IX>0:=Ot g2;have hB:zi6 V c n g=(ZU (gi V.IC g).IS ⟨2,c,n⟩).1:=by unfold zi6; rw[C' g2]
    rw[hB] at SP;obtain⟨hb,hbl,_⟩:=hgg.IS Qo;have rZ:Mv 8 base [x,x1,x2,b3,b4] w m I' V5 m2:=eD.step (R3.mono λy hy=>by simp only[Ii,List.not_mem_nil,or_false] at hy ⊢; rcases hy with h | h | h <;> simp[h]);have hr6:=rZ.rd0;have hg5:g<(V5.IC.length:Int):=by rw[hl5]; exact Rw
    have hLo:=hr6.g.locals g u0 hg5;have hDo:=hr6.g.Rz g u0 hg5;rw[hgi,hgb] at hLo hDo;refine I3 (VA (op:=⟨2,c,n⟩) hb hLo hDo) ?_;rintro e Rr ⟨p,he,hO,hy⟩;have uD:=rZ.M' hy;have hbs:base<=I'.heap.size:=by have:=rZ.ext.size; omega
    have hOb:∀y∈YC p,I'.heap.size<=y:=λy hy=>(hO.lt y hy).1
    have BB3:=uD.own.Bu9 (i:=g) u0 Qo (hO.mono hbs) (λy hy hm=>by have:=hOb y hy; have:=(rZ.own.lt y hm).2; omega);have vV:=zs7 uD.own uD.nb (i:=g) u0 Qo (j:=8) (k:=5) Qd;have tB:=rZ.ext.size
    have hM8:=uD.swap BB3 zbf rfl λy hy=>by
     rcases P1 y hy with h1 | h1
     ·exact .inl h1
     ·rcases P0 y h1 with h2 | h2
      ·have:=hOb y h2;exact .inr ⟨Qo,λhm=>by have:=gI y hm; omega⟩
      ·exact .inl (UV Qo h2)
    rw[hmg] at vV hM8;rw[<-SP] at hM8;have Bh2:=(K8 hp hpn uD).2 (k:Int) Qo Qo;rw[tX] at Bh2;exact⟨_,_,_,_,_,_,_,_,_,_,he,Qf hy gI,λb5 hb5=>⟨AI2,g,Bh2,BA8,vV,⟨Qo,Qo⟩,λRP Wt _=>⟨⟨k+1,zc7 V c n g,_,Qs,Qo,(hM8.step Wt).BF0 Qs,hE,hC3⟩,ZE (k:=k) rfl rfl IT⟩⟩⟩
   ·have g2:¬(gi V.IC g).IS.IX>0:=Ou g2;rw[AS8 g2];exact(eD.BF0 (cs:=[x,x1,x2]) (λy hy=>by simp only[Ii,List.not_mem_nil,or_false] at hy ⊢; rcases hy with h | h | h <;> simp[h])).step R3
 ·have RC:=Ou RC;have hk2:k=(Xf W t).length:=Qo;subst hk2;rw[List.drop_length] at hE;have hE:zk4 c n (Xf W t) (IM W t (GZ W t n))=V:=hE;have hcV:V.ID=W.ID:=hC.cp;have cV:c<(V.ID.length:Int):=by rw[BA2]; exact c1
  have AS7:Ix m.cO W.ID.length c:=by have:=hr.c.ix Yh c0 cV; rwa[BA2,hmc] at this
  have hcr:=rb.c c c0 c1;have e1:=T'.own.At6 c0 cV (j:=3) (vs:=[I ((gi W.ID c).busy+n)]) (x:={ gi W.ID c with busy:=(gi W.ID c).busy+n }) (by rw[hcV]; rfl) Qs;have mR:(V.ID.set c.toNat { gi W.ID c with busy:=(gi W.ID c).busy+n }).length=V.ID.length:=E';have hg1:gi (V.ID.set c.toNat { gi W.ID c with busy:=(gi W.ID c).busy+n }) c={ gi W.ID c with busy:=(gi W.ID c).busy+n }:=(QO _ _ c0 cV c0).trans (C' rfl);have e2:=e1.At6 c0 (by simpa using cV) (j:=2) (vs:=[I ((gi W.ID c).WV+n)]) (x:=zrs W c n) (by rw[hg1]; rfl) Qs;have hb:=hr.c.f c0 cV (j:=3) rfl;have wR:=zyj T'.own T'.nb c0 cV (j:=3) (k:=1) Qd;have cJ:=T'.Sl e1 zf3;have hrn:=cJ.rd.c.f c0 (by show c<((V.ID.set c.toNat { gi W.ID c with busy:=(gi W.ID c).busy+n }).length:Int); rw[mR]; exact cV) (j:=2) rfl;have hw2:=zyj e1 T'.nb c0 (by show c<((V.ID.set c.toNat { gi W.ID c with busy:=(gi W.ID c).busy+n }).length:Int); rw[mR]; exact cV) (j:=2) (k:=1) Qd;rw[hmc] at hb wR hrn hw2;rw[hcV] at hb;rw[show gi ({ V with ID:=V.ID.set c.toNat { gi W.ID c with busy:=(gi W.ID c).busy+n } }:Q8).ID c=_ from hg1] at hrn;have eD:=cJ.Sl e2 zf3
  have hW4:({ V with ID:=(V.ID.set c.toNat { gi W.ID c with busy:=(gi W.ID c).busy+n }).set c.toNat (zrs W c n) }:Q8)=MD W c t n:=by
   unfold MD Se;rw[hE,List.set_set]
  rw[hmc] at eD;have eD:Mv 8 base [x,x1,x2] w m _ ({ V with ID:=(V.ID.set c.toNat { gi W.ID c with busy:=(gi W.ID c).busy+n }).set c.toNat (zrs W c n) }:Q8) m2:=eD;rw[hW4] at eD;refine⟨AS7,_,hb,⟨?_,?_⟩,AS7,wR,AS7,_,hrn,⟨?_,?_⟩,AS7,hw2,λSn dK hs7=>?_⟩
  ·show _<=(gi W.ID c).busy+n; omega
  ·show (gi W.ID c).busy+n<=_; omega
  ·show _<=(gi W.ID c).WV+n; omega
  ·show (gi W.ID c).WV+n<=_; omega
  have uD:=eD.step dK;have tB:=uD.ext.size;have Rt:=Qy uD.own sE Qo Qo Qo;rw[show Qb (MD W c t n) m2=Qb W m from uD.AP6 (by rw[show (MD W c t n).now=V.now from by rw[<-hW4]]; exact hC.now) hlE (by rw[<-hW4,show ({ V with ID:=(V.ID.set c.toNat { gi W.ID c with busy:=(gi W.ID c).busy+n }).set c.toNat (zrs W c n) }:Q8).tasks=V.tasks from rfl,hC.t]; simp[IM]) (by rw[<-hW4]; exact hC.g.len)] at Rt;refine I3 Rt ?_;rintro e wv ⟨m3,he,hy⟩;exact⟨_,_,_,_,_,_,_,_,_,_,he,uD.kept hy hs7,λSL nQ=>⟨m3,rfl,((uD.call hy hs7).step nQ).close⟩⟩
end
theorem zqh{Q:Nat->Prop}(h:∃f,Q f):∃f,Q f/\∀g,Q g->f<=g:=by
 obtain⟨f,hf⟩:=h
 induction f using Nat.strongRecOn with
 | ind f ih=>
  by_cases h:∃g,g<f/\Q g
  ·obtain⟨g,hg,hq⟩:=h;exact ih g hg hq
  ·exact⟨f,hf,λg hq=>Nat.le_of_not_lt λIT=>h ⟨g,IT,hq⟩⟩
open Classical in
noncomputable def zqg(Q:Nat->Prop):Nat:=if h:∃f,Q f then (zqh h).choose else 0
theorem zt7{Q:Nat->Prop}(h:∃f,Q f):Q (zqg Q):=by
 unfold zqg;rw[dif_pos h];exact(zqh h).choose_spec.1
theorem zzz{Q:Nat->Prop}{f:Nat}(h:Q f):zqg Q<=f:=by
 unfold zqg;rw[dif_pos ⟨f,h⟩];exact(zqh ⟨f,h⟩).choose_spec.2 f h
noncomputable def BW(W:Q8)(c n:Int):Int:=if X6 n 1 100=false\/Xp W c=false then 1 else if (gi W.ID c).up=false then 6 else if QK W=false then 10 else 0
def zup(W:Q8)(c n:Int):Q8:=zfr c 400 W n
theorem zos{c:Int}{f:Nat}{W:Q8}{left:Int}(h:left<=0):zfr c (f+1) W left=Qh W:=by
 rw[zfr,C' h]
theorem zjw{c:Int}{f:Nat}{W:Q8}{left:Int}(h:¬left<=0)(hp:Qw W c<0):zfr c (f+1) W left=Qh (Rp (Se W c (Hj W c left)) c):=by
 rw[zfr,B' h,C' hp]
theorem zjx{c:Int}{f:Nat}{W:Q8}{left:Int}(h:¬left<=0)(hp:¬Qw W c<0):zfr c (f+1) W left=zfr c f (BV W c left).1 (BV W c left).2:=by
 rw[zfr,B' h,B' hp]
theorem zxq{W:Q8}{c n:Int}(hW:QB W=true)(hb:BW W c n=0):X6 n 1 100=true/\Xp W c=true/\(gi W.ID c).up=true/\QK W=true/\zgf 400 c W W n:=by
 unfold BW at hb
 split at hb
 ·cases hb
 ·rename_i h1
  split at hb
  ·cases hb
  ·rename_i h2
   split at hb
   ·cases hb
   ·rename_i h3
    have h1a:X6 n 1 100=true:=by
     cases h:X6 n 1 100 with
     | true=>rfl
     | false=>exact Ir (.inl h) h1
    have h1b:Xp W c=true:=by
     cases h:Xp W c with
     | true=>rfl
     | false=>exact Ir (.inr h) h1
    have h2:(gi W.ID c).up=true:=by simpa using h2
    have h3:QK W=true:=by simpa using h3
    obtain⟨c0,c1⟩:=Tz h1b;have:=Qx.1 h1a;exact⟨h1a,h1b,h2,h3,zqx (Qm.1 hW) (Qm.1 h3) c0 c1 h2 Qo Qo⟩
theorem zxn{f:Nat}{c left:Int}{W0 W:Q8}(h:zgf f c W0 W left):∃g,f=g+1:=by
 have h1:=h.f1;have h2:=h.l0;exact⟨f-1,Qo⟩
theorem zwi{f:Nat}{c left:Int}{W0 W:Q8}(h:zgf f c W0 W left):SW (BX f) (Rp (Se W c (Hj W c left)) c)/\SW (BX f) (Se W c (Hj W c left))/\0<=(gi W.ID c).idle+left/\(gi W.ID c).idle+left<=60000000000000000:=by
 have c0:=h.c0;have c1:=h.c1;have hcu:=h.sw.cu c c0 c1;have hl0:=h.l0;have mR:=h.l1;have hr:=h.rb.c c c0 c1;have s1:SW (BX f) (Se W c (Hj W c left)):=h.sw.Se c0 c1 (AI (c:=c) (by rw[E']; exact h.sw.a.c2) c0 (by rw[E']; exact c1) (by rw[show gi (W.ID.set c.toNat (Hj W c left)) c=Hj W c left from (QO _ _ c0 c1 c0).trans (C' rfl)]; exact h.up)) hcu.1 hcu.2;exact⟨s1.Rp c0 (by show c<((W.ID.set c.toNat (Hj W c left)).length:Int); rw[E']; exact c1),s1,Qo,Qo⟩
section
variable {W:Q8}{m:MW}{w:Wo}
def zs9(y y1:Nat)(w0:Wo)(c n:Int)(W:Q8)(f:Nat)(vs:List Va)(w2:Wo):Prop:=
 ∃(V:Q8) (m2:MW) (left:Int),vs=I left::Qb V m2/\Wk 8 [y,y1] w0 w2 V m2/\zgf f c W V left/\zfr c f V left=zup W c n
theorem zam{c n:Int}(h:XF [] w W m)(hl:UG W) :
  Cz OK #[.agg (Qb W m).toArray,I c,I n] w λe w'=>∃v,e=.returned v/\QL (Yv W (BW W c n) (zup W c n)) w v w':=by
 refine y8 _ _ _ _ _ _ _ _ _ _ c n (R:=λv w'=>QL (Yv W (BW W c n) (zup W c n)) w v w') ?_;intro y hy y1 aR;have hm0:=J5;have hlc:=hl.c;refine⟨_,US h hl.c hl.t hl.g hl.f,λg wr hx=>QL.bad (by simpa using g) hx,λg wr R0 SR=>?_⟩;have hW:QB W=true:=by simpa using g
 have wp:=Qm.1 hW;refine I3 (Mq (h.ext R0) wp.a) ?_;rintro e wv ⟨m',he,hM,Sm⟩;have hK:=Wk.begin hy aR R0 SR hM Sm;have hr:=hK.rd;refine⟨_,_,_,_,_,_,_,_,_,_,he,Qf Sm SR,_,Qu,λ_=>⟨Qo,Qo⟩,Xp W c,λ_=>Qu,λg I' R3=>?_,λg=>?_⟩
 ·have hb:BW W c n=1:=by
   unfold BW; rw[C']
   simpa using g
  exact QL.no hW (by rw[hb]; decide) (hK.step R3) hb
 have g:X6 n 1 100=true/\Xp W c=true:=by simpa using g
 have hn1:¬(X6 n 1 100=false\/Xp W c=false):=by rw[g.1,g.2]; simp
 obtain⟨c0,c1⟩:=Tz g.2;have hro:=Ld hr hl;refine⟨hr.c.ix Yh c0 c1,_,hr.c.f c0 c1 (j:=0) rfl,λg2 I' R3=>?_,λg2=>⟨_,hro,λg3 I' R3=>?_,λg3=>?_⟩⟩
 ·have hb:BW W c n=6:=by unfold BW; rw[B' hn1,C' (by simpa using g2)]
  exact QL.no hW (by rw[hb]; decide) (hK.step R3) hb
 ·have g2:(gi W.ID c).up=true:=by simpa using g2
  have bQ:¬QK W=true:=λhr=>by
   rw[show Ul (Jq W/\Ga W)=true from Qm.2 ⟨wp,Qm.1 hr⟩] at g3;cases g3
  have hb:BW W c n=10:=by unfold BW; rw[B' hn1,B' (by rw[g2]; decide),C' (by simpa using bQ)]
  exact QL.no hW (by rw[hb]; decide) (hK.step R3) hb
 have g2:(gi W.ID c).up=true:=by simpa using g2
 have bQ:QK W=true:=by
  have hd:Ul (Jq W/\Ga W)=true:=by simpa using g3
  exact Qm.2 (Qm.1 hd).2
 have hb:BW W c n=0:=by unfold BW; rw[B' hn1,B' (by rw[g2]; decide),B' (by rw[bQ]; decide)]
 obtain⟨_,_,_,_,hI0⟩:=zxq hW hb;refine⟨λvs _ w2=>∃(V:Q8) (m2:MW) (K:Int),vs=Qb V m2/\Wk 8 [y,y1] w w2 V m2/\SW K V/\0<=K/\K<=60000000000000000/\Qh V=zup W c n,?_,?_⟩
 ·refine⟨λvs w2=>∃f,zs9 y y1 w c n W f vs w2,λvs w2=>zqg λf=>zs9 y y1 w c n W f vs w2,λwr R3 _=>⟨400,W,m',n,rfl,hK.step R3,hI0,rfl⟩,?_⟩;intro left l0 RV Sa Sg S3 Sd Sf S4 S5 S8 w2 gI hinv;obtain⟨f0,hf0⟩:∃f0,f0=zqg λf=>zs9 y y1 w c n W f [I left,I l0,.slice RV Sa Sg,.slice S3 Sd Sf,.slice S4 S5 S8] w2:=⟨_,rfl⟩
  have hS:=zt7 hinv;simp only[<-hf0] at hS ⊢;clear hf0 hinv;obtain⟨V,m2,C28,hv,gV,hI,hN⟩:=hS;simp only[Qb,I4,I5,Iv,true_and,and_true] at hv;obtain⟨rfl,rfl,⟨rfl,rfl,rfl⟩,⟨rfl,rfl,rfl⟩,rfl,rfl,rfl⟩:=hv;obtain⟨f,rfl⟩:=zxn hI;have BI7:∀{vs:List Va} {w9:Wo},zs9 y y1 w c n W f vs w9->(∃f,zs9 y y1 w c n W f vs w9)/\(zqg λf=>zs9 y y1 w c n W f vs w9)<f+1:=λhh=>⟨⟨f,hh⟩,Nat.lt_succ_of_le (zzz hh)⟩
  have uJ:=gV.rd;have hf:=hI.f2;have hKu:=BY hf;have hSu:=zmm hf;have hh0:(0:Int)<=Qq:=Qd;have c1V:=hI.c1;have AS7:=uJ.c.ix Yh c0 c1V;refine⟨λIT=>?_,λRC=>?_⟩
  ·have IT:=Ot IT;refine⟨_,zh2 uJ hI.sw.a c0 c1V,λgp=>?_,λgp=>?_⟩
   ·have gp:=Ot gp;rw[zjw Qo gp] at hN;obtain⟨i1,i2,i3,i4⟩:=zwi hI;have e1:Zj 8 w.heap.size _ (Se V c (Hj V c left)) m2:=gV.own.At6 c0 c1V (j:=4) (vs:=[I ((gi V.ID c).idle+left)]) (x:=Hj V c left) rfl Qs;refine⟨AS7,_,uJ.c.f c0 c1V (j:=4) rfl,⟨Qo,Qo⟩,AS7,zyj gV.own gV.nb c0 c1V (j:=4) Qd,λRn Si fT=>?_⟩;have fN:=(gV.R5 e1 zf3).step Si;have Rt:=ZG fN.own c0 (by show c<((V.ID.set c.toNat (Hj V c left)).length:Int); rw[E']; exact c1V);rw[zbp] at Rt;refine I3 Rt ?_;rintro e2 Rr ⟨aM,fL⟩;exact⟨_,_,_,_,_,_,_,_,_,_,aM,fN.kept fL fT,λRE Sb _=>⟨_,m2,_,rfl,(fN.Sl fL fT).step Sb,i1,Qo,Qo,hN⟩⟩
   ·have gp:=Ou gp;rw[zjx Qo gp] at hN;have hR:=zqw hI IT gp;have t0:=hR.line.t0;have t1:=hR.line.t1;have fZ:V.tasks.length=12:=hI.sw.a.t;refine⟨λ_ _ w3=>Wk 8 [y,y1] w w3 (Xw V c (Qw V c)) m2,?_,?_⟩
    ·refine⟨AS7,_,uJ.c.f c0 c1V (j:=1) rfl,λ_=>AS7,_,λ_=>uJ.c.f c0 c1V (j:=2) rfl,λg5=>?_,λg5 Rn Si _=>?_⟩
     ·have g5:Qw V c≠(gi V.ID c).cur\/(gi V.ID c).WV>=50:=by simpa using g5
      have hS:YJ V c (Qw V c)={ gi V.ID c with cur:=Qw V c,WV:=0 }:=by unfold YJ; rw[C' g5]
      have e1:=gV.own.At6 c0 c1V (j:=1) (vs:=[I (Qw V c)]) (x:={ gi V.ID c with cur:=Qw V c }) rfl Qs;have mR:(V.ID.set c.toNat { gi V.ID c with cur:=Qw V c }).length=V.ID.length:=E';have hg1:gi (V.ID.set c.toNat { gi V.ID c with cur:=Qw V c }) c={ gi V.ID c with cur:=Qw V c }:=(QO _ _ c0 c1V c0).trans (C' rfl);have e2:=e1.At6 c0 (by simpa using c1V) (j:=2) (vs:=[I 0]) (x:=YJ V c (Qw V c)) (by rw[hg1,hS]; rfl) Qs
      have hW2:({ V with ID:=(V.ID.set c.toNat { gi V.ID c with cur:=Qw V c }).set c.toNat (YJ V c (Qw V c)) }:Q8)=Xw V c (Qw V c):=by
       unfold Xw Se;rw[List.set_set]
      have rY:=gV.R5 e1 zf3;have fN:Wk 8 [y,y1] w _ ({ V with ID:=(V.ID.set c.toNat { gi V.ID c with cur:=Qw V c }).set c.toNat (YJ V c (Qw V c)) }:Q8) m2:=rY.R5 e2 zf3;rw[hW2] at fN;exact⟨AS7,zyj gV.own gV.nb c0 c1V (j:=1) Qd,AS7,zyj e1 gV.nb c0 (by show c<((V.ID.set c.toNat { gi V.ID c with cur:=Qw V c }).length:Int); rw[mR]; exact c1V) (j:=2) Qd,λRn Si _=>fN.step Si⟩
     ·have g5:¬(Qw V c≠(gi V.ID c).cur\/(gi V.ID c).WV>=50):=by simpa using g5
      have hS:Xw V c (Qw V c)=V:=by
       unfold Xw YJ Se;rw[B' g5,zut c0 c1V]
      rw[hS];exact gV.step Si
    ·intro cQ hZ fG RP Wt tP;have vR:=fG.step Wt;have hcG:=Gk (t:=Qw V c) (vR.rd.less (cs:=[]) Qs) hR.s1.a.tree t0 (by show _<((V.tasks.length:Nat):Int); omega) hR.us;have ecp:Qb (Xw V c (Qw V c)) m2=Qb V m2:=zbp _ _ _ _;rw[ecp] at hcG;refine I3 hcG ?_;rintro e3 fX ⟨pO,pC,fS,hO,hy6⟩;have hO:Vi Um 1 Qa RP.heap.size fX pO pC (Xf V (Qw V c)):=hO;have fS:e3=.returned (.slice pO (Xf V (Qw V c)).length pC):=fS;have hK7:=vR.M' hy6;refine⟨_,_,_,fS,Qf hy6 tP,λSL nQ hs8=>?_⟩;have hK8:=hK7.step nQ
     have CA1:∀z∈QM pO,z∉[y,y1]:=λz hz hm=>by
      have:=(hO.lt z hz).1;have:=tP z hm;omega
     have hO8:=hO.ext nQ CA1
     have CA2:∀z∈QM pO,z∉QR 8 m2:=λz hz hm=>by
      have:=(hO.lt z hz).1;have:=(vR.own.lt z hm).2;omega
     have hcT:=zh3 hK8.own hR.s1 hK8.base hO8 CA2 hR.len c0 (by rw[(N3 hI.sw hI.rb c0 c1V hI.up t0 t1).2.2.2.2.2]; exact c1V) hR.pin hR.dr;rw[ecp] at hcT;refine I3 hcT ?_;rintro e4 wA ⟨m3,he4,hy9⟩;have hK9:Wk 8 [y,y1] w wA (Xl V c).1 m3:=hK8.Sl hy9 hs8;have hTk:zkd c (Xf V (Qw V c)) (Xw V c (Qw V c))=Xl V c:=rfl;rw[hTk] at he4 hy9;have hO9:=hO8.ext hy9.ext CA2
     have Cq2:∀z∈QM pO,z∉QR 8 m3:=λz hz hm=>by
      rcases hy9.sub z hm with h1 | h1
      ·exact CA2 z hz h1
      ·have:=(hO8.lt z hz).2;omega
     have eC:(Xl V c).1.ID=(Xw V c (Qw V c)).ID:=hR.tk.o.c;have lT:(Xl V c).1.ID.length=V.ID.length:=by rw[eC]; exact(N3 hI.sw hI.rb c0 c1V hI.up t0 t1).2.2.2.2.2
     have cT:c<((Xl V c).1.ID.length:Int):=by rw[lT]; exact c1V
     have e9:Qb (Xl V c).1 m3=Qb V m2:=by
      rw[hy9.AP6 (W0:=Xw V c (Qw V c)) hR.tk.o.n (by rw[eC]) (by rw[hR.tk.o.t]) hR.tk.o.g.len];exact ecp
     have rT:RB (Ax (f+1)) (Xl V c).1:=hR.r1.sum hR.tk.su hR.tk.o.g (by rw[eC]);have eT:(Xl V c).1.tasks=V.tasks:=hR.tk.o.t;have eG:Z7 V.IC (Xl V c).1.IC:=hR.tk.o.g;have pT:Xf (Xl V c).1 (Qw V c)=Xf V (Qw V c):=zmk eT eG _;have uT:Q7 (Xl V c).1.IC (Q6 (Xl V c).1 (Qw V c)).group=true:=by rw[eG.eB,Ju eT]; exact hR.us
     have upT:(gi (Xl V c).1.ID c).up=true:=by rw[eC]; exact(N3 hI.sw hI.rb c0 c1V hI.up t0 t1).2.2.1
     have BE8:(gi (Xl V c).1.ID c).WV<50:=by rw[eC]; exact hR.WV
     have hnx:=hR.nx;refine⟨_,_,_,_,_,_,_,_,_,_,_,he4,hK8.kept hy9 hs8,λgt S9 AD8 nP=>?_,λgt=>?_⟩
     ·have gt:¬(Xl V c).2=true:=by simpa using gt
      have hRW:BV V c left=(Qh (Rp (Xl V c).1 c),left):=by unfold BV; rw[B' gt]
      rw[hRW] at hnx hN;have AH8:=hK9.step AD8;have hcE:=ZG AH8.own c0 cT;rw[e9] at hcE;refine I3 hcE ?_;rintro e5 kP ⟨he5,BS4⟩;refine⟨_,_,_,_,_,_,_,_,_,_,he5,AH8.kept BS4 nP,λSo wS AN9=>?_⟩;have Ax1:=(AH8.Sl BS4 nP).step wS;refine I3 (Qy Ax1.own (hR.tk.sw.Rp c0 cT) Qo Qo Ax1.base) ?_;rintro e6 vZ ⟨m4,he6,CB8⟩;generalize Qh (Rp (Xl V c).1 c)=V9 at he6 CB8 hnx hN;exact⟨_,_,_,_,_,_,_,_,_,_,he6,Ax1.kept CB8 AN9,λWn BB7 _=>BI7 ⟨V9,m4,left,rfl,(Ax1.Sl CB8 AN9).step BB7,hnx,hN⟩⟩
     ·have gt:(Xl V c).2=true:=by simpa using gt
      have hRW:BV V c left=(Qh (MD (Xl V c).1 c (Qw V c) (Vt V c left)),left-Vt V c left):=by unfold BV; rw[C' gt]
      rw[hRW] at hnx hN;obtain⟨m1,m2'⟩:=hR.m gt;have mR:=hI.l1;have hcM:=zh0 (n:=left) hK9.rd hR.tk.sw.a (hO9.rd Xi.len CA1) (pC:=pC) hR.len c0 cT (λz hz=>by rw[eG.eB]; exact hR.pin z hz);rw[e9] at hcM;refine⟨_,hcM,λS9 AD8 nP=>?_⟩;have AH8:=hK9.step AD8;have Ck4:Vi Um 1 Qa RP.heap.size S9 pO pC (Xf (Xl V c).1 (Qw V c)):=by rw[pT]; exact hO9.ext AD8 CA1
      have hcC:=zas (t:=Qw V c) (n:=Vt V c left) AH8.own AH8.base Ck4 Cq2 hR.tk.sw rT ⟨Qo,Qo⟩ ⟨Qo,Qo⟩ c0 cT upT BE8 t0 t1 uT Qo Qo;rw[e9,pT] at hcC;refine I3 hcC ?_;rintro e7 kP ⟨m4,he7,BS4⟩;generalize Qh (MD (Xl V c).1 c (Qw V c) (Vt V c left))=V9 at he7 BS4 hnx hN;exact⟨_,_,_,_,_,_,_,_,_,_,he7,AH8.kept BS4 nP,⟨by show _<=left-Vt V c left; omega,by show left-Vt V c left<=_; omega⟩,λSo wS _=>BI7 ⟨V9,m4,left-Vt V c left,rfl,(AH8.Sl BS4 nP).step wS,hnx,hN⟩⟩
  ·have RC:=Ou RC;rw[zos Qo] at hN;exact λRn Si _=>⟨V,m2,_,rfl,gV.step Si,hI.sw,Qo,Qo,hN⟩
 ·rintro a0 a1O a1L a1C a2O a2L a2C a3O a3L a3C w2 gI ⟨V,m2,K,hv,gV,sw,k0,k1,hN⟩ Rn Si fT;simp only[Qb,I4,I5,Iv,true_and,and_true] at hv;obtain⟨rfl,⟨rfl,rfl,rfl⟩,⟨rfl,rfl,rfl⟩,rfl,rfl,rfl⟩:=hv;have fN:=gV.step Si;refine I3 (Qy fN.own sw k0 Qo fN.base) ?_;rintro e3 RO ⟨m3,fS,hy5⟩;rw[hN] at fS hy5;exact⟨_,_,_,_,_,_,_,_,_,_,fS,fN.kept hy5 fT,λSL nQ=>QL.ok hW hb ((fN.Sl hy5 fT).step nQ)⟩
end
def cO:Code->Code
 | .loop c=>c
 | c=>c
theorem zp6{W:Q8}{g c:Int}(h:¬QY W g c<0):Zy W g c 20=true/\Z6 W g c 20=Zl W c (QY W g c).toNat:=by
 unfold Zy Z6;unfold QY at h ⊢;rw[B' h];exact⟨Ih Qo,rfl⟩
theorem zw8{W:Q8}(ha:WA W)(fl:z37 W){c:Int}(c0:0<=c)(c1:c<(W.ID.length:Int))(f:Nat):∀g:Int,Q7 W.IC g=true->(4-dep 3 W.IC g).toNat=f->(∀x∈Zd W.IC g,(Qc W x c).v<=(Qc W (gi W.IC x).parent c).floor)->0<=Lk W g c->
  (Q6 W (Lk W g c)).v<=(Qc W (Q6 W (Lk W g c)).group c).floor/\∀x∈Zd W.IC (Q6 W (Lk W g c)).group,(Qc W x c).v<=(Qc W (gi W.IC x).parent c).floor:=by
 induction f with
 | zero=>
  intro g hu hf;have:=H2 ha hu;omega
 | succ f ih=>
  intro g hu hf hp h;rw[Ag ha hu] at h ⊢
  by_cases h1:QY W g c<0
  ·rw[C' h1] at h; omega
  ·rw[B' h1] at h ⊢;obtain⟨b1,b2⟩:=zp6 h1;have oF:=fl g c hu c0 c1 b1;rw[b2] at oF
   by_cases h2:QY W g c<12
   ·rw[C' h2] at h ⊢
    have hm:Zr W g c (QY W g c).toNat=true:=by
     rcases Zv (Zr W g c) (Zl W c) 20 with ⟨a,_⟩ | ⟨_,_,a,_⟩
     ·unfold QY at h1; omega
     ·exact a
    rw[Vs Qo] at hm;unfold Pp at hm;rw[show (((QY W g c).toNat:Nat):Int)=QY W g c by omega] at hm;simp only[A',Is] at hm;unfold Zl at oF;rw[C' Qo,show (((QY W g c).toNat:Nat):Int)=QY W g c by omega] at oF;rw[show (Q6 W (QY W g c)).group=g from hm.1.2];exact⟨oF,hp⟩
   ·rw[B' h2] at h ⊢;obtain⟨k1,k2,k3,k4⟩:=Da ha hu (g:=g) (c:=c) Qo
    have hm:Zr W g c (QY W g c).toNat=true:=by
     rcases Zv (Zr W g c) (Zl W c) 20 with ⟨a,_⟩ | ⟨_,_,a,_⟩
     ·unfold QY at h1; omega
     ·exact a
    rw[show (QY W g c).toNat=12+(QY W g c-12).toNat by omega,Uo] at hm;unfold Jy at hm;rw[show (((QY W g c-12).toNat:Nat):Int)=QY W g c-12 by omega] at hm;simp only[A',Is] at hm;unfold Zl at oF;rw[B' Qo,show (((QY W g c).toNat-12:Nat):Int)=QY W g c-12 by omega] at oF;refine ih _ k1 Qo (λx hx=>?_) h;rw[YU ha.tree k1 k2] at hx;rcases Ii.1 hx with e | e
    ·rw[e,hm.1.2.2]; exact oF
    ·rw[hm.1.2.2] at e; exact hp x e
structure z22 (W:Q8) (c t WV:Int):Prop where
 r0:0<=WV
 r1:WV<50
 t1:(Q6 W t).v-(Qc W (Q6 W t).group c).floor<=Zh WV (Qe (Q6 W t).nice)
 t2:(Qc W (Q6 W t).group c).floor<=(Q6 W t).v
 p1:∀x∈Zd W.IC (Q6 W t).group,(Qc W x c).v-(Qc W (gi W.IC x).parent c).floor<=Zh WV (Qc W x c).w
 p2:∀x∈Zd W.IC (Q6 W t).group,(Qc W (gi W.IC x).parent c).floor<=(Qc W x c).v
theorem zyz{W:Q8}(iv:Jw W){c:Int}(c0:0<=c)(c1:c<(W.ID.length:Int))(hl:zri W (Qw W c) c)(hp:¬Qw W c<0):z22 W c (Qw W c) (gi (Xw W c (Qw W c)).ID c).WV:=by
 have wp:=iv.wp;have p:=XN wp;have h:=Pc p hl.t0 hl.t1 (by rw[hl.st]; decide);have e:gi (Xw W c (Qw W c)).ID c=YJ W c (Qw W c):=(QO _ _ c0 c1 c0).trans (C' rfl)
 have t2:(Qc W (Q6 W (Qw W c)).group c).floor<=(Q6 W (Qw W c)).v:=by
  have:=(h.f hl.st).1
  rwa[hl.J'] at this
 have p2:∀x∈Zd W.IC (Q6 W (Qw W c)).group,(Qc W (gi W.IC x).parent c).floor<=(Qc W x c).v:=λx hx=>by
  obtain⟨xu,xz⟩:=X1 wp.a.tree _ h.g x hx;exact((p.s x c xu c0 c1).st xz (hl.on x hx)).1
 rw[e]
 by_cases hc:(gi W.ID c).cur>=0/\(gi W.ID c).WV<50
 ·have hpk:Qw W c=(gi W.ID c).cur:=by unfold Qw; rw[C' hc]
  have hs:YJ W c (Qw W c)=gi W.ID c:=by
   unfold YJ;rw[B'];rintro (h | h)
   ·exact h hpk
   ·omega
  rw[hs];have hy:=(p.c c c0 c1).yes hc.1;have hq:=(p.c c c0 c1).q hc.1 (by rw[<-hpk]; exact hl.st) (by rw[<-hpk]; exact hl.J');rw[<-hpk] at hq;exact⟨Qo,hc.2,hq.1,t2,λx hx=>(hq.2 x hx).2,p2⟩
 ·have hpk:Qw W c=Lk W 0 c:=by unfold Qw; rw[B' hc]
  have hs:(YJ W c (Qw W c)).WV=0:=by
   unfold YJ;rw[C']
   by_cases h0:(gi W.ID c).cur>=0
   ·exact .inr Qo
   ·exact .inl Qo
  rw[hs];have hn:=zw8 wp.a iv.fl c0 c1 _ 0 wp.a.root rfl (λx hx=>by rw[show Zd W.IC 0=[] from Zs _ _] at hx; cases hx) (by rw[<-hpk]; omega);rw[<-hpk] at hn;have v0:∀w:Int,0<=Zh 0 w:=λw=>(D1 0 w).1
  refine⟨I2 _,Qd,?_,t2,λx hx=>?_,p2⟩
  ·have:=v0 (Qe (Q6 W (Qw W c)).nice);have:=hn.1;omega
  ·have:=v0 (Qc W x c).w;have:=hn.2 x hx;omega
theorem zxf{gs:List ZX}(ht:Ye gs):∀g:Int,Q7 gs g=true->∀x∈Zd gs g,dep 3 gs x<=dep 3 gs g:=
 K7 ht (λx hx=>by rw[show Zd gs 0=[] from Zs _ _] at hx; cases hx) λh hu hz ih x hx=>by
  rw[YU ht hu hz] at hx;rcases Ii.1 hx with e | e
  ·subst e; exact I2 _
  ·obtain⟨_,_,_,d,e1,e2,_⟩:=Yf ht hu hz;have:=ih x e;omega
theorem z0a{gs:List ZX}(ht:Ye gs):∀g:Int,Q7 gs g=true->(Zd gs g++[0]).Nodup:=
 K7 ht (by rw[show Zd gs 0=[] from Zs _ _]; simp) λh hu hz ih=>by
  rw[YU ht hu hz,List.cons_append,List.nodup_cons];refine⟨λhm=>?_,ih⟩;rcases Im.1 hm with hm | hm
  ·obtain⟨hp,_,_,d,e1,e2,_⟩:=Yf ht hu hz;have:=zxf ht _ hp h hm;omega
  ·exact hz (Iz.1 hm)
theorem zy2{W:Q8}{c n g:Int}(dD:W.IC.length=8)(u0:0<=g)(u1:g<8)(c0:0<=c)(cs:c<((gi W.IC g).IE.length:Int))(i d:Int)(hi:0<=i)(hd:0<=d):Qc (zc7 W c n g) i d=if g=i/\c=d then zbn W c n g else Qc W i d:=by
 rw[<-Vf (W:=W) (s:=zbn W c n g) u0 Qo c0 cs hi hd];have hl2:g<((GY W c n g).IC.length:Int):=by rw[D6]; omega
 have mR:g<((Rm (GY W c n g) g (AM W c n g)).IC.length:Int):=by simp only[Rm,E']; rw[D6]; omega
 unfold Qc;show gi (gi (zc7 W c n g).IC i).IE d=gi (gi (GY W c n g).IC i).IE d;unfold zc7 RL;rw[Xo u0 mR hi,Xo u0 hl2 hi,Xo u0 hl2 u0,C' rfl];split
 ·rename_i e;subst e;rfl
 ·rfl
theorem zy3{K S c n:Int}(c0:0<=c)(n0:0<=n)(n1:n<=100):∀(l:List Int) {W:Q8},l.Nodup->SW K W->RB S W->S+100*(l.length:Int)<=100000000000000000->c<(W.ID.length:Int)->(∀g∈l,Q7 W.IC g=true)->
  ∀i d:Int,0<=i->0<=d->Qc (zk4 c n l W) i d=if i∈l/\c=d then zbn W c n i else Qc W i d:=by
 intro l
 induction l generalizing K S with
 | nil=>
  intro W _ _ _ _ _ _ i d _ _;rw[B' Qs]; rfl
 | cons g l ih=>
  intro W nd sw rb hS c1 hu i d hi hd;rw[List.length_cons] at hS;have hug:=hu g I9;obtain⟨u0,u1,_⟩:=sw.a.u hug;have hsl:=sw.a.sl hug;have h1:=zpw sw rb Qo c0 c1 hug n0 n1;obtain⟨hng,ndl⟩:=List.nodup_cons.1 nd;have e:=zy2 (n:=n) sw.a.gl u0 u1 c0 Qo;rw[znb,ih ndl h1.sw (h1.rb.mono (show S+n<=S+100 by omega)) Qo (by rw[h1.cp]; exact c1) (λx hx=>by rw[h1.g.eB]; exact hu x (I1 _ hx)) i d hi hd]
  by_cases hil:i∈l
  ·have hgi:g≠i:=λh=>hng (h▸hil)
   by_cases hcd:c=d
   ·rw[C' ⟨hil,hcd⟩,C' ⟨I1 _ hil,hcd⟩];unfold zbn;rw[e i c hi c0,B' λh=>hgi h.1]
   ·rw[B' λh=>hcd h.2,B' λh=>hcd h.2,e i d hi hd,B' λh=>hcd h.2]
  ·rw[B' λh=>hil h.1,e i d hi hd]
   by_cases hgi:g=i
   ·subst hgi
    by_cases hcd:c=d
    ·rw[C' ⟨rfl,hcd⟩,C' ⟨I9,hcd⟩]
    ·rw[B' λh=>hcd h.2,B' λh=>hcd h.2]
   ·rw[B' λh=>hgi h.1,B'];rintro⟨hm,_⟩;rcases Ii.1 hm with h | h
    ·exact hgi h.symm
    ·exact hil h
theorem zs5{a b w:Int}(ha:0<=a)(hb:0<=b)(h:a+b<=149)(w1:1<=w)(w2:w<=20):Zh (a+b) w=Zh a w+Zh b w/\Zh a w+Zh b w<=Zw w:=by
 have e1:=zkf ha hb Qo w1 w2;have e2:=zkf (a:=a+b) (b:=149-(a+b)) (w:=w) Qo Qo Qo w1 w2;rw[show a+b+(149-(a+b))=149 by omega] at e2;have:=(D1 (149-(a+b)) w).1;unfold Zw;omega
structure z4b (V T:Q8) (c t:Int):Prop where
 tk:T.tasks=V.tasks
 g:Z7 V.IC T.IC
 s:∀i:Int,0<=i->(gi T.IC i).IE=(gi V.IC i).IE
 cp:∀d:Int,0<=d->gi T.ID d=if c=d then YJ V c t else gi V.ID d
 l:T.ID.length=V.ID.length
theorem z1o{K S:Int}{V T:Q8}{c t m:Int}(iv:Jw V)(hM:z4b V T c t)(sw:SW K T)(rb:RB S T)(hS:0<=S/\S+500<=100000000000000000)(c0:0<=c)(c1:c<(V.ID.length:Int))(up:(gi V.ID c).up=true)(t0:0<=t)(t1:t<12)(gX:(Q6 V t).state=1)(kR:(Q6 V t).J'=c)(sA:(YJ V c t).cur=t)(hb:z22 V c t (YJ V c t).WV)(m0:1<=m)(m1:m<=100):O6 (MD T c t m):=by
 have wp:=iv.wp;have p:=XN wp;have hht:=Pc p t0 t1 (by rw[gX]; decide);have dD:=wp.a.gl;have fZ:=wp.a.t;have c1T:c<(T.ID.length:Int):=by rw[hM.l]; exact c1
 have eTc:gi T.ID c=YJ V c t:=(hM.cp c c0).trans (C' rfl);have upT:(gi T.ID c).up=true:=by rw[eTc]; unfold YJ; split <;> exact up
 have BE8:(gi T.ID c).WV<50:=by rw[eTc]; exact hb.r1
 have hg:Q7 V.IC (Q6 V t).group=true:=hht.g;have huT:Q7 T.IC (Q6 T t).group=true:=by rw[hM.g.eB,Ju hM.tk]; exact hg
 have pT:Xf T t=Xf V t:=zmk hM.tk hM.g t;obtain⟨sE,rE,_,_,hlE,_,s1,r1,cp1⟩:=zk5 sw rb hS.2 c0 c1T upT BE8 t0 t1 huT Qo m1;obtain⟨pin,CC7⟩:=zby sw.a huT;have hTG:Z7 V.IC (MD T c t m).IC:=hM.g.trans cp1.g;have shT:∀i d:Int,0<=i->Qc T i d=Qc V i d:=λi d hi=>by unfold Qc; rw[hM.s i hi]
 have hnd:(Xf T t).Nodup:=by rw[pT]; exact z0a wp.a.tree _ hg
 have eS:∀i d:Int,0<=i->0<=d->Qc (MD T c t m) i d=if i∈Xf V t/\c=d then zbn V c m i else Qc V i d:=λi d hi hd=>by
  have e:=zy3 c0 Qo m1 (Xf T t) hnd s1 r1 Qo c1T pin i d hi hd;have e':Qc (MD T c t m) i d=if i∈Xf T t/\c=d then zbn T c m i else Qc T i d:=e;rw[e',pT,shT i d hi];have:zbn T c m i=zbn V c m i:=by unfold zbn; rw[shT i c hi]
  rw[this]
 have fF:∀i d:Int,0<=i->0<=d->(Qc (MD T c t m) i d).floor=(Qc V i d).floor:=λi d hi hd=>by
  rw[eS i d hi hd]; split
  ·rename_i h; rw[<-h.2]; rfl
  ·rfl
 have fO:∀i d:Int,0<=i->0<=d->(Qc (MD T c t m) i d).on=(Qc V i d).on:=λi d hi hd=>by
  rw[eS i d hi hd]; split
  ·rename_i h; rw[<-h.2]; rfl
  ·rfl
 have fW:∀i d:Int,0<=i->0<=d->(Qc (MD T c t m) i d).w=(Qc V i d).w:=λi d hi hd=>by
  rw[eS i d hi hd]; split
  ·rename_i h; rw[<-h.2]; rfl
  ·rfl
 have fV:∀i d:Int,0<=i->0<=d->¬(i∈Zd V.IC (Q6 V t).group/\c=d)->(Qc (MD T c t m) i d).v=(Qc V i d).v:=λi d hi hd hn=>by
  rw[eS i d hi hd]; split
  ·rename_i h
   have hz:¬i≠0:=λhz=>by
    rcases Im.1 h.1 with h' | h'
    ·exact hn ⟨h',h.2⟩
    ·exact hz (Iz.1 h')
   rw[<-h.2];show (if i≠0 then _ else _)=_;rw[B' hz]
  ·rfl
 have fP:∀i:Int,i∈Zd V.IC (Q6 V t).group->(Qc (MD T c t m) i c).v=(Qc V i c).v+Zh m (Qc V i c).w:=λi hi=>by
  obtain⟨iu,iz⟩:=X1 wp.a.tree _ hg i hi;rw[eS i c (Q4.1 iu).1 c0,C' ⟨Ia _ hi,rfl⟩];show (if i≠0 then _ else _)=_;rw[C' iz]
 have eK:∀i:Int,0<=i->Q6 (MD T c t m) i=if t=i then GZ V t m else Q6 V i:=λi hi=>by
  have h1:Q6 (MD T c t m) i=gi (T.tasks.set t.toNat (GZ T t m)) i:=by
   show gi (zk4 c m (Xf T t) (IM T t (GZ T t m))).tasks i=_;rw[cp1.t]; rfl
  have h2:GZ T t m=GZ V t m:=by unfold GZ; rw[Ju hM.tk]
  rw[h1,QO _ _ t0 (by rw[hM.tk]; omega) hi,h2];split
  ·rfl
  ·exact Ju hM.tk i
 have eC:∀d:Int,0<=d->gi (MD T c t m).ID d=if c=d then zrs T c m else gi V.ID d:=λd hd=>by
  have h1:gi (MD T c t m).ID d=gi (T.ID.set c.toNat (zrs T c m)) d:=by
   show gi ((zk4 c m (Xf T t) (IM T t (GZ T t m))).ID.set c.toNat (zrs T c m)) d=_;rw[cp1.cp]; rfl
  rw[h1,QO _ _ c0 c1T hd];split
  ·rfl
  ·rename_i h;rw[hM.cp d hd,B' h]
 have wn:1<=Qe (Q6 V t).nice/\Qe (Q6 V t).nice<=20:=by
  have:=JN (Q6 V t).nice;have:=hht.n;omega
 have hv0:∀w:Int,0<=Zh m w:=λw=>(D1 m w).1
 have Cr8:∀i d:Int,Q7 V.IC i=true->0<=d->d<(V.ID.length:Int)->1<=(Qc V i d).w/\(Qc V i d).w<=20:=λi d hu d0 d1=>by
  have:=HO wp hu d0 d1;exact⟨this.w1,this.w2⟩
 have vt:=zs5 hb.r0 (show 0<=m by omega) (by have:=hb.r1; omega) wn.1 wn.2
 have vp:∀i:Int,i∈Zd V.IC (Q6 V t).group->Zh ((YJ V c t).WV+m) (Qc V i c).w=Zh (YJ V c t).WV (Qc V i c).w+Zh m (Qc V i c).w/\Zh (YJ V c t).WV (Qc V i c).w+Zh m (Qc V i c).w<=Zw (Qc V i c).w:=λi hi=>by
  have h:=Cr8 i c (X1 wp.a.tree _ hg i hi).1 c0 c1;exact zs5 hb.r0 (show 0<=m by omega) (by have:=hb.r1; omega) h.1 h.2
 have Bu8:∀i:Int,Q7 V.IC i=true->i≠0->0<=(gi V.IC i).parent:=λi hu hz=>(Q4.1 (Yf wp.a.tree hu hz).1).1
 have CR8:∀i:Int,i∈Zd V.IC (Q6 V t).group->Tg (MD T c t m) i c:=λi hi=>by
  obtain⟨iu,iz⟩:=X1 wp.a.tree _ hg i hi;have i0:=(Q4.1 iu).1;unfold Tg;rw[hTG.p,fF _ c (Bu8 i iu iz) c0,fP i hi,fW i c i0 c0];have h1:=hb.p1 i hi;have h2:=hb.p2 i hi;have h3:=vp i hi;have:=hv0 (Qc V i c).w;omega
 refine⟨⟨sE.a,λi a b=>?_,λi a b n=>?_,λk d hk d0 d1=>?_⟩,λd d0 d1=>?_⟩
 ·have hrt:=rE.t i a b;rw[eK i a] at hrt ⊢;split
  ·rename_i he;rw[C' he] at hrt;refine .inr ⟨by show (Q6 V t).state≠0; rw[gX]; decide,hht.st,by rw[hTG.eB]; exact hg,hht.n,hht.m,hht.m0,YV.2 ⟨hrt.1,Qo⟩,YV.2 ⟨hrt.2.2.1,Qo⟩,hht.l1,hht.l2,λ_=>?_⟩;show (Qc (MD T c t m) (Q6 V t).group (Q6 V t).J').floor<=(Q6 V t).v+Zh m (Qe (Q6 V t).nice)/\(Q6 V t).v+Zh m (Qe (Q6 V t).nice)-(Qc (MD T c t m) (Q6 V t).group (Q6 V t).J').floor<=Zw (Qe (Q6 V t).nice);rw[kR,fF _ c (Q4.1 hg).1 c0];have:=hb.t1;have:=hb.t2;have:=hv0 (Qe (Q6 V t).nice);omega
  ·rcases p.t i a b with h | ⟨h1,h2⟩
   ·exact .inl h
   ·refine .inr ⟨h1,h2.st,by rw[hTG.eB]; exact h2.g,h2.n,h2.m,h2.m0,h2.s,h2.u,h2.l1,h2.l2,λhs=>?_⟩;rw[fF _ _ (Q4.1 h2.g).1 (p.l i a b h1).1];exact h2.f hs
 ·rw[hlE,hM.l];rw[eK i a] at n ⊢;split
  ·show 0<=(Q6 V t).J'/\(Q6 V t).J'<_;rw[kR]; exact⟨c0,c1⟩
  ·rename_i he;rw[B' he] at n;exact p.l i a b n
 ·have hrs:=rE.s k d hk d0 d1;rw[hTG.eB] at hk;rw[hlE,hM.l] at d1;have k0:=(Q4.1 hk).1;have hp:=p.s k d hk d0 d1;refine⟨YV.2 ⟨hrs.1,Qo⟩,λhz=>?_,λhz ho=>?_⟩
  ·have h:=hp.root hz;rw[fO k d k0 d0,fW k d k0 d0,fV k d k0 d0 λh=>(X1 wp.a.tree _ hg k h.1).2 hz];exact h
  ·rw[fO k d k0 d0] at ho
   by_cases mG:k∈Zd V.IC (Q6 V t).group/\c=d
   ·obtain⟨h1,rfl⟩:=mG;exact CR8 k h1
   ·have h:=hp.st hz ho;unfold Tg at h ⊢;rw[hTG.p,fF _ d (Bu8 k hk hz) d0,fV k d k0 d0 mG,fW k d k0 d0];exact h
 ·have hrc:=rE.c d d0 d1;rw[hlE,hM.l] at d1
  by_cases hd:c=d
  ·subst hd;have e:=(eC c c0).trans (C' rfl);have Ci4:(gi (MD T c t m).ID c).cur=t:=by rw[e]; show (gi T.ID c).cur=t; rw[eTc]; exact sA
   have Ci7:(gi (MD T c t m).ID c).WV=(YJ V c t).WV+m:=by rw[e]; show (gi T.ID c).WV+m=_; rw[eTc]
   have bQ:=hb.r0;have wE:=hb.r1;refine⟨YV.2 ⟨hrc.1,Qo⟩,YV.2 ⟨hrc.2.2.1,by have:=hrc.2.2.2.1; omega⟩,Qo,Qo,λh0=>by omega,λ_=>⟨by rw[e]; exact upT,Qo,Qo⟩,λ_ _ _=>?_⟩;rw[Ci4,Ci7,eK t t0,C' rfl];refine⟨?_,λx hx=>?_⟩
   ·show (Q6 V t).v+Zh m (Qe (Q6 V t).nice)-(Qc (MD T c t m) (Q6 V t).group c).floor<=Zh ((YJ V c t).WV+m) (Qe (Q6 V t).nice);rw[fF _ c (Q4.1 hg).1 c0,vt.1];have:=hb.t1;omega
   ·have hx:x∈Zd (MD T c t m).IC (Q6 V t).group:=hx;rw[O5 hTG] at hx;obtain⟨xu,xz⟩:=X1 wp.a.tree _ hg x hx;refine⟨CR8 x hx,?_⟩;rw[hTG.p,fF _ c (Bu8 x xu xz) c0,fP x hx,fW x c (Q4.1 xu).1 c0,(vp x hx).1];have:=hb.p1 x hx;omega
  ·have e:=(eC d d0).trans (B' hd);have h:=p.c d d0 d1;refine⟨by rw[e]; exact h.b,by rw[e]; exact h.i,by rw[e]; exact h.c1,by rw[e]; exact h.c2,by rw[e]; exact h.no,by rw[e]; exact h.yes,?_⟩;rw[e];intro h0 h1 h2;rw[eK _ h0] at h1 h2 ⊢
   by_cases ht:t=(gi V.ID d).cur
   ·rw[C' ht] at h2;have h2:(Q6 V t).J'=d:=h2;exact Ir (kR.symm.trans h2) hd
   ·rw[B' ht] at h1 h2 ⊢;obtain⟨q1,q2⟩:=h.q h0 h1 h2;have kF:=(Pc p h0 h.c2 (by rw[h1]; decide)).g;refine⟨by rw[fF _ d (Q4.1 kF).1 d0]; exact q1,λx hx=>?_⟩;rw[O5 hTG] at hx;obtain⟨xu,xz⟩:=X1 wp.a.tree _ kF x hx;have x0:=(Q4.1 xu).1;have:=q2 x hx;unfold Tg at this ⊢;rw[hTG.p,fF _ d (Bu8 x xu xz) d0,fV x d x0 d0 λh=>hd h.2,fW x d x0 d0];exact this
theorem z0j(W:Q8)(c n g:Int):Oc W (zc7 W c n g):=
 ((zf0 W g c (zbn W c n g)).trans (zq3 (W:=GY W c n g) (g:=g) (x:=AM W c n g) rfl rfl rfl rfl rfl)).trans (zq2 _ _ _)
theorem zst(c n:Int):∀(l:List Int) (W:Q8),Oc W (zk4 c n l W)
 | [],W=>Oc.refl _
 | g::l,W=>(z0j W c n g).trans (zst c n l _)
theorem zsu(W:Q8)(c g:Int):Oc W (zb3 W c g).1:=by
 unfold zb3;split
 ·exact Oc.refl _
 ·exact zq2 _ _ _
theorem zsv(c:Int):∀(l:List Int) (W:Q8),Oc W (zkd c l W).1
 | [],W=>Oc.refl _
 | g::l,W=>by
  simp only[zkd];split
  ·exact(zsu W c g).trans (zsv c l _)
  ·exact zsu W c g
theorem zxy(W:Q8)(c t:Int):Oc W (Xw W c t):=zmq (by unfold YJ; split <;> rfl)
theorem ztp(W:Q8)(c t:Int):Js (YJ W c t)=Js (gi W.ID c):=by unfold YJ; split <;> rfl
theorem zzf{f:Nat}{c left:Int}{W0 V:Q8}(h:zgf f c W0 V left)(iv:Jw V):Jw (Qh (Rp (Se V c (Hj V c left)) c)):=by
 have p:=XN iv.wp;have c0:=h.c0;have c1:=h.c1;have hK:=BY h.f2;have hh0:(0:Int)<=Qq:=Qd;have gX:Vu=173430457200:=rfl;obtain⟨sE,s1,i3,i4⟩:=zwi h;have hl:(Se V c (Hj V c left)).ID.length=V.ID.length:=E'
 have hP:O6 (Se V c (Hj V c left)):=by
  refine⟨⟨s1.a,λt t0 t1=>(p.t t t0 t1).imp id λh=>⟨h.1,h.2.gr rfl⟩,λt t0 t1 n=>?_,λk d hk d0 d1=>?_⟩,λd d0 d1=>?_⟩
  ·rw[hl]; exact p.l t t0 t1 n
  ·rw[hl] at d1; exact(p.s k d hk d0 d1).Bd9 rfl λ_=>rfl
  ·rw[hl] at d1;have hd:=p.c d d0 d1;have e:gi (Se V c (Hj V c left)).ID d=if c=d then Hj V c left else gi V.ID d:=QO _ _ c0 c1 d0
   by_cases he:c=d
   ·subst he;have e:=e.trans (C' rfl);exact⟨by rw[e]; exact hd.b,by rw[e]; exact YV.2 ⟨i3,by show (gi V.ID c).idle+left<=_; omega⟩,by rw[e]; exact hd.c1,by rw[e]; exact hd.c2,by rw[e]; exact hd.no,by rw[e]; exact hd.yes,by rw[e]; exact hd.q⟩
   ·have e:=e.trans (B' he);exact⟨by rw[e]; exact hd.b,by rw[e]; exact hd.i,by rw[e]; exact hd.c1,by rw[e]; exact hd.c2,by rw[e]; exact hd.no,by rw[e]; exact hd.yes,by rw[e]; exact hd.q⟩
 exact ZC sE Qo Qo (hP.Rp c0 (by rw[hl]; exact c1)) (((zmq (W:=V) (c:=c) (x:=Hj V c left) rfl).loc rfl (Vr iv.wp)).Rp _)
theorem z0f{f:Nat}{c left:Int}{W0 V:Q8}(h:zgf (f+1) c W0 V left)(iv:Jw V)(hl:0<left)(hp:¬Qw V c<0):Jw (BV V c left).1:=by
 have hR:=zqw h hl hp;have c0:=h.c0;have c1:=h.c1;have hK:=BY h.f2;have hSu:=zmm h.f2;have hh0:(0:Int)<=Qq:=Qd;have gX:Vu=173430457200:=rfl;have hlg:Qj=34686091440:=rfl;have t0:=hR.line.t0;have t1:=hR.line.t1;obtain⟨q1,q2,q3,q4,q5,q6⟩:=N3 h.sw h.rb c0 c1 h.up t0 t1;have eC:(Xl V c).1.ID=(Xw V c (Qw V c)).ID:=hR.tk.o.c;have lT:(Xl V c).1.ID.length=V.ID.length:=by rw[eC]; exact q6
 have cT:c<((Xl V c).1.ID.length:Int):=by rw[lT]; exact c1
 have rT:RB (Ax (f+1)) (Xl V c).1:=hR.r1.sum hR.tk.su hR.tk.o.g (by rw[eC]);have eT:(Xl V c).1.tasks=V.tasks:=hR.tk.o.t;have eG:Z7 V.IC (Xl V c).1.IC:=hR.tk.o.g;have eN:(Xl V c).1.now=V.now:=hR.tk.o.n;have eSh:∀i:Int,0<=i->(gi (Xl V c).1.IC i).IE=(gi V.IC i).IE:=hR.tk.o.s;have sT:Oc V (Xl V c).1:=(zxy V c (Qw V c)).trans (zsv c _ _);have lcT:zb8 (Xl V c).1:=sT.loc eT (Vr iv.wp)
 have eCp:∀d:Int,0<=d->gi (Xl V c).1.ID d=if c=d then YJ V c (Qw V c) else gi V.ID d:=λd hd=>by
  rw[eC]; exact QO _ _ c0 c1 hd
 have hRW:BV V c left=if (Xl V c).2=true then (Qh (MD (Xl V c).1 c (Qw V c) (Vt V c left)),left-Vt V c left) else (Qh (Rp (Xl V c).1 c),left):=rfl;rw[hRW]
 by_cases gt:(Xl V c).2=true
 ·rw[C' gt];obtain⟨m1,m2⟩:=hR.m gt;obtain⟨sC,rC⟩:=hR.ch gt;have mR:=h.l1;have hb:=zyz iv c0 c1 hR.line hp;have es:gi (Xw V c (Qw V c)).ID c=YJ V c (Qw V c):=(QO _ _ c0 c1 c0).trans (C' rfl);rw[es] at hb q5;have hP:O6 (MD (Xl V c).1 c (Qw V c) (Vt V c left)):=z1o iv ⟨eT,eG,eSh,eCp,lT⟩ hR.tk.sw rT ⟨Qo,Qo⟩ c0 c1 h.up t0 t1 hR.line.st hR.line.J' q5 hb m1 Qo;refine ZC sC Qo Qo hP ?_;have uT:Q7 (Xl V c).1.IC (Q6 (Xl V c).1 (Qw V c)).group=true:=by rw[eG.eB,Ju eT]; exact hR.us
  have upT:(gi (Xl V c).1.ID c).up=true:=by rw[eC]; exact q3
  have BE8:(gi (Xl V c).1.ID c).WV<50:=by rw[eC]; exact hR.WV
  have cp1:=(zk5 (t:=Qw V c) (n:=Vt V c left) hR.tk.sw rT Qo c0 cT upT BE8 t0 t1 uT Qo Qo).2.2.2.2.2.2.2.2;have l1:zb8 (IM (Xl V c).1 (Qw V c) (GZ (Xl V c).1 (Qw V c) (Vt V c left))):=lcT.IM hR.tk.sw.a t0 t1 λn=>lcT _ t0 t1 n
  have l2:=(zst c (Vt V c left) (Xf (Xl V c).1 (Qw V c)) (IM (Xl V c).1 (Qw V c) (GZ (Xl V c).1 (Qw V c) (Vt V c left)))).loc cp1.t l1;refine Oc.loc (zmq ?_) rfl l2;show (gi (Xl V c).1.ID c).up=(gi (zk4 c (Vt V c left) (Xf (Xl V c).1 (Qw V c)) (IM (Xl V c).1 (Qw V c) (GZ (Xl V c).1 (Qw V c) (Vt V c left)))).ID c).up;rw[cp1.cp]; rfl
 ·rw[B' gt]
  have hE:Rp (Xl V c).1 c=Rp { (Xl V c).1 with ID:=V.ID } c:=by
   have e1:=(eCp c c0).trans (C' rfl);show ({ (Xl V c).1 with ID:=(Xl V c).1.ID.set c.toNat (Js (gi (Xl V c).1.ID c)) }:Q8)={ (Xl V c).1 with ID:=V.ID.set c.toNat (Js (gi V.ID c)) };rw[e1,ztp,eC];show ({ (Xl V c).1 with ID:=(V.ID.set c.toNat (YJ V c (Qw V c))).set c.toNat (Js (gi V.ID c)) }:Q8)=_;rw[List.set_set]
  have ha:WA ({ (Xl V c).1 with ID:=V.ID }:Q8):=hR.tk.sw.a.cp lT.symm iv.wp.a.ups;have p2:O6 ({ (Xl V c).1 with ID:=V.ID }:Q8):=(XN iv.wp).A21 ⟨eN,rfl,eT,eG,eSh⟩ ha;have sD:=lcT.Rp c;have sE:=hR.tk.sw.Rp c0 cT;rw[hE] at sD sE ⊢;exact ZC sE Qo Qo (p2.Rp c0 c1) sD
theorem zot{c:Int}{W0:Q8}:∀(f:Nat) {V:Q8} {left:Int},zgf f c W0 V left->Jw V->Jw (zfr c f V left)
 | 0,V,left,h,_=>by
  have:=h.f1;have:=h.l0;omega
 | f+1,V,left,h,iv=>by
  have hK:=BY h.f2;have hh0:(0:Int)<=Qq:=Qd;have gX:Vu=173430457200:=rfl
  by_cases hl:left<=0
  ·rw[zos hl];exact ZC h.sw Qo Qo (XN iv.wp) (Vr iv.wp)
  ·by_cases hp:Qw V c<0
   ·rw[zjw hl hp];exact zzf h iv
   ·rw[zjx hl hp];have hR:=zqw h Qo hp;exact zot f hR.nx (z0f h iv Qo hp)
theorem zzn{W:Q8}{c n:Int}(iv:Jw W)(hb:BW W c n=0):Jw (zup W c n):=zot 400 (zxq (Qm.2 iv.wp) hb).2.2.2.2 iv
theorem zu5{W:Q8}(wp:Jq W){c:Int}(c0:0<=c)(c1:c<(W.ID.length:Int)):Jq (Rp W c):=by
 have hl:(Rp W c).ID.length=W.ID.length:=E';have e:∀d:Int,0<=d->gi (Rp W c).ID d=if c=d then Js (gi W.ID c) else gi W.ID d:=λd d0=>QO _ _ c0 c1 d0
 have sta:=G6 W c
 have ha:WA (Rp W c):=wp.a.cp (cs:=W.ID.set c.toNat (Js (gi W.ID c))) E' (by
  rw[show Ue (W.ID.set c.toNat (Js (gi W.ID c)))=Ue W.ID from sta.ups];exact wp.a.ups)
 refine⟨ha,λt t0 t1=>?_,λk d k0 k1 d0 d1=>?_,λd d0 d1=>?_⟩
 ·rcases wp.t t t0 t1 with hz | ⟨n,hx⟩
  ·exact .inl hz
  ·refine .inr ⟨n,hx.st,hx.g,hx.n,hx.m,hx.m0,hx.v,hx.s,hx.u,hx.l1,hx.l2,?_,hx.f⟩;rw[sta.wh]; exact hx.c
 ·have hs:=wp.s k d k0 k1 d0 d1;exact⟨hs.f,hs.v,hs.s,hs.w1,hs.w2,hs.root,hs.on,hs.st⟩
 ·rw[hl] at d1;have h:=wp.c d d0 d1
  by_cases hd:c=d
  ·subst hd;have e1:=(e c c0).trans (C' rfl);refine⟨by rw[e1]; exact h.b,by rw[e1]; exact h.i,by rw[e1]; show (-1:Int)<=-1; decide,by rw[e1]; show (-1:Int)<_; have:=wp.a.t; show (-1:Int)<(W.tasks.length:Int); omega,λ_=>by rw[e1]; rfl,λh0=>?_⟩;rw[e1] at h0;have h0:(0:Int)<=-1:=h0;omega
  ·have e1:=(e d d0).trans (B' hd);refine⟨by rw[e1]; exact h.b,by rw[e1]; exact h.i,by rw[e1]; exact h.c1,by rw[e1]; exact h.c2,by rw[e1]; exact h.no,λh0=>?_⟩;rw[e1] at h0 ⊢;obtain⟨y1,y2,y3,y4,y5,y6⟩:=h.yes h0;refine⟨y1,y2,y3,y4,y5,?_⟩;unfold Kc at y6 ⊢;rw[e1];exact y6
theorem zty{W:Q8}(iv:Jw W){c:Int}(c0:0<=c)(c1:c<(W.ID.length:Int)):Jw (Rp W c):=
 ⟨zu5 iv.wp c0 c1,λk d hu d0 d1 hb=>by
  have hl:(Rp W c).ID.length=W.ID.length:=E';rw[hl] at d1;exact iv.fl k d hu d0 d1 hb⟩
def Kl(W:Q8)(t g:Int):Int:=if Z1 (Qn W g (Q6 W t).mask) (Q6 W t).J'=true then (Q6 W t).J' else O3 (Qn W g (Q6 W t).mask)
noncomputable def Td(W:Q8)(t g:Int):Int:=if Z4 W t=false\/Q7 W.IC g=false then 2 else if QK W=false then 10 else 0
def Li(W:Q8)(t g:Int):Q8:=if (Q6 W t).group=g then W else Qh (Uq (QF W t) t g (Kl W t g))
theorem zl6{W:Q8}(wp:Jq W){t g:Int}(t0:0<=t)(t1:t<12)(n:(Q6 W t).state≠0):0<=Kl W t g/\Kl W t g<(W.ID.length:Int)/\Z1 (Qn W g (Q6 W t).mask) (Kl W t g)=true:=by
 unfold Kl;split
 ·rename_i h;have:=(XN wp).l t t0 t1 n;exact⟨this.1,this.2,h⟩
 ·have hw:=Kh wp.a g (Q6 W t).mask;have hf:=Ly wp.a g (Q6 W t).mask;exact⟨hf.1,hf.2,BD hw.1 hw.2⟩
theorem zr3{W:Q8}{t g:Int}(iv:Jw W)(hb:Td W t g=0):Jw (Li W t g):=by
 have wp:=iv.wp;unfold Td at hb
 split at hb
 ·cases hb
 ·rename_i h1
  split at hb
  ·cases hb
  ·rename_i h3;have hth:Z4 W t=true:=by cases h:Z4 W t with | true=>rfl | false=>exact Ir (.inl h) h1
   have hu:Q7 W.IC g=true:=by cases h:Q7 W.IC g with | true=>rfl | false=>exact Ir (.inr h) h1
   have hr:QK W=true:=by simpa using h3
   obtain⟨t0,t1,n⟩:=Y0 hth;have fZ:=wp.a.t;unfold Li;split
   ·exact iv
   ·obtain⟨m0,m1,m2⟩:=zl6 wp (g:=g) t0 Qo n;have sw:=Mi wp (Qm.1 hr);obtain⟨c0,c1⟩:=(XN wp).l t t0 Qo n
    have key:O6 (QF W t)/\Oc W (QF W t)/\SW Qq (QF W t)/\Q6 (QF W t) t=Q6 W t/\(QF W t).tasks=W.tasks/\(QF W t).IC=W.IC:=by
     unfold QF;split
     ·exact⟨(XN wp).Rp c0 c1,G6 _ _,sw.Rp c0 c1,rfl,rfl,rfl⟩
     ·exact⟨XN wp,Oc.refl _,sw,rfl,rfl,rfl⟩
    obtain⟨k1,k2,k3,k4,k5,k6⟩:=key;have hlo:=k2.loc k5 (Vr wp);have hu2:Q7 (QF W t).IC g=true:=by rw[k6]; exact hu
    have hm1:Kl W t g<((QF W t).ID.length:Int):=by rw[k2.len]; exact m1
    have sf:=(BU (Kt k3) (I2 _) (t:=t) t0 Qo hu2 m0 hm1).2;refine ZC sf.w (by simp only[Qj]; decide) (by simp only[Qj,Vu]; decide) (zfo k1 t0 Qo (by rw[k4]; exact n) hu2 m0 hm1) λi i0 i1 hn=>?_
    rw[(zb2 (QF W t) t g (Kl W t g)).wh];rw[zqt k1.a.t t0 Qo i0] at hn ⊢
    split at hn
    ·rename_i he;rw[C' he];show Z1 (Qn (QF W t) g (Q6 (QF W t) t).mask) (Kl W t g)=true;rw[k4,k2.wh]; exact m2
    ·rename_i he;rw[B' he];exact hlo i i0 i1 hn
structure ziy (W:Q8) (g:Int):Prop where
 g1:1<=g
 us:Q7 W.IC g=true
 nk:∀h:Int,1<=h->h<8->(gi W.IC h).used=true->(gi W.IC h).parent≠g
 nt:∀t:Int,0<=t->t<12->(Q6 W t).state≠0->(Q6 W t).group≠g
def Jr(W:Q8)(g:Int):Q8:=Rm W g zga
section
variable {W:Q8}{g:Int}
theorem ziy.g8(h:ziy W g)(ha:WA W):g<8:=by
 have:=ha.gl;have:=(Q4.1 h.us).2.1;omega
theorem E4(ha:WA W)(h:ziy W g){i:Int}(hi:0<=i):gi (Jr W g).IC i=if g=i then zga else gi W.IC i:=Xo (by have:=h.g1; omega) (Q4.1 h.us).2.1 hi
theorem EH(ha:WA W)(h:ziy W g){k:Int}(hu:Q7 W.IC k=true)(hk:k≠g):gi (Jr W g).IC k=gi W.IC k:=by
 rw[E4 ha h (Q4.1 hu).1,B' λe=>hk e.symm]
theorem zk9(ha:WA W):(Jr W g).IC.length=8:=by
 have:=ha.gl;simp[Jr,Rm]; omega
theorem zc9(ha:WA W)(h:ziy W g){k:Int}(hu:Q7 W.IC k=true)(hz:k≠0):(gi W.IC k).parent≠g:=by
 obtain⟨a,b,c⟩:=Q4.1 hu;have:=ha.gl;exact h.nk k Qo Qo c
theorem zbo(ha:WA W)(h:ziy W g){k:Int}:Q7 (Jr W g).IC k=true↔Q7 W.IC k=true/\k≠g:=by
 have dD:=ha.gl;rw[Q4,Q4,zk9 ha,dD];constructor
 ·rintro⟨x,y,z⟩;rw[E4 ha h x] at z
  by_cases e:g=k
  ·rw[C' e] at z; cases z
  ·rw[B' e] at z;exact⟨⟨x,y,z⟩,λe2=>e e2.symm⟩
 ·rintro⟨⟨x,y,z⟩,e⟩;refine⟨x,y,?_⟩;rw[E4 ha h x,B' λe2=>e e2.symm];exact z
theorem zv2(ha:WA W)(h:ziy W g):∀(f:Nat) (k:Int),Q7 W.IC k=true->k≠g->dep f (Jr W g).IC k=dep f W.IC k
 | 0,_,_,_=>rfl
 | f+1,k,hu,hk=>by
  by_cases hz:k=0
  ·subst hz; rw[Y6,Y6]
  ·have ih:=zv2 ha h f _ (Yf ha.tree hu hz).1 (zc9 ha h hu hz);simp only[dep];rw[EH ha h hu hk,ih]
theorem zla(ha:WA W)(h:ziy W g):∀(f:Nat) (k:Int),Q7 W.IC k=true->k≠g->Vj f (Jr W g).IC k=Vj f W.IC k
 | 0,_,_,_=>rfl
 | f+1,k,hu,hk=>by
  by_cases hz:k=0
  ·subst hz; rw[Zs,Zs]
  ·have ih:=zla ha h f _ (Yf ha.tree hu hz).1 (zc9 ha h hu hz);simp only[Vj];rw[EH ha h hu hk,ih]
theorem zpy(ha:WA W)(h:ziy W g):∀k:Int,Q7 W.IC k=true->k≠g->∀x∈Zd W.IC k,x≠g:=
 K7 ha.tree (λ_ x hx=>by rw[show Zd W.IC 0=[] from Zs _ _] at hx; cases hx) λk hu hz ih hk x hx=>by
  rw[YU ha.tree hu hz] at hx;rcases Ii.1 hx with e | e
  ·rw[e]; exact hk
  ·exact ih (zc9 ha h hu hz) x e
theorem zy7(ha:WA W)(h:ziy W g):Ye (Jr W g).IC:=by
 have ht:=ha.tree;have r:=EH ha h ha.root (by have:=h.g1; omega)
 have sp:∀{k:Int},1<=k->k<8->(gi (Jr W g).IC k).used=true->Q7 W.IC k=true/\k≠g/\gi (Jr W g).IC k=gi W.IC k:=λ{k} b d hh=>by
  have:=(zbo ha h).1 (Q4.2 ⟨Qo,by rw[zk9 ha]; omega,hh⟩);exact⟨this.1,this.2,EH ha h this.1 this.2⟩
 refine⟨zk9 ha,by rw[r]; exact ht.ru,by rw[r]; exact ht.rp,by rw[r]; exact ht.rn,λk b d hh=>?_,λk b d hh=>?_,λk b d hh=>?_,λx k b d e hx hk=>?_⟩
 ·obtain⟨_,_,e⟩:=sp b d hh;rw[e] at hh ⊢; exact ht.nm k b d hh
 ·obtain⟨_,_,e⟩:=sp b d hh;rw[e] at hh ⊢;exact(zbo ha h).2 ⟨ht.par k b d hh,h.nk k b d hh⟩
 ·obtain⟨u,n,_⟩:=sp b d hh;rw[zv2 ha h 3 k u n]; exact ht.dp k b d (Q4.1 u).2.2
 ·rintro⟨q1,q2⟩;obtain⟨u1,_,e1⟩:=sp Qo e hx;obtain⟨u2,_,e2⟩:=sp b Qo hk;rw[e1,e2] at q1 q2;exact ht.uniq x k b d e (Q4.1 u1).2.2 (Q4.1 u2).2.2 ⟨q1,q2⟩
theorem LH(ha:WA W)(h:ziy W g){k c:Int}(hu:Q7 W.IC k=true)(hk:k≠g):Qc (Jr W g) k c=Qc W k c:=by
 unfold Qc;rw[EH ha h hu hk]
theorem zy6(wp:Jq W)(h:ziy W g){c:Int}:QX W g c=false:=by
 have hl:=wp.a.gl;have ht:=wp.a.t
 have e1:∀j,j<W.tasks.length->Pp W g c j=false:=λj hj=>by
  unfold Pp
  cases hs:((gi W.tasks (j:Int)).state==1) with
  | false=>rfl
  | true=>
   have hs:(gi W.tasks (j:Int)).state=1:=by simpa using hs
   have:(gi W.tasks (j:Int)).group≠g:=h.nt (j:Int) Qo Qo (by rw[show (Q6 W (j:Int)).state=1 from hs]; decide);rw[show ((gi W.tasks (j:Int)).group==g)=false by simpa using this];rfl
 have e2:∀j,j<W.IC.length->Jy W g c j=false:=λj hj=>by
  unfold Jy
  by_cases hj1:1<=j
  ·cases hs:(gi W.IC (j:Int)).used with
   | false=>simp
   | true=>
    have:=h.nk (j:Int) Qo Qo hs;rw[show ((gi W.IC (j:Int)).parent==g)=false by simpa using this];simp
  ·rw[decide_eq_false hj1]; rfl
 unfold QX;rw[KZ e1,KZ e2];rfl
theorem z1r(wp:Jq W)(h:ziy W g){c:Int}(c0:0<=c)(c1:c<(W.ID.length:Int)):(Qc W g c).on=false:=by
 have g1:=h.g1;have:=(wp.s g c Qo (h.g8 wp.a) c0 (by rw[wp.a.sl h.us]; exact c1)).on Qo;rw[this,zy6 wp h]; rfl
theorem zrw(wp:Jq W)(h:ziy W g){k c:Int}(c0:0<=c)(c1:c<(W.ID.length:Int))(j:Nat):Jy (Jr W g) k c j=Jy W k c j:=by
 have ha:=wp.a;unfold Jy
 by_cases e:g=(j:Int)
 ·rw[E4 ha h Qo,C' e,<-e,z1r wp h c0 c1];simp[zga]
 ·rw[E4 ha h Qo,B' e]
  have:Qc (Jr W g) (j:Int) c=Qc W (j:Int) c:=by
   unfold Qc;rw[E4 ha h Qo,B' e]
  rw[this]
theorem z1q(wp:Jq W)(h:ziy W g){k c:Int}(c0:0<=c)(c1:c<(W.ID.length:Int)):QX (Jr W g) k c=QX W k c:=by
 unfold QX;rw[show Oe (Pp (Jr W g) k c) (Jr W g).tasks.length=Oe (Pp W k c) W.tasks.length from rfl,zk9 wp.a,wp.a.gl];rw[KY λj _=>zrw wp h c0 c1 j]
theorem z1s(ha:WA W)(h:ziy W g){k:Int}(hu:Q7 W.IC k=true)(hk:k≠g)(u:Int):Ts (Jr W g).IC k u=Ts W.IC k u:=by
 have e:Zd (Jr W g).IC k=Zd W.IC k:=zla ha h 3 k hu hk;have g1:=h.g1;unfold Ts;rw[e];refine NX _ _ λs x hx=>?_
 have hxu:Q7 W.IC x=true/\x≠g:=by
  rcases Im.1 hx with hx | hx
  ·exact⟨(X1 ha.tree k hu x hx).1,zpy ha h k hu hk x hx⟩
  ·rw[Iz.1 hx]; exact⟨ha.root,Qo⟩
 rw[EH ha h hxu.1 hxu.2]
theorem z3f(ha:WA W)(h:ziy W g){k:Int}(hu:Q7 W.IC k=true)(hk:k≠g)(m:Int):Qn (Jr W g) k m=Qn W k m:=zyi (W:=W) (W':=Jr W g) rfl (z1s ha h hu hk) m
theorem zzi(iv:Jw W)(h:ziy W g):Jw (Jr W g):=by
 have wp:=iv.wp;have ha:=wp.a;have g1:=h.g1;have g8:=h.g8 ha;have dD:=ha.gl;have hpu:∀{k:Int},Q7 W.IC k=true->k≠0->Q7 W.IC (gi W.IC k).parent=true:=λhu hz=>(Yf ha.tree hu hz).1
 have hA:WA (Jr W g):=by
  refine⟨ha.n1,ha.n2,ha.c1,ha.c2,ha.t,zy7 ha h,ha.ups,λk k0 k1=>?_⟩;unfold Kz;rw[E4 ha h k0];split
  ·exact⟨λ_=>⟨rfl,rfl,rfl,rfl,rfl,rfl,rfl,rfl,show OY ⟨0,0,0,[],[]⟩=true by decide⟩,λhh=>by cases hh⟩
  ·have:=ha.grp k k0 k1;exact⟨this.1,λhu=>by have:=this.2 hu; exact⟨this.w1,this.w2,this.m,this.m0,this.s,this.len,this.root,this.none,this.IS⟩⟩
 refine⟨⟨hA,λt t0 t1=>?_,λk c k0 k1 c0 c1=>?_,λc c0 c1=>?_⟩,λk c hu c0 c1 hb=>?_⟩
 ·rcases wp.t t t0 t1 with hz | ⟨n,hx⟩
  ·exact .inl hz
  ·have hn:=h.nt t t0 t1 n;refine .inr ⟨n,hx.st,(zbo ha h).2 ⟨hx.g,hn⟩,hx.n,hx.m,hx.m0,hx.v,hx.s,hx.u,hx.l1,hx.l2,?_,λhs=>?_⟩
   ·rw[show (Q6 (Jr W g) t)=Q6 W t from rfl,z3f ha h hx.g hn]; exact hx.c
   ·rw[show (Q6 (Jr W g) t)=Q6 W t from rfl,LH ha h hx.g hn]; exact hx.f hs
 ·by_cases e:g=k
  ·subst e;rw[E4 ha h k0,C' rfl] at c1;have c1:c<(0:Int):=c1;omega
  ·have hg:gi (Jr W g).IC k=gi W.IC k:=by rw[E4 ha h k0,B' e]
   have e2:k≠g:=λh=>e h.symm
   rw[hg] at c1
   have hu:Q7 W.IC k=true:=by
    cases hh:(gi W.IC k).used with
    | true=>exact Q4.2 ⟨k0,Qo,hh⟩
    | false=>
     have:=((ha.grp k k0 k1).1 hh).l;omega
   have cl:c<(W.ID.length:Int):=by rw[<-ha.sl hu]; exact c1
   have hs:=wp.s k c k0 k1 c0 c1;have es:=LH ha h (c:=c) hu e2;refine⟨by rw[es]; exact hs.f,by rw[es]; exact hs.v,by rw[es]; exact hs.s,by rw[es]; exact hs.w1,by rw[es]; exact hs.w2,λhz=>by rw[es]; exact hs.root hz,λhz=>?_,λhz ho=>?_⟩
   ·rw[es,z1q wp h c0 cl,show UD (Jr W g) k c=UD W k c by unfold UD; rw[hg]];exact hs.on hz
   ·rw[es] at ho;rw[es,hg,LH ha h (hpu hu hz) (zc9 ha h hu hz)];exact hs.st hz ho
 ·have hc:=wp.c c c0 c1;refine⟨hc.b,hc.i,hc.c1,hc.c2,hc.no,λh0=>?_⟩;have h0:0<=(gi W.ID c).cur:=h0;obtain⟨y1,y2,y3,y4,y5,y6⟩:=hc.yes h0;have hl:=ha.t;have hc2:=hc.c2
  have kF:Q7 W.IC (Q6 W (gi W.ID c).cur).group=true/\(Q6 W (gi W.ID c).cur).group≠g:=by
   rcases wp.t _ h0 Qo with hz | ⟨n,hx⟩
   ·unfold ZL at y5;rw[hz.1] at y5;simp at y5
   ·exact⟨hx.g,h.nt _ h0 Qo n⟩
  obtain⟨kF,hgn⟩:=kF;have hpt:Zd (Jr W g).IC (Q6 W (gi W.ID c).cur).group=Zd W.IC (Q6 W (gi W.ID c).cur).group:=zla ha h 3 _ kF hgn;refine⟨y1,y2,y3,y4,?_,?_⟩
  ·unfold ZL VC at y5 ⊢;rw[show (gi (Jr W g).ID c).cur=(gi W.ID c).cur from rfl,show Q6 (Jr W g) (gi W.ID c).cur=Q6 W (gi W.ID c).cur from rfl,hpt];rw[A',List.all_eq_true] at y5 ⊢;exact⟨y5.1,λx hx=>by rw[LH ha h (X1 ha.tree _ kF x hx).1 (zpy ha h _ kF hgn x hx)]; exact y5.2 x hx⟩
  ·unfold Kc Ov at y6 ⊢;rw[show (gi (Jr W g).ID c).cur=(gi W.ID c).cur from rfl,show (gi (Jr W g).ID c).WV=(gi W.ID c).WV from rfl,show Q6 (Jr W g) (gi W.ID c).cur=Q6 W (gi W.ID c).cur from rfl,hpt,LH ha h kF hgn];rw[A',List.all_eq_true] at y6 ⊢;refine⟨y6.1,λx hx=>?_⟩;obtain⟨xu,xz⟩:=X1 ha.tree _ kF x hx;have xg:=zpy ha h _ kF hgn x hx;rw[LH ha h xu xg,EH ha h xu xg,LH ha h (hpu xu xz) (zc9 ha h xu xz)];exact y6.2 x hx
 ·have cl:c<(W.ID.length:Int):=c1;obtain⟨hk,hkg⟩:=(zbo ha h).1 hu
  have Aa7:∀j,j<20->Zr (Jr W g) k c j=Zr W k c j:=λj hj=>by
   by_cases vT:j<12
   ·rw[Vs vT,Vs vT]; rfl
   ·rw[show j=12+(j-12) by omega,Uo,Uo,zrw wp h c0 cl (j-12)]
  have hv:∀j,j<20->Zr (Jr W g) k c j=true->Zl (Jr W g) c j=Zl W c j:=λj hj hm=>by
   unfold Zl;split
   ·rfl
   ·rename_i vT;have hm2:=hm;rw[show j=12+(j-12) by omega,Uo] at hm2;unfold Jy at hm2;simp only[A'] at hm2
    have fI:((j-12:Nat):Int)≠g:=λe=>by
     have hu2:=hm2.1.2.1;rw[E4 ha h Qo,C' e.symm] at hu2;cases hu2
    rw[Aa7 j hj,show j=12+(j-12) by omega,Uo] at hm;unfold Jy at hm;simp only[A'] at hm;rw[LH ha h (Q4.2 ⟨Qo,Qo,hm.1.2.1⟩) fI]
  have e:Z0 (Zr (Jr W g) k c) (Zl (Jr W g) c) 20=Z0 (Zr W k c) (Zl W c) 20:=Kr Aa7 hv;have oF:=iv.fl k c hk c0 cl (by unfold Zy at hb ⊢; rwa[e] at hb);rw[LH ha h hk hkg];refine Int.le_trans (Int.le_of_eq ?_) oF;unfold Zy at hb;have hb:=Ot hb;rw[e] at hb;unfold Z6;rw[e,B' Qo,B' Qo];rcases Zv (Zr W k c) (Zl W c) 20 with ⟨q,_⟩ | ⟨_,q2,q3,_⟩
  ·omega
  ·have IT:(Z0 (Zr W k c) (Zl W c) 20).toNat<20:=Qo;exact hv _ IT (by rw[Aa7 _ IT]; exact q3)
def zvb(W:Q8)(g:Int):Prop:=(∃h:Int,1<=h/\h<8/\(gi W.IC h).used=true/\(gi W.IC h).parent=g)\/∃t:Int,0<=t/\t<12/\(Q6 W t).state≠0/\(Q6 W t).group=g
noncomputable def NK(W:Q8)(g:Int):Int:=if g=0 then 1 else if Q7 W.IC g=false then 2 else if Ul (zvb W g)=true then 4 else if QK W=false then 10 else 0
theorem zv3{W:Q8}{g:Int}(hb:NK W g=0):ziy W g/\QK W=true:=by
 unfold NK at hb
 split at hb
 ·cases hb
 rename_i h1
 split at hb
 ·cases hb
 rename_i h2
 split at hb
 ·cases hb
 rename_i h3
 split at hb
 ·cases hb
 rename_i h4;have h3:¬zvb W g:=λh=>h3 (Qm.2 h)
 have hu:Q7 W.IC g=true:=by simpa using h2
 have:=(Q4.1 hu).1;exact⟨⟨Qo,hu,λh a b c d=>h3 (.inl ⟨h,a,b,c,d⟩),λt a b c d=>h3 (.inr ⟨t,a,b,c,d⟩)⟩,by simpa using h4⟩
end
end Go.Proofs.YtnclplgaicdapaaGreatDoor
