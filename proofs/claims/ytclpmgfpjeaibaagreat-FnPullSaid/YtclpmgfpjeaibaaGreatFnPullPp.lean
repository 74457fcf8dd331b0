/- Part 16 of what the law FnPull needs: the engine, the functions' propositions, the contracts. -/
import Derived.Test.YtclpmgfpjeaibaaGreatFnPullPo
namespace Go.Proofs.YtclpmgfpjeaibaaGreat
open Go.RowKit
set_option linter.unusedVariables false
set_option linter.unusedSimpArgs false
set_option maxRecDepth 10000
set_option maxHeartbeats 8000000
theorem zn1{W:Q8}(p:Tb W):∀k:Nat,k<=12->Tb (U0 W k)/\Te W (U0 W k)/\(∀t:Int,0<=t->t<(k:Int)->(Q7 (U0 W k) t).state≠0->QP (Qp (U0 W k) (Q7 (U0 W k) t).group (Q7 (U0 W k) t).mask) (Q7 (U0 W k) t).cpu=true)
 | 0,_=>⟨p,Te.refl _,fun t a b=>by omega⟩
 | k+1,hk=>by
  obtain⟨a,b,d⟩:=zn1 p k (by omega);simp only[U0];generalize U0 W k=V at a b d;have hl:=a.a.t;split
  ·rename_i hm;unfold LE at hm;simp only[Bool.and_eq_true,bne_iff_ne,ne_eq] at hm;have h:=O0 a (t:=(k:Int)) (by omega) (by omega) hm.1;have hf:=Gv a.a (Q7 V (k:Int)).group (Q7 V (k:Int)).mask;have hw:=G5 a.a (Q7 V (k:Int)).group (Q7 V (k:Int)).mask;refine⟨zba a (by omega) (by omega) hm.1 h.g hf.1 hf.2,b.trans (AG _ _ _ _),fun t t0 t1 n=>?_⟩;rw[(AG V _ _ _).wh];rw[zl0 hl (by omega) (by omega) t0] at n ⊢
   split at n
   ·rename_i he;rw[if_pos he];exact Ei hw.1 hw.2
   ·rename_i he;rw[if_neg he];exact d t t0 (by omega) n
  ·rename_i hm;refine⟨a,b,fun t t0 t1 n=>?_⟩
   by_cases he:t=(k:Int)
   ·subst he;have hm:LE V (k:Int)=false:=by simpa using hm
    unfold LE at hm;rw[show ((Q7 V (k:Int)).state != 0)=true by simpa using n,Bool.true_and] at hm
    simpa using hm
   ·exact d t t0 (by omega) n
theorem AF{W:Q8}(sf:SF Qq (Qq+Ql) W)(p:Tb W):J5 (Qg (GT W)):=by
 obtain⟨a,b,d⟩:=zn1 p 12 (Nat.le_refl _);exact Zk (Gl sf (Int.le_refl _)).1.w (by simp only[Ql]; decide) (by simp only[Ql,Vm]; decide) a d
theorem znf{W:Q8}{t x:Int}(hW:Qv W=true)(hb:Ex W t x=0):J5 (zu8 W t x):=by
 have wp:=Qh.1 hW;obtain⟨h1,_,sf⟩:=zsg hW hb;obtain⟨t0,t1,tn⟩:=Yc h1;have hl:=wp.a.t;have p:=Xk wp;have h:=O0 p t0 (by omega) tn
 have hx:P0 x=true/\x≠0:=by
  unfold Ex at hb
  split at hb
  ·cases hb
  ·rename_i hn;exact⟨by cases hm:P0 x with | true=>rfl | false=>exact absurd (.inl hm) hn,fun e=>hn (.inr e)⟩
 refine AF sf (p.setTk t0 (by omega) (.inr ⟨tn,⟨h.st,h.g,h.n,hx.1,hx.2,h.s,h.u,h.l1,h.l2,h.f⟩,p.l t t0 (by omega) tn⟩) fun c c0 c1 hcur h1 h2=>?_);have hc:=(p.c c c0 c1).q (by rw[hcur]; omega);rw[hcur] at hc;exact hc h1 h2
theorem zuc{W:Q8}{g x:Int}(hW:Qv W=true)(hb:zla W g x=0):J5 (zt6 W g x):=by
 have wp:=Qh.1 hW;obtain⟨hu,_,_,sf,hT⟩:=zrc hW hb;exact AF sf ((Xk wp).same sf.w.a rfl rfl hT (zma rfl))
theorem Dj.gr{W W':Q8}{x:Mw}(h:Dj W x)(e:W'.groups=W.groups):Dj W' x:=
 ⟨h.st,by rw[e]; exact h.g,h.n,h.m,h.m0,h.s,h.u,h.l1,h.l2,fun hs=>by unfold Qb; rw[e]; exact h.f hs⟩
theorem zws{W:Q8}{c:Int}(hW:Qv W=true)(hb:VH W c false 0=0):J5 (zyx W c):=by
 have wp:=Qh.1 hW;obtain⟨c0,c1,_,sf⟩:=zv4 hW hb;have p:=Xk wp;refine AF sf ⟨⟨sf.w.a,fun t t0 t1=>(p.t t t0 t1).imp id fun h=>⟨h.1,h.2.gr rfl⟩,fun t t0 t1 n=>?_,fun k d hk d0 d1=>?_⟩,fun d d0 d1=>?_⟩
 ·have:=p.l t t0 t1 n;show _/\_<(((W.cpus.set c.toNat _).length:Nat):Int);rw[List.length_set]; exact this
 ·have d1:d<(((W.cpus.set c.toNat (KC (gi W.cpus c) true)).length:Nat):Int):=d1;rw[List.length_set] at d1;exact(p.s k d hk d0 d1).cong rfl fun _=>rfl
 ·have d1:d<(((W.cpus.set c.toNat (KC (gi W.cpus c) true)).length:Nat):Int):=d1;rw[List.length_set] at d1;have h:=p.c d d0 d1;have e:gi (setCp W c (KC (gi W.cpus c) true)).cpus d=if c=d then KC (gi W.cpus c) true else gi W.cpus d:=QA _ _ c0 c1 d0
  have eb:(gi (setCp W c (KC (gi W.cpus c) true)).cpus d).cur=(gi W.cpus d).cur/\(gi (setCp W c (KC (gi W.cpus c) true)).cpus d).ran=(gi W.cpus d).ran/\(gi (setCp W c (KC (gi W.cpus c) true)).cpus d).busy=(gi W.cpus d).busy/\(gi (setCp W c (KC (gi W.cpus c) true)).cpus d).idle=(gi W.cpus d).idle/\((gi W.cpus d).up=true->(gi (setCp W c (KC (gi W.cpus c) true)).cpus d).up=true):=by
   rw[e];split
   ·rename_i he; subst he; exact⟨rfl,rfl,rfl,rfl,fun _=>rfl⟩
   ·exact⟨rfl,rfl,rfl,rfl,id⟩
  obtain⟨e1,e2,e3,e4,e5⟩:=eb;refine⟨by rw[e3]; exact h.b,by rw[e4]; exact h.i,by rw[e1]; exact h.c1,by rw[e1]; exact h.c2,by rw[e1,e2]; exact h.no,fun h0=>?_,?_⟩
  ·rw[e1] at h0;have:=h.yes h0;exact⟨e5 this.1,by rw[e2]; exact this.2⟩
  ·rw[e1,e2]; exact h.q
theorem zug{W:Q8}{c:Int}(hW:Qv W=true)(hb:VH W c true (GN W)=0):J5 (zu1 W c):=by
 have wp:=Qh.1 hW;obtain⟨c0,c1,_,sf⟩:=zr7 hW hb;have p:=Xk wp;have hl:(setCp W c (KC (gi W.cpus c) false)).cpus.length=W.cpus.length:=List.length_set;have sfE:=sf.endW c0 (by rw[hl]; exact c1)
 have hcs:endW (setCp W c (KC (gi W.cpus c) false)) c=setCp W c (XK (KC (gi W.cpus c) false)):=by
  have e:gi (setCp W c (KC (gi W.cpus c) false)).cpus c=KC (gi W.cpus c) false:=(QA _ _ c0 c1 c0).trans (if_pos rfl);unfold endW;rw[e];simp[setCp,List.set_set]
 show J5 (Qg (GT (endW (setCp W c (KC (gi W.cpus c) false)) c)));rw[hcs] at sfE ⊢;refine AF sfE ⟨⟨sfE.w.a,fun t t0 t1=>(p.t t t0 t1).imp id fun h=>⟨h.1,h.2.gr rfl⟩,fun t t0 t1 n=>?_,fun k d hk d0 d1=>?_⟩,fun d d0 d1=>?_⟩
 ·have:=p.l t t0 t1 n;show _/\_<(((W.cpus.set c.toNat _).length:Nat):Int);rw[List.length_set]; exact this
 ·have d1:d<(((W.cpus.set c.toNat (XK (KC (gi W.cpus c) false))).length:Nat):Int):=d1;rw[List.length_set] at d1;exact(p.s k d hk d0 d1).cong rfl fun _=>rfl
 ·have d1:d<(((W.cpus.set c.toNat (XK (KC (gi W.cpus c) false))).length:Nat):Int):=d1;rw[List.length_set] at d1;have h:=p.c d d0 d1;have e:gi (setCp W c (XK (KC (gi W.cpus c) false))).cpus d=if c=d then XK (KC (gi W.cpus c) false) else gi W.cpus d:=QA _ _ c0 c1 d0
  by_cases he:c=d
  ·subst he;have e:=e.trans (if_pos rfl);refine⟨by rw[e]; exact h.b,by rw[e]; exact h.i,by rw[e]; show (-1:Int)<=-1; decide,by rw[e]; show (-1:Int)<12; decide,fun _=>by rw[e]; rfl,fun h0=>?_,fun h0=>?_⟩
   ·rw[e] at h0;have h0:(0:Int)<=-1:=h0;omega
   ·rw[e] at h0;have h0:(0:Int)<=-1:=h0;omega
  ·have e:=e.trans (if_neg he);exact⟨by rw[e]; exact h.b,by rw[e]; exact h.i,by rw[e]; exact h.c1,by rw[e]; exact h.c2,by rw[e]; exact h.no,by rw[e]; exact h.yes,by rw[e]; exact h.q⟩
def zbw(W:Q8)(g c x:Int):KE:={ Qb W g c with v:=if (Qb W g c).on=true then (Qb W (gi W.groups g).parent c).floor+Xh ((Qb W g c).v-(Qb W (gi W.groups g).parent c).floor) x else (Qb W g c).v,w:=x }
def zic(W:Q8)(g c:Int):Bool:=decide ((gi W.cpus c).cur>=0)&&Tj 3 W.groups g (Q7 W (gi W.cpus c).cur).group
def JK(W:Q8)(g c x:Int):Q8:=setSh W g c (zbw W g c x)
def Kn(W:Q8)(g c x:Int):Q8:=if (Qb W g c).w=x then W else if zic (JK W g c x) g c=true then endW (JK W g c x) c else JK W g c x
def Hn(W:Q8):Prop:=∀c:Int,0<=c->c<(W.cpus.length:Int)->(gi W.cpus c).cur>=0->Q6 W.groups (Q7 W (gi W.cpus c).cur).group=true
theorem zm1{W:Q8}(wp:YW W):Hn W:=fun c c0 c1 h=>by
 have hc:=wp.c c c0 c1;have hy:=hc.yes h;have hl:=hy.2.2.2.2.1;have c2:=hc.c2;have ht:=wp.a.t;unfold Z9 at hl;simp only[Bool.and_eq_true,beq_iff_eq] at hl;rcases wp.t (gi W.cpus c).cur h (by omega) with h1 | h1
 ·rw[h1.1] at hl; exact absurd hl.1 (by decide)
 ·exact h1.2.g
theorem Hn.setSh{W:Q8}(h:Hn W){g c:Int}{s:KE}(u0:0<=g)(u1:g<(W.groups.length:Int)):Hn (setSh W g c s):=fun d d0 d1 hc=>by
 rw[(XI u0 u1).usd];exact h d d0 d1 hc
theorem Hn.endW{W:Q8}(h:Hn W){c:Int}(c0:0<=c)(c1:c<(W.cpus.length:Int)):Hn (endW W c):=fun d d0 d1 hc=>by
 have d1:d<(((W.cpus.set c.toNat (XK (gi W.cpus c))).length:Nat):Int):=d1;rw[List.length_set] at d1;have hg:gi (YtclpmgfpjeaibaaGreat.endW W c).cpus d=if c=d then XK (gi W.cpus c) else gi W.cpus d:=QA _ _ c0 c1 d0;rw[hg] at hc ⊢
 split at hc
 ·exact absurd hc (by show ¬(-1:Int)>=0; decide)
 ·rename_i hn;rw[if_neg hn];exact h d d0 d1 hc
theorem zvo{F K:Int}{W:Q8}(h:SF F K W)(hk:F+Ql<=K){g c x:Int}(hu:Q6 W.groups g=true)(hz:g≠0)(c0:0<=c)(c1:c<(W.cpus.length:Int))(x1:1<=x)(x2:x<=20):SF F K (JK W g c x):=by
 have hp:=h.w.a.up hu hz;have s1:=h.w.s g c hu c0 c1;have s2:=h.w.s _ c hp c0 c1;have f1:=h.f g c hu c0 c1;have f2:=h.f _ c hp c0 c1;have lc:=ZW ((Qb W g c).v-(Qb W (gi W.groups g).parent c).floor) x;have lm:=ZT x;refine h.setSh hu c0 c1 s1.1 f1 (by show (Qb W g c).floor<=K; omega) ?_ ?_ x1 x2
 ·simp only[zbw]; split <;> omega
 ·simp only[zbw]; simp only[Ql] at hk; split <;> omega
theorem zoi{F K:Int}{W:Q8}(h:SF F K W)(hk:F+Ql<=K)(hc:Hn W){g c x:Int}(hu:Q6 W.groups g=true)(hz:g≠0)(c0:0<=c)(c1:c<(W.cpus.length:Int))(x1:1<=x)(x2:x<=20):SF F K (Kn W g c x)/\Fr W (Kn W g c x)/\Hn (Kn W g c x):=by
 obtain⟨u0,u1,_⟩:=Q5.1 hu;have hv:=zvo h hk hu hz c0 c1 x1 x2;have hf:Fr W (JK W g c x):=(MT u0 u1).fr;have hc2:Hn (JK W g c x):=hc.setSh u0 u1;unfold Kn;split
 ·exact⟨h,Fr.refl _,hc⟩
 ·split
  ·exact⟨hv.endW c0 c1,hf.trans (CT _ _),hc2.endW c0 c1⟩
  ·exact⟨hv,hf,hc2⟩
def G4(W:Q8)(g x:Int):Nat->Q8
 | 0=>W
 | c+1=>Kn (G4 W g x c) g (c:Int) x
theorem zid{F K:Int}{W:Q8}(h:SF F K W)(hk:F+Ql<=K)(hc:Hn W){g x:Int}(hu:Q6 W.groups g=true)(hz:g≠0)(x1:1<=x)(x2:x<=20):∀c:Nat,c<=W.cpus.length->SF F K (G4 W g x c)/\Fr W (G4 W g x c)/\Hn (G4 W g x c)
 | 0,_=>⟨h,Fr.refl _,hc⟩
 | c+1,hn=>by
  obtain⟨a,b,d⟩:=zid h hk hc hu hz x1 x2 c (by omega);obtain⟨a2,b2,d2⟩:=zoi a hk d (g:=g) (c:=(c:Int)) (x:=x) (by rw[b.g.usd]; exact hu) hz (by omega) (by rw[b.c]; omega) x1 x2;exact⟨a2,b.trans b2,d2⟩
def K2(W:Q8)(g x:Int):ZF:={ gi W.groups g with weight:=x }
noncomputable def zmm(W:Q8)(g x:Int):Int:=Mk W g (Yh x 1 20)
def zvp(W:Q8)(g x:Int):Q8:=Qg (G4 (setGr W g (K2 W g x)) g x W.cpus.length)
theorem zs9{W:Q8}{g x:Int}(hW:Qv W=true)(hb:zmm W g x=0):Yh x 1 20=true/\g≠0/\Q6 W.groups g=true/\QG W=true/\SF Qq (Qq+Ql) W/\SF Qq (Qq+Ql) (setGr W g (K2 W g x))/\Hn (setGr W g (K2 W g x))/\QR W.groups (setGr W g (K2 W g x)).groups:=by
 obtain⟨h1,h2,h3,h4⟩:=zg1 hb;have wp:=Qh.1 hW;have sw:=PK wp (Qh.1 h4);obtain⟨u0,u1,hg⟩:=wp.a.u h3;have hx:=Qm.1 h1;have hl:=wp.a.gl;have s1:=sw.setGr (x:=K2 W g x) h3 rfl rfl rfl rfl ⟨hx.1,hx.2,hg.m,hg.m0,hg.s,hg.len,fun h=>absurd h h2,hg.none,hg.band⟩;have hT:QR W.groups (setGr W g (K2 W g x)).groups:=Jw u0 (by omega) rfl rfl rfl;refine⟨h1,h2,h3,h4,sw.sf.mono (Int.le_refl _) (by simp only[Ql]; decide),s1.sf.mono (Int.le_refl _) (by simp only[Ql]; decide),fun d d0 d1 hc=>?_,hT⟩;rw[hT.usd];exact zm1 wp d d0 d1 hc
theorem zs6{gs:List ZF}(ht:ZX gs){g h:Int}(u1:Q6 gs g=true)(u2:Q6 gs h=true):OI gs g h=Tj 3 gs g h:=by
 unfold OI;rw[u1,u2,show M8 gs=true from @decide_eq_true _ (Classical.propDecidable _) ht];rfl
section
variable {base:Nat}{W W':Q8}{m:MW}{w:Wo}{bar:Int}
theorem MN{F K:Int}(h:Yu 8 base w W m)(hsw:SF F K W)(hk:F+Ql<=K)(hK:K<=1000000000000000000)(hcu:Hn W){g c x:Int}(hu:Q6 W.groups g=true)(hz:g≠0)(c0:0<=c)(c1:c<(W.cpus.length:Int)) :
  Cz JC #[.agg (Qa W m).toArray,.int .i64 g,.int .i64 c,.int .i64 x] w fun e w'=>e=.returned (.agg (Qa W m).toArray)/\Mv 8 base [] w m w' (Kn W g c x) m:=by
 refine(Fs W.now m.cO W.cpus.length m.cC m.tO W.tasks.length m.tC m.gO W.groups.length m.gC g c x (R:=fun v w'=>v=.agg (Qa W m).toArray/\Mv 8 base [] w m w' (Kn W g c x) m) ?_).mono fun e w' ⟨v,he,hv,h3⟩=>⟨by rw[he,hv],h3⟩
 intro y hy y1 hy1;obtain⟨u0,u1,_⟩:=Q5.1 hu;have hgl:=hsw.w.a.gl;have htl:=hsw.w.a.t;have hsl:=hsw.w.a.sl hu;have hp:=hsw.w.a.up hu hz;obtain⟨p0,p1,_⟩:=Q5.1 hp;have hpl:=hsw.w.a.sl hp;have s1:=hsw.w.s g c hu c0 c1;have s2:=hsw.w.s _ c hp c0 c1;have lc:=ZW ((Qb W g c).v-(Qb W (gi W.groups g).parent c).floor) x;have lm:=ZT x;have hM:=Mv.two h hy hy1;have hr:=(Mv.start h).rd;have hix:=hr.g.ix (i:=g) u0 u1;have hixS:=(hr.g.shelves g u0 u1).ix ZQ c0 (by omega);have hcx:=hr.c.ix ZH c0 c1;have hwr:=zv7 h (by simp) (i:=g) (bs:=[]) u0 (by omega) c0 (by omega) (j:=0) (k:=5) (by decide);have hcr:=hsw.w.cu c c0 c1;have cur1:decide ((gi W.cpus c).cur>=0)=true->(gi W.cpus c).cur<(W.tasks.length:Int):=fun _=>by omega
 have hT:QR W.groups (JK W g c x).groups:=XI u0 u1
 have hE:(decide ((gi W.cpus c).cur>=0)&&OI (JK W g c x).groups g (gi W.tasks (gi W.cpus c).cur).group)=zic (JK W g c x) g c:=by
  unfold zic;show _=(decide ((gi W.cpus c).cur>=0)&&Tj 3 (JK W g c x).groups g (Q7 W (gi W.cpus c).cur).group)
  by_cases hc:(gi W.cpus c).cur>=0
  ·rw[zs6 (hT.tree hsw.w.a.tree) (by rw[hT.usd]; exact hu) (by rw[hT.usd]; exact hcu c c0 c1 hc)]; rfl
  ·rw[decide_eq_false hc]; rfl
 have hlen:(JK W g c x).groups.length=W.groups.length:=hT.len;have hfr:Fr W (JK W g c x):=(MT u0 u1).fr;have eW:Qa (JK W g c x) m=Qa W m:=OU hfr;have eE:Qa (endW (JK W g c x) c) m=Qa W m:=OU (hfr.trans (CT _ _));refine⟨hix,_,_,_,hr.g.shelf u0 u1,hixS,_,_,_,_,_,(hr.g.shelves g u0 u1) c c0 (by omega),fun b2 hb2=>⟨fun g1 wr hx=>⟨rfl,?_⟩,fun g1=>⟨fun g2=>?_,fun g2=>?_⟩⟩⟩
 ·have g1:(Qb W g c).w=x:=eq_of_beq g1;unfold Kn;rw[if_pos g1];exact(Mv.start h).call0 hx
 ·have hss:zbw W g c x=⟨(Qb W g c).floor,(Qb W g c).on,(Qb W (gi W.groups g).parent c).floor+Xh ((Qb W g c).v-(Qb W (gi W.groups g).parent c).floor) x,x,(Qb W g c).sum⟩:=by
   unfold zbw;rw[if_pos (show (Qb W g c).on=true from g2)]
  have hset:=zae hsw h hk hu rfl c0 c1 (zbw W g c x);rw[hss] at hset;have hM2:=((hM.add hb2).deed hset (Ao (by omega)));have hV:setSh W g c ⟨(Qb W g c).floor,(Qb W g c).on,(Qb W (gi W.groups g).parent c).floor+Xh ((Qb W g c).v-(Qb W (gi W.groups g).parent c).floor) x,x,(Qb W g c).sum⟩=JK W g c x:=by unfold JK; rw[hss]
  rw[hV] at hM2;have hr2:=hM2.rd;have hM2':=hM2.close;have hr0:=hM2'.rd;refine⟨hix,_,hr.g.parent u0 u1,hr.g.ix p0 p1,_,_,_,hr.g.shelf p0 p1,(hr.g.shelves _ p0 p1).ix ZQ c0 (by omega),_,zkn.f (hr.g.shelves _ p0 p1) c0 (by omega) (j:=0) rfl,⟨by show _<=(Qb W g c).v-(Qb W (gi W.groups g).parent c).floor; omega,by show (Qb W g c).v-(Qb W (gi W.groups g).parent c).floor<=_; omega⟩,_,Mq,⟨by show _<=(Qb W (gi W.groups g).parent c).floor+Xh ((Qb W g c).v-(Qb W (gi W.groups g).parent c).floor) x; omega,by show (Qb W (gi W.groups g).parent c).floor+Xh ((Qb W g c).v-(Qb W (gi W.groups g).parent c).floor) x<=_; omega⟩,hix,_,_,_,hr.g.shelf u0 u1,hixS,hwr,hcx,(gi W.cpus c).cur,?_⟩;refine⟨zx3.f hr0.c c0 c1 (j:=1) rfl,fun gc=>hr0.t.ix Qy (Ot gc) (cur1 gc),_,fun gc=>ztd.f hr0.t (Ot gc) (cur1 gc) (j:=1) rfl,_,fun gc=>by rw[<-hlen]; exact TJ hr0.g (by have:=Zl; omega),fun gc wr1 hx3 hs3=>?_,fun gc wr3 hx3=>?_⟩
  ·have he:zic (JK W g c x) g c=true:=by rw[<-hE]; exact gc
   have hM3:=hM2.step (hx3.of_nil);have hcall:=Zn hM3.own c0 c1;rw[eW,eE] at hcall;refine Calls.mono hcall ?_;rintro e wv ⟨he1,hy2⟩;refine⟨_,_,_,_,_,_,_,_,_,_,he1,hM3.kept hy2 hs3,fun wr2 hx4=>⟨rfl,?_⟩⟩;unfold Kn;rw[if_neg (show ¬(Qb W g c).w=x from ne_of_beq_false g1),if_pos he];exact((hM3.call hy2 hs3).step hx4).close
  ·have he:zic (JK W g c x) g c=false:=by rw[<-hE]; exact gc
   refine⟨rfl,?_⟩;unfold Kn;rw[if_neg (show ¬(Qb W g c).w=x from ne_of_beq_false g1),if_neg (by rw[he]; decide)];exact(hM2.step hx3.of_nil).close
 ·have hss:zbw W g c x=⟨(Qb W g c).floor,(Qb W g c).on,(Qb W g c).v,x,(Qb W g c).sum⟩:=by
   unfold zbw;rw[if_neg (by rw[show (Qb W g c).on=false from g2]; decide)]
  have hset:=zae hsw h hk hu rfl c0 c1 (zbw W g c x);rw[hss] at hset;have hM2:=((hM.add hb2).deed hset (Ao (by omega)));have hV:setSh W g c ⟨(Qb W g c).floor,(Qb W g c).on,(Qb W g c).v,x,(Qb W g c).sum⟩=JK W g c x:=by unfold JK; rw[hss]
  rw[hV] at hM2;have hr2:=hM2.rd;have hM2':=hM2.close;have hr0:=hM2'.rd;refine⟨hix,_,_,_,hr.g.shelf u0 u1,hixS,hwr,hcx,(gi W.cpus c).cur,?_⟩;refine⟨zx3.f hr0.c c0 c1 (j:=1) rfl,fun gc=>hr0.t.ix Qy (Ot gc) (cur1 gc),_,fun gc=>ztd.f hr0.t (Ot gc) (cur1 gc) (j:=1) rfl,_,fun gc=>by rw[<-hlen]; exact TJ hr0.g (by have:=Zl; omega),fun gc wr1 hx3 hs3=>?_,fun gc wr3 hx3=>?_⟩
  ·have he:zic (JK W g c x) g c=true:=by rw[<-hE]; exact gc
   have hM3:=hM2.step (hx3.of_nil);have hcall:=Zn hM3.own c0 c1;rw[eW,eE] at hcall;refine Calls.mono hcall ?_;rintro e wv ⟨he1,hy2⟩;refine⟨_,_,_,_,_,_,_,_,_,_,he1,hM3.kept hy2 hs3,fun wr2 hx4=>⟨rfl,?_⟩⟩;unfold Kn;rw[if_neg (show ¬(Qb W g c).w=x from ne_of_beq_false g1),if_pos he];exact((hM3.call hy2 hs3).step hx4).close
  ·have he:zic (JK W g c x) g c=false:=by rw[<-hE]; exact gc
   refine⟨rfl,?_⟩;unfold Kn;rw[if_neg (show ¬(Qb W g c).w=x from ne_of_beq_false g1),if_neg (by rw[he]; decide)];exact(hM2.step hx3.of_nil).close
theorem Ea{g x:Int}(h:Xt [] w W m)(hl:X5 W) :
  Cz Vd #[.agg (Qa W m).toArray,.int .i64 g,.int .i64 x] w fun e w'=>∃v,e=.returned v/\QE (Xc W (zmm W g x) (zvp W g x)) w v w':=by
 refine DR W.now m.cO W.cpus.length m.cC m.tO W.tasks.length m.tC m.gO W.groups.length m.gC g x (R:=fun v w'=>QE (Xc W (zmm W g x) (zvp W g x)) w v w') ?_;intro y hy y1 hy1;refine⟨_,Jp,fun wr hx2 hs2=>?_⟩;refine Calls.mono (UV (g:=g) (ok:=Yh x 1 20) (h.ext hx2) hl) ?_;rintro e wv (⟨hW,he,hy2⟩ | ⟨hW,m',he,hM,hy2⟩)
 ·exact⟨_,_,_,_,_,_,_,_,_,_,_,he,Qe hy2 hs2,fun _ wr1 hx3=>QE.bad hW ((hx2.trans hy2).fresh hx3 fun z hm=>.inl (YC hy hy1 z hm)),fun g=>by simp at g⟩
 have hK:=Wk.begin hy hy1 hx2 hs2 hM hy2;refine⟨_,_,_,_,_,_,_,_,_,_,_,he,Qe hy2 hs2,fun g1 wr1 hx3=>QE.no hW (by simpa[zmm] using g1) (hK.step hx3) rfl,fun g1=>?_⟩;have hb:zmm W g x=0:=by simpa[zmm] using g1
 have hr:=hK.rd;obtain⟨hix1,hz,hu,hroom,_,sf,hcu,hT⟩:=zs9 hW hb;have hxr:=Qm.1 hix1;obtain⟨u0,u1,_⟩:=Q5.1 hu;have hgl:W.groups.length=8:=by have:=sf.w.a.gl; rwa[hT.len] at this
 have hix:=hr.g.ix (i:=g) u0 u1;have hset:Wk 8 [y,y1] w (sto wv m'.gO (Int.toNat g*14+3) [.int .i64 x]) (setGr W g (K2 W g x)) m':=hK.sto (hK.own.stoG0 u0 (by omega) (g:=K2 W g x) rfl rfl rfl (j:=3) (vs:=[.int .i64 x]) rfl (by simp)) Bu;have hwr:=zee hK.own hK.nb (i:=g) u0 (by omega) (j:=3) (k:=1) (by decide);have e0:Qa (setGr W g (K2 W g x)) m'=Qa W m':=by simp[Qa,setGr]
 have huV:Q6 (setGr W g (K2 W g x)).groups g=true:=by rw[hT.usd]; exact hu
 have hcl:(setGr W g (K2 W g x)).cpus.length=W.cpus.length:=rfl;have hE:zvp W g x=Qg (G4 (setGr W g (K2 W g x)) g x W.cpus.length):=rfl;rw[hE];have hc4:=sf.w.a.c2;generalize setGr W g (K2 W g x)=V at hset sf hcu hT e0 huV hcl hc4;refine⟨hix,hwr,fun vs w1=>∃(k:Nat),vs=.int .i64 (k:Int)::Qa W m'/\k<=W.cpus.length/\Wk 8 [y,y1] w w1 (G4 V g x k) m',Zu W.cpus.length 0,fun w1 hx0 _=>⟨0,rfl,Nat.zero_le _,hset.step hx0⟩,?_⟩;rintro c1 l l1O l1L l1C l2O l2L l2C l3O l3L l3C wv2 hs3 ⟨k,he2,hk,hK2⟩;obtain⟨hS,hf,hc2⟩:=zid sf (Int.le_refl _) hcu huV hz hxr.1 hxr.2 k (by omega);have hdef:G4 V g x (k+1)=Kn (G4 V g x k) g (k:Int) x:=rfl;have hend:k=W.cpus.length->G4 V g x W.cpus.length=G4 V g x k:=fun e=>by rw[e]
 have eU:Qa (G4 V g x k) m'=Qa W m':=(OU hf).trans e0;have hcU:=hf.c;have huU:Q6 (G4 V g x k).groups g=true:=by rw[hf.g.usd]; exact huV
 simp only[Qa,List.cons.injEq,Value.int.injEq,Value.slice.injEq,true_and,and_true] at he2;obtain⟨rfl,rfl,⟨rfl,rfl,rfl⟩,⟨rfl,rfl,rfl⟩,rfl,rfl,rfl⟩:=he2;generalize G4 V g x k=U at hK2 hS hf hc2 hdef hend eU hcU huU;refine⟨fun hlt wr3 hx3 hs4=>?_,fun hge wr5 hx5 hs5=>?_⟩
 ·have hlt:=Ot hlt;have hK3:=hK2.step hx3;have hcall:=MN hK3.own hS (Int.le_refl _) (by simp only[Ql]; decide) hc2 (g:=g) (c:=(k:Int)) (x:=x) huU hz (by omega) (by omega);rw[eU] at hcall;refine Calls.mono hcall ?_;rintro e wv3 ⟨he3,hy3⟩;refine⟨_,_,_,_,_,_,_,_,_,_,he3,hK3.kept hy3 hs4,⟨by omega,by omega⟩,fun wr4 hx4 _=>⟨⟨k+1,rfl,by omega,?_⟩,?_⟩⟩
  ·rw[hdef];exact(hK3.deed hy3 hs4).step hx4
  ·simp only[Zu,Jh,ZZ,List.getElem?_cons_zero]; omega
 ·have hge:=Ou hge;rw[hend (by omega)];have hK5:=hK2.step hx5;have hcall:=Qr hK5.own hS.w (by simp only[Ql]; decide) (by simp only[Ql]; decide) hK5.base;rw[eU] at hcall;refine Calls.mono hcall ?_;rintro e2 wv2 ⟨m2,he2,hy2⟩;exact⟨_,_,_,_,_,_,_,_,_,_,he2,hK5.kept hy2 hs5,fun wr4 hx5=>QE.ok hW hb ((hK5.deed hy2 hs5).step hx5)⟩
section
variable {pb:Nat}
end
end
def zo1(W:Q8)(t b c:Int):Bool:=(UG W c==0)||decide (UG W c+Qc (Q7 W t).nice<=UG W b-Qc (Q7 W t).nice)
def KV(W:Q8)(b c:Int)(t:Nat):Bool:=(((Q7 W (t:Int)).cpu==b)&&ZP W (t:Int) c)&&zo1 W (t:Int) b c
def Jj(W:Q8)(b c:Int):Nat->Nat->Int
 | 0,_ => -1
 | f+1,j=>if KV W b c j=true then (j:Int) else Jj W b c f (j+1)
theorem zes{W:Q8}{b c:Int}{f j:Nat}(h:KV W b c j=true):Jj W b c (f+1) j=(j:Int):=if_pos h
theorem CM{W:Q8}{b c:Int}{f j:Nat}(h:KV W b c j=false):Jj W b c (f+1) j=Jj W b c f (j+1):=if_neg (by rw[h]; decide)
noncomputable def zb1(W:Q8)(c:Int):Nat->Nat->Int
 | 0,_ => -1
 | f+1,k=>if ZL W c (k:Int)<0 then zb1 W c f (k+1) else if Jj W (ZL W c (k:Int)) c 12 0<0 then zb1 W c f (k+1) else Jj W (ZL W c (k:Int)) c 12 0
noncomputable def Uo(W:Q8)(c:Int):Int:=zb1 W c (KO (W.cpus.length:Int)).toNat 0
theorem Ez{W:Q8}{c:Int}{f k:Nat}(h:ZL W c (k:Int)<0):zb1 W c (f+1) k=zb1 W c f (k+1):=if_pos h
theorem Ey{W:Q8}{c:Int}{f k:Nat}(h:Jj W (ZL W c (k:Int)) c 12 0<0):zb1 W c (f+1) k=zb1 W c f (k+1):=by
 simp only[zb1]
 by_cases h0:ZL W c (k:Int)<0
 ·rw[if_pos h0]
 ·rw[if_neg h0,if_pos h]
theorem EA{W:Q8}{c:Int}{f k:Nat}(h0:¬ZL W c (k:Int)<0)(h:¬Jj W (ZL W c (k:Int)) c 12 0<0):zb1 W c (f+1) k=Jj W (ZL W c (k:Int)) c 12 0:=by
 simp only[zb1];rw[if_neg h0,if_neg h]
noncomputable def Vu(W:Q8)(c:Int):Int:=if Qv W=true/\Yi W c=true/\(gi W.cpus c).up=true then Uo W c else -1
theorem TL{W:Q8}(wp:YW W)(c:Int):0<=UG W c/\UG W c<=240:=by
 have:=Vo (BN W c) W.tasks.length;have ht:=wp.a.t;unfold UG;omega
section
variable {W:Q8}{m:MW}{w:Wo}{bs:List Nat}{p:OA}
theorem zky{W:Q8}(wp:YW W){c lv:Int}(h:¬ZL W c lv<0):0<=ZL W c lv/\ZL W c lv<(W.cpus.length:Int):=by
 have:=P8 W c (Gp (W.cpus.length:Int) c lv) W.cpus.length;unfold ZL at h ⊢;omega
theorem BF.ext{P:Program}{gf:FuncId}{lb:Array Va}{N:Nat}{vals:Nat->List Va}{I:Nat->Wo->Prop}{w w':Wo}(h:BF P gf lb N vals I w)(hx:Q0 [] w w'):BF P gf lb N vals I w':=
 fun l J Jx W hW=>h l J Jx W (hx.trans hW)
theorem z9{t b c:Int}(h:Xt bs w W m)(wp:YW W)(t0:0<=t)(t1:t<(W.tasks.length:Int)):PX bs Oy #[.agg (Qa W m).toArray,.int .i64 t,.int .i64 b,.int .i64 c] w (.bool (zo1 W t b c)):=
 zay W.now m.cO W.cpus.length m.cC m.tO W.tasks.length m.tC m.gO W.groups.length m.gC t b c fun wr hx=>by
  have h:=(h.ext hx).less (cs:=[]) (by simp);have r1:=TL wp c;have r2:=TL wp b;have r3:0<=Qc (gi W.tasks t).nice/\Qc (gi W.tasks t).nice<=20:=Yf _;exact fun _ _=>⟨_,T1 h wp,h.t.ix Qy t0 t1,_,h.t.f t0 t1 (j:=3) rfl,_,Zh,fun _=>⟨by omega,by omega⟩,_,fun _=>T1 h wp,fun _=>⟨by omega,by omega⟩,rfl⟩
theorem Lv{c:Int}(h:Xt bs w W m)(wp:YW W)(c0:0<=c)(c1:c<(W.cpus.length:Int)):PX bs UP #[.agg (Qa W m).toArray,.int .i64 c] w (.int .i64 (Uo W c)):=
 za0 W.now m.cO W.cpus.length m.cC m.tO W.tasks.length m.tC m.gO W.groups.length m.gC c fun wr hx=>by
  have h:=(h.ext hx).less (cs:=[]) (by simp);have hlv:=zag (W.cpus.length:Int);have htl:=wp.a.t;intro _ _;refine Xi 2 0 rfl (fun k=>(k:Int)<=KO (W.cpus.length:Int)/\zb1 W c ((KO (W.cpus.length:Int)).toNat-k) k=Uo W c) ⟨hlv.1,rfl⟩ fun k ⟨hk,hI⟩=>⟨_,OS,fun hlt=>?_,fun hge=>?_⟩
  ·have hlt:=Ot hlt;have ek:(KO (W.cpus.length:Int)).toNat-k=((KO (W.cpus.length:Int)).toNat-(k+1))+1:=by omega
   rw[ek] at hI;have nxt:zb1 W c ((KO (W.cpus.length:Int)).toNat-(k+1)) (k+1)=Uo W c->((k+1:Nat):Int)<=KO (W.cpus.length:Int)/\zb1 W c ((KO (W.cpus.length:Int)).toNat-(k+1)) (k+1)=Uo W c:=fun hp=>⟨by omega,hp⟩
   refine⟨_,E8,_,Ec h wp c0 c1,fun g=>⟨⟨by omega,by omega⟩,Qs (by omega) (nxt ?_)⟩,fun g=>?_⟩
   ·rw[<-hI,Ez (show ZL W c (k:Int)<0 from Ot g)]
   ·have g:¬ZL W c (k:Int)<0:=Ou g;refine Xi 12 0 rfl (fun j=>j<=12/\Jj W (ZL W c (k:Int)) c (12-j) j=Jj W (ZL W c (k:Int)) c 12 0) ⟨Nat.zero_le _,rfl⟩ fun j ⟨hj,hF⟩=>⟨fun hlt2=>?_,fun hge2=>?_⟩
    ·have hlt2:=Ot hlt2;have hj12:j<12:=by omega
     rw[show 12-j=(12-(j+1))+1 by omega] at hF;refine⟨h.t.ix Qy (by omega) hlt2,_,h.t.f (by omega) hlt2 (j:=2) rfl,_,fun _=>Kx h wp (by omega) hlt2 c0 c1,_,fun _=>z9 h wp (by omega) hlt2,fun g2=>?_,fun g2=>⟨⟨by omega,by omega⟩,Qs hj12 ⟨by omega,?_⟩⟩⟩
     ·have g2:KV W (ZL W c (k:Int)) c j=true:=g2;rw[zes g2] at hF;rw[<-hI,EA g (by rw[<-hF]; omega),<-hF]
     ·have g2:KV W (ZL W c (k:Int)) c j=false:=g2;rw[<-hF,CM g2]
    ·have hge2:=Ou hge2;have:j=12:=by omega
     subst this;refine⟨⟨by omega,by omega⟩,Qs (by omega) (nxt ?_)⟩;rw[<-hI,Ey (by rw[<-hF]; show (-1:Int)<0; decide)]
  ·have hge:=Ou hge;have:(KO (W.cpus.length:Int)).toNat-k=0:=by omega
   rw[this] at hI;rw[<-hI]; rfl
theorem zly(W:Q8)(c:Int) : -1<=Uo W c:=by
 have hf:∀(b:Int) (f j:Nat),-1<=Jj W b c f j:=fun b f=>by
  induction f with
  | zero=>intro j; exact Int.le_refl _
  | succ f ih=>
   intro j;simp only[Jj];split
   ·omega
   ·exact ih _
 have hp:∀(f k:Nat),-1<=zb1 W c f k:=fun f=>by
  induction f with
  | zero=>intro k; exact Int.le_refl _
  | succ f ih=>
   intro k;simp only[zb1];split
   ·exact ih _
   ·split
    ·exact ih _
    ·exact hf _ _ _
 exact hp _ _
def zjw(x:Int):Va:=if x<0 then .tuple #[.int .i64 0,.bool false] else .tuple #[.int .i64 x,.bool true]
def EB(x:Int):Int:=if x<0 then 0 else x
theorem zjx(x:Int):zjw x=.tuple #[.int .i64 (EB x),.bool (!decide (x<0))]:=by
 unfold zjw EB
 by_cases h:x<0
 ·rw[if_pos h,if_pos h,decide_eq_true h]; rfl
 ·rw[if_neg h,if_neg h,decide_eq_false h]; rfl
theorem z8{c:Int}(h:Xt bs w W m)(hl:X5 W):PX bs Ox #[.agg (Qa W m).toArray,.int .i64 c] w (.tuple #[.int .i64 (EB (Vu W c)),.bool (!decide (Vu W c<0))]):=by
 rw[<-zjx];refine zat W.now m.cO W.cpus.length m.cC m.tO W.tasks.length m.tC m.gO W.groups.length m.gC c fun wr hx=>?_
 have h:=(h.ext hx).less (cs:=[]) (by simp);refine fun _ _=>⟨_,YJ h hl.c hl.t hl.g hl.f,_,fun _=>zjg h hl.c,fun q=>?_,fun q=>?_⟩
 ·have:Vu W c = -1:=by
   unfold Vu;rw[if_neg];rintro⟨h1,h2,h3⟩;rw[h1,h2,h3] at q; cases q
  rw[this]; rfl
 ·simp only[Bool.or_eq_false_iff,Bool.not_eq_false',Bool.and_eq_true] at q;obtain⟨q1,q2,q3⟩:=q;have wp:=Qh.1 q1;have hc:=Qm.1 (show Yh c 0 ((W.cpus.length:Int)-1)=true from q2);have e:Vu W c=Uo W c:=by unfold Vu; rw[if_pos ⟨q1,q2,q3⟩]
  rw[e];refine⟨_,Lv h wp hc.1 (by omega),fun g=>?_,fun g=>?_⟩
  ·unfold zjw; rw[if_pos (Ot g)]
  ·unfold zjw; rw[if_neg (Ou g)]
theorem zjc{b:Nat}{c a a':Int}(h:TW bs w p W m)(wp:YW W)(hbx:Q2 bs w (some ⟨b,0,none⟩) 0 [.pointer p,.int .i64 c])(h0:0<=a)(h1:a<(W.cpus.length:Int))(h0':0<=a')(h1':a'<(W.cpus.length:Int)):PX bs Y7 #[.int .i64 a,.int .i64 a',.pointer (some ⟨b,0,none⟩)] w (.bool (ztg W a a')):=
 KT a a' (some ⟨b,0,none⟩) fun wr hx=>by
  have h:=(h.ext hx).less (cs:=[]) (by simp);have hb:=(hbx.ext hx).less (cs:=[]) (by simp);exact⟨rfl,p,hb.get 0 _ rfl,p,a,XD,_,Oe h wp h0 h1,rfl,p,hb.get 0 _ rfl,p,a',XD,_,Oe h wp h0' h1',rfl⟩
theorem Au{W:Q8}(wp:YW W){c s:Int}{k:Nat}{i:Nat}(hi:i<(VG W c s k).length):0<=gi (VG W c s k) (i:Int)/\gi (VG W c s k) (i:Int)<(W.cpus.length:Int):=by
 have hm:=FB (l:=VG W c s k) (i:=(i:Int)) (by omega) (by omega);have:=(List.mem_filter.1 hm).2;have:=zqt wp this;exact⟨this.1,this.2.1⟩
theorem y8{c lv:Int}(h:TW bs w p W m)(wp:YW W)(c0:0<=c)(c1:c<(W.cpus.length:Int)):PX bs JQ #[.agg #[.pointer p,.int .i64 c],.int .i64 lv] w (.int .i64 (ZL W c lv)):=by
 refine Oi fun wr0 hx0=>GF p c lv (R:=fun v w'=>v=.int .i64 (ZL W c lv)/\Q0 [] wr0 w') ?_
 have h:=(h.ext hx0).less (cs:=[]) (by simp);intro b wb hx hb hcell _ b1 wb1 hx1 hb1 hcell1 _ wr hx2 _;have hX:=(hx.trans hx1).trans hx2;have hp:=h.ext hX
 have hbx:Q2 [] wr (some ⟨b,0,none⟩) 0 [.pointer p,.int .i64 c]:=by
  have hc:=Zd (Zd hcell hx1 (by simp)) hx2 (by simp);exact Pa hc (by simp) fun j v hj=>by rw[Nat.zero_add,Nat.zero_add]; exact hj
 have hb1x:Q2 [] wr (some ⟨b1,0,none⟩) 0 [.int .i64 lv]:=(P7 ⟨_,hcell1⟩).ext hx2;have hbest:=zel W c (Gp (W.cpus.length:Int) c lv) 4;rw[zqv wp.a.c2] at hbest
 refine(zww (gf:=Jb) (lb:=#[.pointer (some ⟨b,0,none⟩),.pointer (some ⟨b1,0,none⟩)]) (bF:=.func Y7) (bA:=#[]) (bK:=#[.pointer (some ⟨b,0,none⟩)]) (xs:=VG W c (Gp (W.cpus.length:Int) c lv) 4) (lt:=ztg W) (w:=wr)
  (enters_of Tryz.func153 (by kernel_rfl) rfl)
  (fun I W1 hx3 hI=>BF.ext (zle (W:=W) (m:=m) (p:=p) (c:=c) (lv:=lv) (b:=b) (b1:=b1) (I:=I) (w:=wr) wp c0 c1 hp hbx hb1x hI) hx3)
  (fun i j hi hj W1 hx3=>.inl ⟨Y7,_,rfl,(zjc (hp.ext hx3) wp (hbx.ext hx3) (Au wp hi).1 (Au wp hi).2 (Au wp hj).1 (Au wp hj).2) W1 (Q0.refl _ _)⟩)).mono fun e w2 ⟨he,hx3⟩=>⟨_,_,he,Jq,fun g wr1 hx4=>⟨?_,(hX.trans hx3).trans hx4⟩,fun g wr2 hx4=>⟨?_,(hX.trans hx3).trans hx4⟩⟩
 ·rw[hbest] at g
  split at g
  ·have:=P8 W c (Gp (W.cpus.length:Int) c lv) W.cpus.length;have e2:ZL W c lv = -1:=by unfold ZL at *; omega
   rw[e2]
  ·cases g
 ·rw[hbest] at g ⊢
  split at g
  ·cases g
  ·rename_i hn;rw[if_neg hn]
theorem zje{c:Int}(h:TW bs w p W m)(wp:YW W)(c0:0<=c)(c1:c<(W.cpus.length:Int)):PX bs VK #[.agg #[.pointer p,.int .i64 c]] w (.tuple #[.int .i64 (EB (Uo W c)),.bool (!decide (Uo W c<0))]):=by
 rw[<-zjx];refine Bb p c fun wr hx=>?_
 have h:=(h.ext hx).less (cs:=[]) (by simp);have hlv:=zag (W.cpus.length:Int);have htl:=wp.a.t;refine fun _ _=>⟨_,Oe h wp c0 c1,h.some,_,_,_,h.cpus,_,OR,?_⟩
 refine Xi 2 0 rfl (fun k=>(k:Int)<=KO (W.cpus.length:Int)/\zb1 W c ((KO (W.cpus.length:Int)).toNat-k) k=Uo W c) ⟨hlv.1,rfl⟩ fun k ⟨hk,hI⟩=>⟨fun hlt=>?_,fun hge=>?_⟩
 ·have hlt:=Ot hlt;have ek:(KO (W.cpus.length:Int)).toNat-k=((KO (W.cpus.length:Int)).toNat-(k+1))+1:=by omega
  rw[ek] at hI;have nxt:zb1 W c ((KO (W.cpus.length:Int)).toNat-(k+1)) (k+1)=Uo W c->((k+1:Nat):Int)<=KO (W.cpus.length:Int)/\zb1 W c ((KO (W.cpus.length:Int)).toNat-(k+1)) (k+1)=Uo W c:=fun hp=>⟨by omega,hp⟩
  refine⟨_,y8 h wp c0 c1,fun g=>⟨⟨by omega,by omega⟩,Qs (by omega) (nxt ?_)⟩,fun g=>?_⟩
  ·rw[<-hI,Ez (Ot g)]
  ·have g:¬ZL W c (k:Int)<0:=Ou g;have hbr:=zky wp g;refine⟨p,_,XD,_,Oe h wp hbr.1 hbr.2,h.some,_,_,_,h.tasks,?_⟩;refine Xi 12 0 rfl (fun j=>j<=12/\Jj W (ZL W c (k:Int)) c (12-j) j=Jj W (ZL W c (k:Int)) c 12 0) ⟨Nat.zero_le _,rfl⟩ fun j ⟨hj,hF⟩=>⟨fun hlt2=>?_,fun hge2=>?_⟩
   ·have hlt2:=Ot hlt2;have hj12:j<12:=by omega
    rw[show 12-j=(12-(j+1))+1 by omega] at hF;have r1:=TL wp c;have r2:=TL wp (ZL W c (k:Int));have r3:=Yf (Q7 W (j:Int)).nice;have miss:KV W (ZL W c (k:Int)) c j=false->j+1<=12/\Jj W (ZL W c (k:Int)) c (12-(j+1)) (j+1)=Jj W (ZL W c (k:Int)) c 12 0:=fun g2=>⟨by omega,by rw[<-hF,CM g2]⟩
    refine⟨h.rd.t.ix Qy (by omega) hlt2,_,_,_,_,_,_,_,_,_,h.rd.t j (by omega) hlt2,fun _ _=>⟨_,fun _=>Ks h wp (by omega) hlt2 c0 c1,fun g2=>⟨⟨by omega,by omega⟩,Qs hj12 (miss ?_)⟩,fun g2=>⟨_,Hc h (by omega) hlt2,fun _=>⟨by omega,by omega⟩,fun _=>⟨by omega,by omega⟩,fun g3=>?_,fun g3=>⟨⟨by omega,by omega⟩,Qs hj12 (miss ?_)⟩⟩⟩⟩
    ·have g2:(((Q7 W (j:Int)).cpu != ZL W c (k:Int))||(!ZP W (j:Int) c))=true:=g2;unfold KV;rw[bne] at g2
     revert g2
     cases ((Q7 W (j:Int)).cpu==ZL W c (k:Int)) <;> cases ZP W (j:Int) c <;> simp
    ·have g2:(((Q7 W (j:Int)).cpu != ZL W c (k:Int))||(!ZP W (j:Int) c))=false:=g2
     have hp:KV W (ZL W c (k:Int)) c j=true:=by
      unfold KV;rw[bne] at g2;rw[show zo1 W (j:Int) (ZL W c (k:Int)) c=true from g3]
      revert g2
      cases ((Q7 W (j:Int)).cpu==ZL W c (k:Int)) <;> cases ZP W (j:Int) c <;> simp
     rw[zes hp] at hF;have e:Uo W c=(j:Int):=by rw[<-hI,EA g (by rw[<-hF]; omega),<-hF]
     rw[e];unfold zjw;rw[if_neg (by omega:¬(j:Int)<0)]
    ·unfold KV;rw[show zo1 W (j:Int) (ZL W c (k:Int)) c=false from g3,Bool.and_false]
   ·have hge2:=Ou hge2;have:j=12:=by omega
    subst this;refine⟨⟨by omega,by omega⟩,Qs (by omega) (nxt ?_)⟩;rw[<-hI,Ey (by rw[<-hF]; show (-1:Int)<0; decide)]
 ·have hge:=Ou hge;have:(KO (W.cpus.length:Int)).toNat-k=0:=by omega
  rw[this] at hI;rw[<-hI]; rfl
theorem k9{c:Int}(h:Xt bs w W m)(hl:X5 W):PX bs Ov #[.agg (Qa W m).toArray,.int .i64 c] w (.tuple #[.int .i64 (EB (Vu W c)),.bool (!decide (Vu W c<0))]):=by
 refine Oi fun wr0 hx0=>Ct W.now m.cO W.cpus.length m.cC m.tO W.tasks.length m.tC m.gO W.groups.length m.gC c (R:=fun v w'=>v=.tuple #[.int .i64 (EB (Vu W c)),.bool (!decide (Vu W c<0))]/\Q0 [] wr0 w') ?_
 have h:=(h.ext hx0).less (cs:=[]) (by simp);intro b wb hxb hb hcell _;have hrd:=h.ext hxb;have hp:=ztb (bs:=[]) hcell hrd (Q0.refl _ _) (by simp);have hcr:Yi W c=true->0<=c/\c<(W.cpus.length:Int):=fun g=>by have:=Qm.1 (show Yh c 0 ((W.cpus.length:Int)-1)=true from g); omega
 refine⟨_,_,_,_,_,_,_,_,_,_,hp.cs,_,Lp hrd hl.c hl.g hl.f,Yi W c,fun _=>by exact Kt hp hl.c,_,_,_,fun _=>hp.cpus,fun q=>?_,(gi W.cpus c).up,fun q=>?_,fun q wr hx=>⟨?_,hxb.trans hx⟩,fun q=>?_⟩
 ·simp only[Bool.or_eq_false_iff,Bool.not_eq_false'] at q;exact hp.rd.c.ix ZH (hcr q.2).1 (hcr q.2).2
 ·simp only[Bool.or_eq_false_iff,Bool.not_eq_false'] at q;exact(hp.rd.c c (hcr q.2).1 (hcr q.2).2).get 0 _ rfl
 ·have:Vu W c = -1:=by
   unfold Vu;rw[if_neg];rintro⟨h1,h2,h3⟩;rw[h1,h2,h3] at q; cases q
  rw[this]; rfl
 ·simp only[Bool.or_eq_false_iff,Bool.not_eq_false'] at q;obtain⟨⟨q1,q2⟩,q3⟩:=q;have wp:=Qh.1 q1;have e:Vu W c=Uo W c:=by unfold Vu; rw[if_pos ⟨q1,q2,q3⟩]
  rw[e];exact⟨some ⟨b,0,none⟩,c,by exact XD,_,_,zje hp wp (hcr q2).1 (hcr q2).2,fun wr hx=>⟨rfl,hxb.trans hx⟩⟩
end
def zcw(W:Q8)(g:Int)(j:Nat):Int:=q9 W g (j:Int)
theorem Pt(W:Q8)(g c:Int)(h:W.tasks.length=12):0<=q9 W g c/\q9 W g c<=240:=by
 have:=Vo (j9 W g c) W.tasks.length;unfold q9;omega
def zw7(a b:Int):Int:=if a>b then a else b
def PI(W:Q8)(g c:Int):Int:=
 if XM (zcw W g) W.cpus.length=0 then (gi W.groups g).weight else zw7 1 (Int.tdiv ((gi W.groups g).weight*q9 W g c) (XM (zcw W g) W.cpus.length))
theorem zwf{a b:Int}(ha:0<=a)(ha2:a<=100000)(hb:0<b):Qj .i64 (Int.tdiv a b):=by
 have h1:=Int.tdiv_nonneg ha (Int.le_of_lt hb);have h2:Int.tdiv a b<=a:=by rw[Int.tdiv_eq_ediv_of_nonneg ha]; exact Int.ediv_le_self _ ha
 exact⟨by omega,by omega⟩
theorem zdf{a b:Int}{w:Wo}{bs:List Nat}:PX bs Yy #[.int .i64 a,.int .i64 b] w (.int .i64 (zw7 a b)):=T2
section
variable {W:Q8}{m:MW}{w:Wo}{bs:List Nat}{p:OA}
theorem zl9{g c:Int}(wp:TU W)(hu:Q6 W.groups g=true):0<=(gi W.groups g).weight*q9 W g c/\(gi W.groups g).weight*q9 W g c<=4800:=by
 have hw:=(wp.a.u hu).2.2;have hi:=Pt W g c wp.a.t;have w1:=hw.w1;have w2:=hw.w2;refine⟨Int.mul_nonneg (by omega) hi.1,?_⟩;have:=Int.mul_le_mul w2 hi.2 hi.1 (show (0:Int)<=20 by decide);omega
theorem Fh{g:Int}(wp:TU W)(k:Nat):0<=XM (zcw W g) k/\XM (zcw W g) k<=(k:Int)*240:=Vo (fun j=>Pt W g (j:Int) wp.a.t) k
theorem NY{g c:Int}(h:Xt bs w W m)(wp:TU W)(hl:X5 W)(hu:Q6 W.groups g=true):PX bs TC #[.agg (Qa W m).toArray,.int .i64 g,.int .i64 c] w (.int .i64 (PI W g c)):=
 Af W.now m.cO W.cpus.length m.cC m.tO W.tasks.length m.tC m.gO W.groups.length m.gC g c fun wr hx=>by
  have h:=(h.ext hx).less (cs:=[]) (by simp);have hcl:=wp.a.c2;obtain⟨u1,u2,_⟩:=Q5.1 hu;intro _ _;refine T3 W.cpus.length 0 rfl (fun x k=>k<=W.cpus.length/\x=XM (zcw W g) k) ⟨Nat.zero_le _,rfl⟩ fun x k ⟨hk,hx2⟩=>⟨fun hlt=>?_,fun hge=>⟨fun g2=>⟨h.g.ix u1 u2,_,(h.g.cells g u1 u2).get 3 _ rfl,?_⟩,fun g2=>?_⟩⟩
  ·have hlt:=Ot hlt;have hr:=Fh (g:=g) wp k;have hi:=Pt W g (k:Int) wp.a.t;exact⟨_,MO h wp hl hu,⟨by omega,by omega⟩,⟨by omega,by omega⟩,Qw (by omega) ⟨by omega,by simp only[XM]; rw[hx2]; rfl⟩⟩
  ·have hge:=Ou hge;have:k=W.cpus.length:=by omega
   subst this;unfold PI;rw[if_pos (by rw[<-hx2]; simpa using g2)]
  ·have hge:=Ou hge;have:k=W.cpus.length:=by omega
   subst this;have hr:=Fh (g:=g) wp W.cpus.length;have hp:=zl9 (c:=c) wp hu;have hne:x≠0:=by simpa using g2
   refine⟨h.g.ix u1 u2,_,(h.g.cells g u1 u2).get 3 _ rfl,q9 W g c,MO h wp hl hu,⟨by omega,by omega⟩,⟨hne,zwf hp.1 (by omega) (by omega)⟩,_,zdf,?_⟩;unfold PI;rw[if_neg (by rw[<-hx2]; exact hne),hx2]
end
theorem zrd{gs:List ZF}(ht:ZX gs){g:Int}:∀h:Int,Q6 gs h=true->g∈QX gs h->Tj 3 gs g h=true:=
 PD ht (fun hx=>by rw[show QX gs 0=[] from Za _ _] at hx; cases hx) fun h hu hz ih hx=>by
  by_cases e:h=g
  ·subst e; simp[Tj]
  ·rw[zex ht hu hz e];rw[Ys ht hu hz] at hx;rcases List.mem_cons.1 hx with e2 | e2
   ·exact absurd e2.symm e
   ·exact ih e2
theorem zn8(W:Q8)(g c x:Int):Te W (Kn W g c x):=by
 unfold Kn;split
 ·exact Te.refl _
 ·split
  ·exact(zbl _ _ _ _).trans (Gq _ _)
  ·exact zbl _ _ _ _
theorem Tb.wei{W:Q8}(p:Tb W){g c x:Int}(hu:Q6 W.groups g=true)(hz:g≠0)(c0:0<=c)(c1:c<(W.cpus.length:Int)):Tb (Kn W g c x):=by
 obtain⟨u0,u1,_⟩:=Q5.1 hu;have hl:=p.a.gl;have hsl:=p.a.sl hu;have c1':c<((gi W.groups g).shelves.length:Int):=by omega
 have e:∀{i j:Int},0<=i->0<=j->Qb (JK W g c x) i j=if g=i/\c=j then zbw W g c x else Qb W i j:=fun hi hj=>Jv u0 u1 c0 c1' hi hj
 have hT:QR W.groups (JK W g c x).groups:=XI u0 u1
 have ef:∀{i j:Int},0<=i->0<=j->(Qb (JK W g c x) i j).floor=(Qb W i j).floor:=fun {i j} hi hj=>by
  rw[e hi hj]; split
  ·rename_i h; obtain⟨rfl,rfl⟩:=h; rfl
  ·rfl
 have hpu:=p.a.up hu hz;have p0:=(Q5.1 hpu).1
 have same:∀{i j:Int},Q6 W.groups i=true->i≠0->0<=j->¬(g=i/\c=j)->Vn W i j->Vn (JK W g c x) i j:=fun {i j} iu iz j0 hn h=>by
  unfold Vn at h ⊢;rw[hT.p,ef (Q5.1 (p.a.up iu iz)).1 j0,e (Q5.1 iu).1 j0,if_neg hn];exact h
 have hA:PreA (JK W g c x):=by
  refine⟨p.a.setSh u0 (by omega),fun t t0 t1=>?_,fun t t0 t1 n=>p.l t t0 t1 n,fun i j iu j0 j1=>?_⟩
  ·rcases p.t t t0 t1 with h | ⟨n,h⟩
   ·exact .inl h
   ·exact .inr ⟨n,h.st,by rw[hT.usd]; exact h.g,h.n,h.m,h.m0,h.s,h.u,h.l1,h.l2,fun h1=>by
     show (Qb (JK W g c x) (Q7 W t).group (Q7 W t).cpu).floor<=(Q7 W t).v/\(Q7 W t).v-(Qb (JK W g c x) (Q7 W t).group (Q7 W t).cpu).floor<=_;rw[ef (Q5.1 h.g).1 (p.l t t0 t1 n).1]; exact h.f h1⟩
  ·rw[hT.usd] at iu;have hs:=p.s i j iu j0 j1;have i0:=(Q5.1 iu).1
   by_cases h:g=i/\c=j
   ·obtain⟨rfl,rfl⟩:=h;refine⟨by rw[e i0 j0,if_pos ⟨rfl,rfl⟩]; exact hs.s,fun h0=>absurd h0 hz,fun _ ho=>?_⟩;rw[e i0 j0,if_pos ⟨rfl,rfl⟩] at ho;have ho:(Qb W g c).on=true:=ho;unfold Vn;rw[hT.p,ef p0 j0,e i0 j0,if_pos ⟨rfl,rfl⟩];simp only[zbw];rw[if_pos ho];have:=ZW ((Qb W g c).v-(Qb W (gi W.groups g).parent c).floor) x;omega
   ·refine⟨by rw[e i0 j0,if_neg h]; exact hs.s,by rw[e i0 j0,if_neg h]; exact hs.root,fun iz ho=>?_⟩;rw[e i0 j0,if_neg h] at ho;exact same iu iz j0 h (hs.st iz ho)
 have hC:∀d:Int,0<=d->d<(W.cpus.length:Int)->(d=c->zic (JK W g c x) g c=false)->zwb (JK W g c x) d:=fun d d0 d1 hd=>by
  have h:=p.c d d0 d1;refine⟨h.b,h.i,h.c1,h.c2,h.no,h.yes,fun h0 h1 h2=>?_⟩;obtain⟨q1,q2⟩:=h.q h0 h1 h2
  have hcu:Q6 W.groups (Q7 W (gi W.cpus d).cur).group=true:=by
   rcases p.t _ h0 h.c2 with hz | ⟨_,hx⟩
   ·have h1:(Q7 W (gi W.cpus d).cur).state=1:=h1;have h3:(Q7 W (gi W.cpus d).cur).state=0:=hz.1;rw[h3] at h1; cases h1
   ·exact hx.g
  refine⟨by show (Q7 W (gi W.cpus d).cur).v-(Qb (JK W g c x) (Q7 W (gi W.cpus d).cur).group d).floor<=_; rw[ef (Q5.1 hcu).1 d0]; exact q1,fun y hy=>?_⟩;have hy:y∈QX W.groups (Q7 W (gi W.cpus d).cur).group:=by rw[<-T7 hT]; exact hy
  obtain⟨yu,yz⟩:=YB p.a.tree _ hcu y hy;have y0:=(Q5.1 yu).1
  have hn:¬(g=y/\c=d):=by
   rintro⟨rfl,rfl⟩;have h3:=hd rfl;unfold zic at h3;have h4:=zrd (hT.tree p.a.tree) (g:=g) (Q7 W (gi W.cpus c).cur).group (by rw[hT.usd]; exact hcu) (by rw[T7 hT]; exact hy);rw[show (gi (JK W g c x).cpus c).cur=(gi W.cpus c).cur from rfl,decide_eq_true (show (gi W.cpus c).cur>=0 from h0),Bool.true_and] at h3;rw[show (Q7 (JK W g c x) (gi W.cpus c).cur).group=(Q7 W (gi W.cpus c).cur).group from rfl,h4] at h3;cases h3
  obtain⟨s1,s2⟩:=q2 y hy;refine⟨same yu yz d0 hn s1,?_⟩;rw[hT.p,ef (Q5.1 (p.a.up yu yz)).1 d0,e y0 d0,if_neg hn];exact s2
 unfold Kn;split
 ·exact p
 ·split
  ·refine⟨hA.endW c0 c1,fun d d0 d1=>?_⟩;have hlen:(YtclpmgfpjeaibaaGreat.endW (JK W g c x) c).cpus.length=W.cpus.length:=List.length_set;have hcp:gi (YtclpmgfpjeaibaaGreat.endW (JK W g c x) c).cpus d=if c=d then XK (gi W.cpus c) else gi W.cpus d:=QA _ _ c0 c1 d0;rw[hlen] at d1
   by_cases ed:c=d
   ·subst ed;have h:=p.c c c0 c1;rw[if_pos rfl] at hcp;have n1:(XK (gi W.cpus c)).cur = -1:=rfl;exact⟨by rw[hcp]; exact h.b,by rw[hcp]; exact h.i,by rw[hcp,n1]; exact Int.le_refl _,by rw[hcp,n1]; decide,fun _=>by rw[hcp]; rfl,fun h=>by rw[hcp,n1] at h; omega,fun h=>by rw[hcp,n1] at h; omega⟩
   ·have h:=hC d d0 d1 fun hd=>absurd hd.symm ed
    rw[if_neg ed] at hcp;exact⟨by rw[hcp]; exact h.b,by rw[hcp]; exact h.i,by rw[hcp]; exact h.c1,by rw[hcp]; exact h.c2,by rw[hcp]; exact h.no,by rw[hcp]; exact h.yes,by rw[hcp]; exact h.q⟩
  ·rename_i he;exact⟨hA,fun d d0 d1=>hC d d0 d1 fun _=>by simpa using he⟩
theorem SW.tu{K:Int}{W:Q8}(h:SW K W):TU W:=⟨h.a,fun t0 t1 hs=>h.li t0 t1 hs⟩
theorem zoa{f:Nat->Int}(h:∀j,0<=f j):∀m:Nat,0<=XM f m
 | 0=>Int.le_refl _
 | m+1=>by
  have ih:=zoa h m;have:=h m;simp only[XM];omega
theorem zn9{f:Nat->Int}(h:∀j,0<=f j){k:Nat}:∀n:Nat,k<n->f k<=XM f n
 | 0,hk=>absurd hk (Nat.not_lt_zero k)
 | n+1,hk=>by
  simp only[XM];have hn:=zoa h
  by_cases e:k=n
  ·subst e; have:=hn k; omega
  ·have:=zn9 h (k:=k) n (by omega);have:=h n;omega
theorem zj9{W:Q8}(wp:TU W){g c:Int}(hu:Q6 W.groups g=true)(c0:0<=c)(c1:c<(W.cpus.length:Int)):1<=PI W g c/\PI W g c<=(gi W.groups g).weight:=by
 have hg:=(wp.a.u hu).2.2;have w1:=hg.w1;have hi:=Pt W g c wp.a.t
 have hall:q9 W g c<=XM (zcw W g) W.cpus.length:=by
  have:=zn9 (f:=zcw W g) (fun j=>(Pt W g (j:Int) wp.a.t).1) (k:=c.toNat) W.cpus.length (by omega);unfold zcw at this
  rwa[show ((c.toNat:Nat):Int)=c by omega] at this
 unfold PI;split
 ·omega
 ·rename_i hn
  have hp:0<XM (zcw W g) W.cpus.length:=by
   have:=(Fh (g:=g) wp W.cpus.length).1;omega
  have hq:Int.tdiv ((gi W.groups g).weight*q9 W g c) (XM (zcw W g) W.cpus.length)<=(gi W.groups g).weight:=by
   rw[Int.tdiv_eq_ediv_of_nonneg (Int.mul_nonneg (by omega) hi.1)];refine Int.ediv_le_of_le_mul hp ?_;exact Int.mul_le_mul_of_nonneg_left hall (by omega)
  unfold zw7
  split <;> omega
theorem zj8{W:Q8}(wp:TU W){g c:Int}(hu:Q6 W.groups g=true)(c0:0<=c)(c1:c<(W.cpus.length:Int)):1<=PI W g c/\PI W g c<=20:=by
 have h:=zj9 wp hu c0 c1;have:=(wp.a.u hu).2.2.w2;omega
def Mf(W:Q8)(c:Int):Nat->Q8
 | 0=>W
 | k+1=>if k≠0/\(gi (Mf W c k).groups (k:Int)).used=true then Kn (Mf W c k) (k:Int) c (PI (Mf W c k) (k:Int) c) else Mf W c k
def V2(W:Q8)(c:Int):Q8:=Qg (Mf W c 8)
noncomputable def Th(W:Q8)(c:Int):Int:=Uo (V2 W c) c
noncomputable def zih(W:Q8)(c:Int):Q8:=if Th W c<0 then V2 W c else Qg (Vk (V2 W c) (Th W c) (Q7 (V2 W c) (Th W c)).group c)
noncomputable abbrev Fi(W:Q8)(c:Int):Int:=VH W c true 0
structure zvt (W V:Q8):Prop where
 sf:SF Qq (Qq+Ql) V
 fr:Fr W V
 cu:Hn V
 pre:Tb V
 sta:Te W V
theorem zgc{W:Q8}(wp:YW W)(hr:H3 W){c:Int}(c0:0<=c)(c1:c<(W.cpus.length:Int)):∀k:Nat,k<=8->zvt W (Mf W c k)
 | 0,_=>⟨MY (PK wp hr),Fr.refl _,zm1 wp,Xk wp,Te.refl _⟩
 | k+1,hk=>by
  have ih:=zgc wp hr c0 c1 k (by omega);simp only[Mf];split
  ·rename_i h;have hl:=ih.sf.w.a.gl;have hu:Q6 (Mf W c k).groups (k:Int)=true:=Q5.2 ⟨by omega,by omega,h.2⟩;have c1':c<((Mf W c k).cpus.length:Int):=by rw[ih.fr.c]; exact c1
   have hs:=zj8 ih.sf.w.tu hu c0 c1';obtain⟨a,b,d⟩:=zoi ih.sf (Int.le_refl _) ih.cu hu (by omega) c0 c1' hs.1 hs.2;exact⟨a,ih.fr.trans b,d,ih.pre.wei hu (by omega) c0 c1',ih.sta.trans (zn8 _ _ _ _)⟩
  ·exact ih
theorem zgd{W:Q8}{c:Int}(hW:Qv W=true)(hb:Fi W c=0):0<=c/\c<(W.cpus.length:Int)/\zvt W (Mf W c 8)/\YW (V2 W c)/\SW (Qq+Ql+Vm) (V2 W c)/\Fr W (V2 W c):=by
 obtain⟨h1,_,_,h4⟩:=zgj hb;have wp:=Qh.1 hW;obtain⟨c0,c1⟩:=J7 h1;have hB:=zgc wp (Qh.1 h4) c0 c1 8 (Nat.le_refl _);have hs:=U1 hB.sf.w (by simp only[Ql]; decide);exact⟨c0,c1,hB,(zbi hB.sf.w (by simp only[Ql]; decide) (by simp only[Ql,Vm]; decide) hB.pre (hB.sta.loc hB.fr.t (Ux wp))).1,hs.1,hB.fr.trans hs.2⟩
theorem CN{W:Q8}{b c:Int}:∀f j:Nat,0<=Jj W b c f j->∃i:Nat,Jj W b c f j=(i:Int)/\j<=i/\i<j+f/\KV W b c i=true
 | 0,j,h=>by
  have:(0:Int)<=-1:=h;omega
 | f+1,j,h=>by
  simp only[Jj] at h ⊢;split
  ·rename_i hp;exact⟨j,rfl,Nat.le_refl _,by omega,hp⟩
  ·rename_i hp;rw[if_neg hp] at h;obtain⟨i,a,b',c',d⟩:=CN f (j+1) h;exact⟨i,a,by omega,by omega,d⟩
theorem zff{W:Q8}{c:Int}(h:¬Uo W c<0):∃(i:Nat) (b:Int),Uo W c=(i:Int)/\i<12/\KV W b c i=true:=by
 have key:∀f k:Nat,0<=zb1 W c f k->∃(i:Nat) (b:Int),zb1 W c f k=(i:Int)/\i<12/\KV W b c i=true:=fun f=>by
  induction f with
  | zero=>intro k h; have:(0:Int)<=-1:=h; omega
  | succ f ih=>
   intro k h
   by_cases h0:ZL W c (k:Int)<0
   ·rw[Ez h0] at h ⊢; exact ih _ h
   ·by_cases h1:Jj W (ZL W c (k:Int)) c 12 0<0
    ·rw[Ey h1] at h ⊢; exact ih _ h
    ·rw[EA h0 h1] at h ⊢;obtain⟨i,a,_,b,d⟩:=CN 12 0 h;exact⟨i,_,a,by omega,d⟩
 exact key _ _ (by have:=zly W c; unfold Uo at *; omega)
theorem zva{W:Q8}{c:Int}(h:¬Uo W c<0):0<=Uo W c/\Uo W c<12/\(Q7 W (Uo W c)).state=1:=by
 obtain⟨i,b,e,hi,hp⟩:=zff h;unfold KV at hp;simp only[Bool.and_eq_true] at hp;rw[e];exact⟨by omega,by omega,(M2 hp.1.2).1⟩
theorem zuo{W V:Q8}(hl:X5 W)(ha:WA V)(hT:QR W.groups V.groups):X5 V:=by
 have h1:=ha.c2;have h2:=ha.t;have h3:=ha.gl;have hm:=Zl;have hn1:=ha.n1;have hn2:=ha.n2;refine⟨by omega,by omega,by omega,fun i a b=>?_⟩;have hb:=DK ha a (by omega);have hg:=ha.grp i a (by omega);refine⟨by rw[hT.n]; exact(hl.f i a (by rw[<-hT.len]; exact b)).nm,?_,by omega,by omega,by omega⟩
 cases hu:(gi V.groups i).used with
 | false=>rw[(hg.1 hu).ne]; exact⟨by decide,by decide⟩
 | true=>
  have hg:=hg.2 hu
  by_cases hq:(gi V.groups i).band.quota=0
  ·rw[(hg.none hq).2.2]; exact⟨by decide,by decide⟩
  ·have:=hg.band hq;exact⟨by omega,by omega⟩
theorem zmx{W:Q8}{c:Int}(hW:Qv W=true)(hb:Fi W c=0)(hp:¬Th W c<0):0<=Th W c/\Th W c<12/\(Q7 (V2 W c) (Th W c)).state=1/\Q6 (V2 W c).groups (Q7 (V2 W c) (Th W c)).group=true/\SF (Qq+Ql+Vm) (Qq+Ql+Vm+Ql) (V2 W c)/\
  SF (Qq+Ql+Vm) (Qq+Ql+Vm+Ql) (Vk (V2 W c) (Th W c) (Q7 (V2 W c) (Th W c)).group c):=by
 obtain⟨c0,c1,_,wp,sw,fr⟩:=zgd hW hb;obtain⟨p0,p1,ps⟩:=zva hp;have sf:SF (Qq+Ql+Vm) (Qq+Ql+Vm+Ql) (V2 W c):=sw.sf.mono (Int.le_refl _) (by simp only[Ql]; omega);have hu:=(sw.t _ p0 p1 (show (Q7 (V2 W c) (Th W c)).state≠0 by unfold Th; rw[ps]; decide)).1;exact⟨p0,p1,ps,hu,sf,(AE sf (Int.le_refl _) p0 p1 hu c0 (by rw[fr.c]; exact c1)).2⟩
section
variable {base pb:Nat}{W W':Q8}{m:MW}{w:Wo}
theorem E7{c:Int}(h:Xt [] w W m)(hl:X5 W) :
  Cz V8 #[.agg (Qa W m).toArray,.int .i64 c] w fun e w'=>∃v,e=.returned v/\QE (Xc W (Fi W c) (zih W c)) w v w':=by
 refine DP W.now m.cO W.cpus.length m.cC m.tO W.tasks.length m.tC m.gO W.groups.length m.gC c (R:=fun v w'=>QE (Xc W (Fi W c) (zih W c)) w v w') ?_;intro y hy y1 hy1 wr hx2 hs2;have hm0:=Xb;have hlc:=hl.c;refine Calls.mono (Z5 (h.ext hx2) hl) ?_;rintro e wv (⟨hW,he,hy2⟩ | ⟨hW,m',he,hM,hy2⟩)
 ·exact⟨_,_,_,_,_,_,_,_,_,_,_,he,Qe hy2 hs2,fun g=>by simp at g,true,fun g=>by simp at g,fun _ wr1 hx3=>QE.bad hW ((hx2.trans hy2).fresh hx3 fun z hm=>.inl (YC hy hy1 z hm)),fun g=>by simp at g⟩
 have hK:=Wk.begin hy hy1 hx2 hs2 hM hy2;have hr:=hK.rd;have wp:=Qh.1 hW;refine⟨_,_,_,_,_,_,_,_,_,_,_,he,Qe hy2 hs2,fun _=>⟨by omega,by omega⟩,Yi W c,fun _=>Qi,fun g wr1 hx3=>?_,fun g=>?_⟩
 ·have g:Yi W c=false:=by
   cases hc:Yi W c with
   | false=>rfl
   | true=>rw[hc] at g; split at g <;> simp at g
  have hb:Fi W c=1:=by unfold Fi VH; rw[if_pos g]
  exact QE.no hW (by rw[hb]; decide) (hK.step hx3) hb
 have g:Yi W c=true:=by
  cases hc:Yi W c with
  | true=>rfl
  | false=>rw[hc] at g; simp at g
 obtain⟨c0,c1⟩:=J7 g;refine⟨hr.c.ix ZH c0 c1,_,hr.c.f c0 c1 (j:=0) rfl,fun g2 wr2 hx3=>?_,fun g2=>⟨fun g3 wr3 hx3=>?_,fun g3=>?_⟩⟩
 ·have g2:(gi W.cpus c).up=false:=by simpa using g2
  have hb:Fi W c=6:=by unfold Fi VH; rw[if_neg (by rw[g]; decide),if_pos (by rw[g2]; decide)]
  exact QE.no hW (by rw[hb]; decide) (hK.step hx3) hb
 ·have g2:(gi W.cpus c).up=true:=by simpa using g2
  have hr0:¬QG W=true:=fun hr=>by rw[if_pos hr] at g3; simp at g3
  have hb:Fi W c=10:=by unfold Fi; rw[Ga g g2 rfl,if_pos (by simpa using hr0)]
  rw[if_neg hr0];exact QE.no hW (by rw[hb]; decide) (hK.step hx3) hb
 have g2:(gi W.cpus c).up=true:=by simpa using g2
 have hr0:QG W=true:=Decidable.byContradiction fun hr=>by rw[if_neg hr] at g3; simp at g3
 have hb:Fi W c=0:=by unfold Fi; rw[Ga g g2 rfl,if_neg (by rw[hr0]; decide)]
 obtain⟨_,_,hB8,wpS,swS,frS⟩:=zgd hW hb;refine⟨fun vs w1=>∃k:Nat,vs=.int .i64 (k:Int)::Qa W m'/\1<=k/\k<=8/\Wk 8 [y,y1] w w1 (Mf W c k) m',Zu 8 0,fun w1 hx0 _=>⟨1,rfl,by decide,by decide,hK.step hx0⟩,?_⟩;rintro g1 l l1O l1L l1C l2O l2L l2C l3O l3L l3C wv2 hs3 ⟨k,he2,hk1,hk8,hKk⟩;have hOk:=zgc wp (Qh.1 hr0) c0 c1 k hk8;have e0:Qa (Mf W c k) m'=Qa W m':=OU hOk.fr;have hdef:Mf W c (k+1)=if k≠0/\(gi (Mf W c k).groups (k:Int)).used=true then Kn (Mf W c k) (k:Int) c (PI (Mf W c k) (k:Int) c) else Mf W c k:=rfl;have hgl:=hOk.sf.w.a.gl;have hWgl:=wp.a.gl;simp only[Qa,List.cons.injEq,Value.int.injEq,Value.slice.injEq,true_and,and_true] at he2;obtain⟨rfl,rfl,⟨rfl,rfl,rfl⟩,⟨rfl,rfl,rfl⟩,rfl,rfl,rfl⟩:=he2;refine⟨fun hlt=>?_,fun hge wr10 hx10 hs10=>?_⟩
 ·have hlt:=Ot hlt;have hrk:=hKk.rd;have hix:=hrk.g.ix (i:=(k:Int)) (by omega) (by omega);rw[hgl] at hix;rw[hWgl] at hlt ⊢;refine⟨hix,_,XJ ((hrk.g.cells (k:Int) (by omega) (by omega)).get 0 _ rfl),fun gu=>?_,fun gu=>⟨⟨by omega,by omega⟩,fun wr9 hx9 _=>⟨⟨k+1,by rw[<-hWgl]; rfl,by omega,by omega,?_⟩,?_⟩⟩⟩
  ·have hu:Q6 (Mf W c k).groups (k:Int)=true:=Q5.2 ⟨by omega,by omega,gu⟩;have c1':c<((Mf W c k).cpus.length:Int):=by rw[hOk.fr.c]; exact c1
   have hsh:=zj8 hOk.sf.w.tu hu c0 c1';have hshare:=NY (c:=c) hrk hOk.sf.w.tu (zuo hl hOk.sf.w.a hOk.fr.g) hu;rw[e0] at hshare;simp only[Qa] at hshare;rw[hWgl] at hshare;refine⟨_,hshare,fun wr7 hx7 hs7=>?_⟩;have hK7:=hKk.step hx7;have hcall:=MN hK7.own hOk.sf (Int.le_refl _) (by simp only[Ql]; decide) hOk.cu (x:=PI (Mf W c k) (k:Int) c) hu (by omega) c0 c1';rw[e0] at hcall;simp only[Qa] at hcall;rw[hWgl] at hcall;refine Calls.mono hcall ?_;rintro e1 wv3 ⟨he1,hy3⟩;refine⟨_,_,_,_,_,_,_,_,_,_,he1,hK7.kept hy3 hs7,⟨by omega,by omega⟩,fun wr8 hx8 _=>⟨⟨k+1,by rw[<-hWgl]; rfl,by omega,by omega,?_⟩,?_⟩⟩
   ·rw[hdef,if_pos ⟨by omega,gu⟩];exact(hK7.deed hy3 hs7).step hx8
   ·simp only[Zu,Jh,ZZ,List.getElem?_cons_zero]; omega
  ·rw[hdef,if_neg (by rintro⟨_,h⟩; rw[show (gi (Mf W c k).groups (k:Int)).used=false from gu] at h; cases h)];exact hKk.step hx9
  ·simp only[Zu,Jh,ZZ,List.getElem?_cons_zero]; omega
 ·have hge:=Ou hge;have:k=8:=by omega
  subst this;have hK10:=hKk.step hx10;have hcall:=Qr hK10.own hB8.sf.w (by simp only[Ql]; decide) (by simp only[Ql]; decide) hK10.base;rw[e0] at hcall;refine Calls.mono hcall ?_;rintro e3 wv5 ⟨m2,he3,hy5⟩;have hK11:Wk 8 [y,y1] w wv5 (V2 W c) m2:=hK10.deed hy5 hs10;have hr11:=hK11.rd;have hpull:=Lv hr11 wpS c0 (by rw[frS.c]; exact c1);refine⟨_,_,_,_,_,_,_,_,_,_,he3,hK10.kept hy5 hs10,_,hpull,fun g5=>?_,fun g5 wr14 hx14=>?_⟩
  ·have g5:¬Th W c<0:=by have:=Ot g5; unfold Th; omega
   obtain⟨p0,p1,ps,hu,sf,sfP⟩:=zmx hW hb g5;have htl:=wpS.a.t;refine⟨hr11.t.ix Qy p0 (by rw[htl]; exact p1),_,hr11.t.f p0 (by rw[htl]; exact p1) (j:=1) rfl,fun wr11 hx11 hs11=>?_⟩;have hK12:=hK11.step hx11;refine Calls.mono (UE hK12.own sf (Int.le_refl _) (by simp only[Ql,Vm]; decide) (t:=Th W c) (g:=(Q7 (V2 W c) (Th W c)).group) (c:=c) p0 p1 (by rw[ps]; decide) hu c0 (by rw[frS.c]; exact c1)) ?_;rintro e4 wv6 ⟨he4,hy6⟩;refine⟨_,_,_,_,_,_,_,_,_,_,he4,hK12.kept hy6 hs11,fun wr12 hx12 hs12=>?_⟩;have hK13:=(hK12.deed hy6 hs11).step hx12
   have ePut:Qa (Vk (V2 W c) (Th W c) (Q7 (V2 W c) (Th W c)).group c) m2=Qa (V2 W c) m2:=by
    obtain⟨q1,q2,q3,q4⟩:=zsh (V2 W c) (Th W c) (Q7 (V2 W c) (Th W c)).group c;simp only[Qa,q1,q2,q3,q4]
   have hcall2:=Qr hK13.own sfP.w (by simp only[Ql,Vm]; decide) (by simp only[Ql,Vm]; decide) hK13.base;rw[ePut] at hcall2;refine Calls.mono hcall2 ?_;rintro e5 wv7 ⟨m3,he5,hy7⟩;refine⟨_,_,_,_,_,_,_,_,_,_,he5,hK13.kept hy7 hs12,fun wr13 hx13=>?_⟩;have hE:zih W c=Qg (Vk (V2 W c) (Th W c) (Q7 (V2 W c) (Th W c)).group c):=by unfold zih; rw[if_neg g5]
   rw[hE];exact QE.ok hW hb ((hK13.deed hy7 hs12).step hx13)
  ·have g5:Th W c<0:=by have:=Ou g5; unfold Th; omega
   have hE:zih W c=V2 W c:=by unfold zih; rw[if_pos g5]
   rw[hE];exact QE.ok hW hb (hK11.step hx14)
end
theorem k7{W:Q8}{g n x:Int}(hW:Qv W=true)(hb:Pr W g n x=0):J5 (zq8 W g n x):=by
 have wp:=Qh.1 hW;have h:=zm8 hW hb;have p:=Xk wp
 have hT:Dj W (Li W g n x):=⟨.inl rfl,h.u,h.w,h.m,h.m0,by show ZA 0=true; decide,by show ZA 0=true; decide,Int.le_refl _,by show (0:Int)<=8000000; decide,fun _=>by
  have:=(ZT (Qc n)).1;show (Qb W g (Kp W g x)).floor<=(Qb W g (Kp W g x)).floor/\(Qb W g (Kp W g x)).floor-(Qb W g (Kp W g x)).floor<=Zo (Qc n);omega⟩
 exact Zk (h.sw2.endW h.c0 h.c1) (by decide) (by decide) (AC p h.f0 h.f1 (show (1:Int)≠0 by decide) hT rfl h.c0 h.c1) (((Ux wp).setTk wp.a h.f0 h.f1 (x:=Li W g n x) fun _=>h.ch).endW _)
theorem zui{W:Q8}{g x:Int}(hW:Qv W=true)(hb:zmm W g x=0):J5 (zvp W g x):=by
 have wp:=Qh.1 hW;obtain⟨h1,hz,hu,_,_,sf,cu,hT⟩:=zs9 hW hb;have hx:=Qm.1 h1;have hu':Q6 (setGr W g (K2 W g x)).groups g=true:=by rw[hT.usd]; exact hu
 have p1:Tb (setGr W g (K2 W g x)):=(Xk wp).same sf.w.a rfl rfl hT (zma rfl);have l1:AJ (setGr W g (K2 W g x)):=(Ux wp).same rfl hT (fun i=>YH (f:=ZF.cpus) W.groups g (x:=K2 W g x) rfl i) rfl;have hlen:(setGr W g (K2 W g x)).cpus.length=W.cpus.length:=rfl;show J5 (Qg (G4 (setGr W g (K2 W g x)) g x W.cpus.length));rw[<-hlen];generalize setGr W g (K2 W g x)=V at sf cu hu' p1 l1
 have all:∀k:Nat,k<=V.cpus.length->Tb (G4 V g x k)/\Te V (G4 V g x k):=by
  intro k
  induction k with
  | zero=>exact fun _=>⟨p1,Te.refl _⟩
  | succ k ih=>
   intro hk;obtain⟨a,b⟩:=ih (by omega);exact⟨a.wei (by rw[b.g.usd]; exact hu') hz (by omega) (by rw[b.len]; omega),b.trans (zn8 _ _ _ _)⟩
 obtain⟨a,b⟩:=all _ (Nat.le_refl _);obtain⟨sf2,fr,_⟩:=zid sf (Int.le_refl _) cu hu' hz hx.1 hx.2 V.cpus.length (Nat.le_refl _);exact Zk sf2.w (by simp only[Ql]; decide) (by simp only[Ql,Vm]; decide) a (b.loc fr.t l1)
theorem zot{W:Q8}{t c:Int}(h:ZP W t c=true):QP (Qp W (Q7 W t).group (Q7 W t).mask) c=true:=by
 unfold ZP at h;simp only[Bool.and_eq_true,Bool.not_eq_true',Bool.or_eq_false_iff,Bool.not_eq_false'] at h;exact h.1.2
theorem zua{W:Q8}{c:Int}(hW:Qv W=true)(hb:Fi W c=0):J5 (zih W c):=by
 have wp:=Qh.1 hW;obtain⟨c0,c1,hB,wpS,swS,frS⟩:=zgd hW hb;have iS:J5 (V2 W c):=Zk hB.sf.w (by simp only[Ql]; decide) (by simp only[Ql,Vm]; decide) hB.pre (hB.sta.loc hB.fr.t (Ux wp));unfold zih;split
 ·exact iS
 ·rename_i hp;obtain⟨p0,p1,ps,pu,_,sf⟩:=zmx hW hb hp;obtain⟨i,b,e,hi,ht⟩:=zff hp;have e:Th W c=(i:Int):=e;unfold KV at ht;simp only[Bool.and_eq_true] at ht;have hcd:=zot ht.1.2;rw[<-e] at hcd;have cS:c<((V2 W c).cpus.length:Int):=by rw[frS.c]; exact c1
  clear hp iS swS frS hB ht e;have hK0:0<=Qq+Ql+Vm+Ql:=by decide
  have hK1:Qq+Ql+Vm+Ql+Vm<=100000000000000000:=by decide
  have hcd:QP (Qp (V2 W c) (Q7 (V2 W c) (Th W c)).group (Q7 (V2 W c) (Th W c)).mask) c=true:=hcd;generalize Th W c=q at *;generalize V2 W c=V at *;refine Zk sf.w hK0 hK1 (zba (Xk wpS) p0 p1 (by rw[ps]; decide) pu c0 cS) fun t t0 t1 n=>?_
  rw[(AG V _ _ _).wh];rw[zl0 wpS.a.t p0 p1 t0] at n ⊢
  split at n
  ·rename_i he;rw[if_pos he];exact hcd
  ·rename_i he;rw[if_neg he];exact Ux wpS t t0 t1 n
def zdo:KE:=⟨0,false,0,10,0⟩
def P1(n:Nat)(p:Int)(name:ByteArray):ZF:=⟨true,p,name,10,15,0,0,0,⟨0,0,0,[],[]⟩,List.replicate n zdo⟩
def zbz:ZF:=⟨false,0,⟨[].toArray⟩,0,0,0,0,0,⟨0,0,0,[],[]⟩,[]⟩
def JZ(n:Nat):Q8:=⟨0,List.replicate n ⟨true,-1,0,0,0⟩,List.replicate 12 Tm,(List.replicate 8 zbz).set 0 (P1 n (-1) ⟨[].toArray⟩)⟩
section
variable {n:Nat}
theorem HV(k:Int)(k0:0<=k)(k1:k<8):gi (JZ n).groups k=if k=0 then P1 n (-1) ⟨[].toArray⟩ else zbz:=by
 have:=QA (List.replicate 8 zbz) (P1 n (-1) ⟨[].toArray⟩) (i:=0) (j:=k) (Int.le_refl _) (by decide) k0;show gi ((List.replicate 8 zbz).set (0:Int).toNat _) k=_;rw[this]
 by_cases h:k=0
 ·rw[if_pos h.symm,if_pos h]
 ·rw[if_neg fun e=>h e.symm,if_neg h,OC _ _ k0 (by omega)]
theorem zr3:(JZ n).groups.length=8:=by simp[JZ]
theorem zr2(c:Int)(c0:0<=c)(c1:c<(n:Int)):gi (JZ n).cpus c=⟨true,-1,0,0,0⟩:=OC _ _ c0 c1
theorem zr4(t:Int)(t0:0<=t)(t1:t<12):Q7 (JZ n) t=Tm:=OC 12 _ t0 (by omega)
theorem zxc(c:Int)(c0:0<=c)(c1:c<(n:Int)):Qb (JZ n) 0 c=zdo:=by
 unfold Qb;rw[HV 0 (Int.le_refl _) (by decide),if_pos rfl];exact OC _ _ c0 c1
theorem zpk:ZX (JZ n).groups:=by
 have g0:gi (JZ n).groups 0=P1 n (-1) ⟨[].toArray⟩:=by rw[HV 0 (Int.le_refl _) (by decide),if_pos rfl]
 have un:∀g:Int,1<=g->g<8->(gi (JZ n).groups g).used=true->False:=fun g a b h=>by
  rw[HV g (by omega) b,if_neg (by omega)] at h; cases h
 exact⟨zr3,by rw[g0]; rfl,by rw[g0]; rfl,by rw[g0]; rfl,fun g a b h=>(un g a b h).elim,fun g a b h=>(un g a b h).elim,fun g a b h=>(un g a b h).elim,fun g k a b d h=>(un g (by omega) d h).elim⟩
theorem zuy(n0:1<=n)(n1:n<=4):WA (JZ n):=by
 have hcl:(JZ n).cpus.length=n:=by simp[JZ]
 refine⟨Int.le_refl _,by show (0:Int)<=_; decide,by omega,by omega,by simp[JZ],zpk,BE (c:=0) (by omega) (Int.le_refl _) (by omega) (by rw[zr2 0 (Int.le_refl _) (by omega)]),fun k k0 k1=>?_⟩;unfold Md;rw[HV k k0 k1];split
 ·refine⟨fun h=>(by cases h),fun _=>⟨show (1:Int)<=10 by decide,show (10:Int)<=20 by decide,show P0 15=true by decide,show (15:Int)≠0 by decide,show ZA 0=true by decide,by simp[P1,hcl],fun _=>⟨rfl,rfl,rfl⟩,fun _=>⟨show TN ⟨0,0,0,[],[]⟩=true by decide,rfl,rfl⟩,fun h=>absurd rfl h⟩⟩
 ·exact⟨fun _=>⟨rfl,rfl,rfl,rfl,rfl,rfl,rfl,rfl,by decide⟩,fun h=>by cases h⟩
theorem zuf(n0:1<=n)(n1:n<=4):J5 (JZ n):=by
 have ha:=zuy n0 n1;have hcl:(JZ n).cpus.length=n:=by simp[JZ]
 have hmt:∀(k c:Int) (j:Nat),j<12->On (JZ n) k c j=false:=fun k c j hj=>by
  unfold On;rw[show gi (JZ n).tasks (j:Int)=Tm from zr4 (j:Int) (by omega) (by omega)];rfl
 have hmg:∀(k c:Int) (j:Nat),j<8->Jg (JZ n) k c j=false:=fun k c j hj=>by
  unfold Jg;rw[HV (j:Int) (by omega) (by omega)]
  by_cases h:(j:Int)=0
  ·rw[show decide (1<=j)=false from decide_eq_false (by omega)]; rfl
  ·rw[if_neg h];simp[zbz]
 refine⟨⟨ha,fun t t0 t1=>.inl ?_,fun k c k0 k1 c0 c1=>?_,fun c c0 c1=>?_⟩,fun k c hu c0 c1 hb=>?_⟩
 ·rw[zr4 t t0 t1]; exact⟨rfl,rfl⟩
 ·by_cases hk:k=0
  ·subst hk;rw[HV 0 k0 k1,if_pos rfl] at c1;have c1:c<(n:Int):=by simpa[P1] using c1
   have e:=zxc c c0 c1;refine⟨?_,?_,?_,?_,?_,fun _=>?_,fun h=>absurd rfl h,fun h=>absurd rfl h⟩ <;> rw[e]
   ·decide
   ·decide
   ·decide
   ·decide
   ·decide
   ·exact⟨rfl,rfl,rfl⟩
  ·rw[HV k k0 k1,if_neg hk] at c1;have c1:c<0:=c1;omega
 ·rw[hcl] at c1;have e:=zr2 c c0 c1;refine⟨by rw[e]; decide,by rw[e]; decide,by rw[e]; decide,by rw[e]; show (-1:Int)<((JZ n).tasks.length:Int); simp[JZ],fun _=>by rw[e],fun h=>?_⟩;rw[e] at h;have h:(0:Int)<=-1:=h;omega
 ·unfold ZK at hb;have hb:=Ot hb;rcases Zb (Ze (JZ n) k c) (Zf (JZ n) c) 20 with ⟨a,_⟩ | ⟨_,h2,h3,_⟩
  ·rw[a] at hb; omega
  ·exfalso
   have hlt:(QI (Ze (JZ n) k c) (Zf (JZ n) c) 20).toNat<20:=by omega
   generalize (QI (Ze (JZ n) k c) (Zf (JZ n) c) 20).toNat=j at h3 hlt
   by_cases hj:j<12
   ·rw[T5 hj,hmt k c j hj] at h3; cases h3
   ·rw[show j=12+(j-12) by omega,JW,hmg k c (j-12) (by omega)] at h3; cases h3
end
theorem zir{gs:List ZF}(ht:ZX gs):∀(f:Nat) (h:Int),Q6 gs h=true->dep 3 gs h<=(f:Int)->dep f gs h=dep 3 gs h
 | 0,h,hu,hd=>by
  by_cases hz:h=0
  ·subst hz; rw[Yk,Yk]
  ·obtain⟨_,_,_,d,e,_⟩:=ZY ht hu hz;omega
 | f+1,h,hu,hd=>by
  by_cases hz:h=0
  ·subst hz; rw[Yk,Yk]
  ·obtain⟨hp,_,_,d,e,e2,_⟩:=ZY ht hu hz;have ih:=zir ht f _ hp (by omega);show (if h=0 then 0 else if dep f gs (gi gs h).parent<0 then -1 else dep f gs (gi gs h).parent+1)=_;rw[if_neg hz,ih,e2,if_neg (by omega),e]
structure zfz (W:Q8) (a p:Int) (name:ByteArray):Prop where
 a1:1<=a
 a8:a<8
 fr:(gi W.groups a).used=false
 up:Q6 W.groups p=true
 nm:JY name=true
 no:∀h:Int,1<=h->h<8->(gi W.groups h).used=true->¬((gi W.groups h).parent=p/\(gi W.groups h).name=name)
 dp:dep 3 W.groups p≠3
def OT(W:Q8)(a p:Int)(name:ByteArray):Q8:=setGr W a (P1 W.cpus.length p name)
section
variable {W:Q8}{a p:Int}{name:ByteArray}
theorem BO(ha:WA W)(h:zfz W a p name){i:Int}(hi:0<=i):gi (OT W a p name).groups i=if a=i then P1 W.cpus.length p name else gi W.groups i:=Yt (by have:=h.a1; omega) (by have:=ha.gl; have:=h.a8; omega) hi
theorem zr1(h:zfz W a p name){k:Int}(hu:Q6 W.groups k=true):a≠k:=fun e=>by
 have:=(Q5.1 hu).2.2;rw[<-e,h.fr] at this;cases this
theorem HU(ha:WA W)(h:zfz W a p name){k:Int}(hu:Q6 W.groups k=true):gi (OT W a p name).groups k=gi W.groups k:=by
 rw[BO ha h (Q5.1 hu).1,if_neg (zr1 h hu)]
theorem LB(ha:WA W)(h:zfz W a p name):gi (OT W a p name).groups a=P1 W.cpus.length p name:=by
 rw[BO ha h (by have:=h.a1; omega),if_pos rfl]
theorem zhd(ha:WA W):(OT W a p name).groups.length=8:=by
 have:=ha.gl;simp[OT,setGr]; omega
theorem Ej(ha:WA W)(h:zfz W a p name){k:Int}:Q6 (OT W a p name).groups k=true↔Q6 W.groups k=true\/k=a:=by
 have hgl:=ha.gl;have a1:=h.a1;have a8:=h.a8;rw[Q5,Q5,zhd ha,hgl];constructor
 ·rintro⟨x,y,z⟩;rw[BO ha h x] at z
  by_cases e:a=k
  ·exact .inr e.symm
  ·rw[if_neg e] at z;exact .inl ⟨x,y,z⟩
 ·rintro (⟨x,y,z⟩ | rfl)
  ·refine⟨x,y,?_⟩;rw[BO ha h x,if_neg fun e=>by rw[<-e,h.fr] at z; cases z];exact z
  ·refine⟨by omega,by omega,?_⟩;rw[LB ha h]; rfl
theorem zlp(ha:WA W)(h:zfz W a p name):∀(f:Nat) (k:Int),Q6 W.groups k=true->dep f (OT W a p name).groups k=dep f W.groups k
 | 0,_,_=>rfl
 | f+1,k,hu=>by
  by_cases hz:k=0
  ·subst hz; rw[Yk,Yk]
  ·have ih:=zlp ha h f _ (ZY ha.tree hu hz).1;simp only[dep];rw[HU ha h hu,ih]
theorem zhf(ha:WA W)(h:zfz W a p name):∀(f:Nat) (k:Int),Q6 W.groups k=true->Um f (OT W a p name).groups k=Um f W.groups k
 | 0,_,_=>rfl
 | f+1,k,hu=>by
  by_cases hz:k=0
  ·subst hz; rw[Za,Za]
  ·have ih:=zhf ha h f _ (ZY ha.tree hu hz).1;simp only[Um];rw[HU ha h hu,ih]
theorem zyf(ha:WA W)(h:zfz W a p name):dep 3 (OT W a p name).groups a=dep 3 W.groups p+1/\0<=dep 3 W.groups p:=by
 have hr:=Lb ha h.up;have hd:=h.dp;have e:=zir ha.tree 2 p h.up (by omega);refine⟨?_,hr.1⟩;show (if a=0 then 0 else if dep 2 (OT W a p name).groups (gi (OT W a p name).groups a).parent<0 then -1 else dep 2 (OT W a p name).groups (gi (OT W a p name).groups a).parent+1)=_;rw[if_neg (by have:=h.a1; omega),LB ha h];show (if dep 2 (OT W a p name).groups p<0 then -1 else dep 2 (OT W a p name).groups p+1)=_;rw[zlp ha h 2 p h.up,e,if_neg (by omega)]
theorem zuw(ha:WA W)(h:zfz W a p name):ZX (OT W a p name).groups:=by
 have ht:=ha.tree;have hgl:=ha.gl;have a1:=h.a1;have r:=HU ha h ha.root
 have sp:∀{g:Int},1<=g->g<8->(gi (OT W a p name).groups g).used=true->g=a\/(Q6 W.groups g=true/\gi (OT W a p name).groups g=gi W.groups g):=fun {g} b d hh=>by
  rcases (Ej ha h).1 (Q5.2 ⟨by omega,by rw[zhd ha]; omega,hh⟩) with e | e
  ·exact .inr ⟨e,HU ha h e⟩
  ·exact .inl e
 refine⟨zhd ha,by rw[r]; exact ht.ru,by rw[r]; exact ht.rp,by rw[r]; exact ht.rn,fun g b d hh=>?_,fun g b d hh=>?_,fun g b d hh=>?_,fun g k b d e hg hk=>?_⟩
 ·rcases sp b d hh with rfl | ⟨hu,e⟩
  ·rw[LB ha h]; exact h.nm
  ·rw[e] at hh ⊢; exact ht.nm g b d hh
 ·rcases sp b d hh with rfl | ⟨hu,e⟩
  ·rw[LB ha h]; exact(Ej ha h).2 (.inl h.up)
  ·rw[e] at hh ⊢; exact(Ej ha h).2 (.inl (ht.par g b d hh))
 ·rcases sp b d hh with rfl | ⟨hu,e⟩
  ·have:=zyf ha h; omega
  ·rw[zlp ha h 3 g hu]; exact ht.dp g b d (Q5.1 hu).2.2
 ·rintro⟨q1,q2⟩;rcases sp (by omega) e hg with hga | ⟨hu,eg⟩
  ·rcases sp b (by omega) hk with hka | ⟨hu2,ek⟩
   ·omega
   ·rw[hga,LB ha h,ek] at q1 q2;exact h.no k b (by omega) (Q5.1 hu2).2.2 ⟨q1,q2⟩
  ·rcases sp b (by omega) hk with hka | ⟨hu2,ek⟩
   ·rw[hka,LB ha h,eg] at q1 q2;exact h.no g (by omega) e (Q5.1 hu).2.2 ⟨q1.symm,q2.symm⟩
   ·rw[eg,ek] at q1 q2;exact ht.uniq g k b d e (Q5.1 hu).2.2 (Q5.1 hu2).2.2 ⟨q1,q2⟩
end
section
variable {W:Q8}{a p:Int}{name:ByteArray}
theorem Ke(ha:WA W)(h:zfz W a p name){k c:Int}(hu:Q6 W.groups k=true):Qb (OT W a p name) k c=Qb W k c:=by
 unfold Qb;rw[HU ha h hu]
theorem znp(ha:WA W)(h:zfz W a p name){c:Int}(c0:0<=c)(c1:c<(W.cpus.length:Int)):Qb (OT W a p name) a c=zdo:=by
 unfold Qb;rw[LB ha h];exact OC _ _ c0 c1
theorem zno(ha:WA W)(h:zfz W a p name){k c:Int}(c0:0<=c)(c1:c<(W.cpus.length:Int))(j:Nat)(hj:j<8):Jg (OT W a p name) k c j=Jg W k c j:=by
 have a1:=h.a1;unfold Jg
 by_cases e:a=(j:Int)
 ·rw[<-e,znp ha h c0 c1,h.fr];show (_&&_&&zdo.on)=_;simp[zdo]
 ·rw[BO ha h (by omega),if_neg e]
  have:Qb (OT W a p name) (j:Int) c=Qb W (j:Int) c:=by
   unfold Qb;rw[BO ha h (by omega),if_neg e]
  rw[this]
theorem zr0(ha:WA W)(h:zfz W a p name){k c:Int}(c0:0<=c)(c1:c<(W.cpus.length:Int)):QO (OT W a p name) k c=QO W k c:=by
 unfold QO;rw[show Tg (On (OT W a p name) k c) (OT W a p name).tasks.length=Tg (On W k c) W.tasks.length from rfl,zhd ha,ha.gl];rw[My fun j hj=>zno ha h c0 c1 j hj]
theorem zhe(wp:YW W)(h:zfz W a p name){c:Int}(j:Nat)(hj:j<20):Ze W a c j=false:=by
 by_cases hj12:j<12
 ·rw[T5 hj12];unfold On;rcases wp.t (j:Int) (by omega) (by omega) with hz | ⟨_,hx⟩
  ·have:(gi W.tasks (j:Int)).state=0:=hz.1;rw[this]; rfl
  ·have hg:(gi W.tasks (j:Int)).group≠a:=fun e=>zr1 h hx.g e.symm
   rw[show ((gi W.tasks (j:Int)).group==a)=false by simpa using hg];simp
 ·rw[show j=12+(j-12) by omega,JW];unfold Jg
  cases hu:(gi W.groups ((j-12:Nat):Int)).used with
  | false=>simp
  | true=>
   have hl:=wp.a.gl;have huu:Q6 W.groups ((j-12:Nat):Int)=true:=Q5.2 ⟨by omega,by omega,hu⟩
   by_cases h1:1<=j-12
   ·have hpu:=(ZY wp.a.tree huu (by omega)).1;have hg:(gi W.groups ((j-12:Nat):Int)).parent≠a:=fun e=>zr1 h hpu e.symm
    rw[show ((gi W.groups ((j-12:Nat):Int)).parent==a)=false by simpa using hg];simp
   ·rw[show decide (1<=j-12)=false from decide_eq_false h1]; simp
theorem Mz{p:Nat->Bool}:∀{n:Nat},(∀j,j<n->p j=false)->Tg p n=false
 | 0,_=>rfl
 | n+1,h=>by simp only[Tg]; rw[Mz fun j hj=>h j (by omega),h n (by omega)]; rfl
theorem zuv(wp:YW W)(h:zfz W a p name){c:Int}:QO W a c=false:=by
 have hl:=wp.a.gl;have ht:=wp.a.t;unfold QO;rw[Mz fun j hj=>by have:=zhe wp h (c:=c) j (by omega); rwa[T5 (by omega)] at this,Mz fun j hj=>by have:=zhe wp h (c:=c) (12+j) (by omega); rwa[JW] at this];rfl
theorem Fz{α β:Type}{f g:β->α->β}:∀(l:List α) (s:β),(∀(s:β) (x:α),x∈l->f s x=g s x)->l.foldl f s=l.foldl g s
 | [],_,_=>rfl
 | y::l,s,hl=>by
  rw[List.foldl_cons,List.foldl_cons,hl s y List.mem_cons_self];exact Fz l _ fun s x hx=>hl s x (List.mem_cons_of_mem _ hx)
theorem zw8(ha:WA W)(h:zfz W a p name){k:Int}(hu:Q6 W.groups k=true)(u:Int):VB (OT W a p name).groups k u=VB W.groups k u:=by
 have e:QX (OT W a p name).groups k=QX W.groups k:=zhf ha h 3 k hu;unfold VB;rw[e];refine Fz _ _ fun s x hx=>?_
 have hxu:Q6 W.groups x=true:=by
  rcases List.mem_append.1 hx with hx | hx
  ·exact(YB ha.tree k hu x hx).1
  ·rw[List.mem_singleton.1 hx]; exact ha.root
 rw[HU ha h hxu]
theorem zta{W W':Q8}(e:W'.cpus=W.cpus){k:Int}(hp:∀u:Int,VB W'.groups k u=VB W.groups k u)(m:Int):Qp W' k m=Qp W k m:=by
 unfold Qp;rw[e,hp]
theorem zyg(ha:WA W)(h:zfz W a p name){k:Int}(hu:Q6 W.groups k=true)(m:Int):Qp (OT W a p name) k m=Qp W k m:=zta (W:=W) (W':=OT W a p name) rfl (zw8 ha h hu) m
theorem zrg(iv:J5 W)(h:zfz W a p name):J5 (OT W a p name):=by
 have wp:=iv.wp;have ha:=wp.a;have a1:=h.a1;have a8:=h.a8;have hgl:=ha.gl;have hpu:∀{k:Int},Q6 W.groups k=true->k≠0->Q6 W.groups (gi W.groups k).parent=true:=fun hu hz=>(ZY ha.tree hu hz).1
 have hA:WA (OT W a p name):=by
  refine⟨ha.n1,ha.n2,ha.c1,ha.c2,ha.t,zuw ha h,ha.ups,fun k k0 k1=>?_⟩;unfold Md;rw[BO ha h k0];split
  ·refine⟨fun hh=>(by cases hh),fun _=>⟨show (1:Int)<=10 by decide,show (10:Int)<=20 by decide,show P0 15=true by decide,show (15:Int)≠0 by decide,show ZA 0=true by decide,by simp[P1]; rfl,fun _=>⟨rfl,rfl,rfl⟩,fun _=>⟨show TN ⟨0,0,0,[],[]⟩=true by decide,rfl,rfl⟩,fun hh=>absurd rfl hh⟩⟩
  ·have:=ha.grp k k0 k1;exact⟨this.1,fun hu=>by have:=this.2 hu; exact⟨this.w1,this.w2,this.m,this.m0,this.s,this.len,this.root,this.none,this.band⟩⟩
 refine⟨⟨hA,fun t t0 t1=>?_,fun k c k0 k1 c0 c1=>?_,fun c c0 c1=>?_⟩,fun k c hu c0 c1 hb=>?_⟩
 ·rcases wp.t t t0 t1 with hz | ⟨n,hx⟩
  ·exact .inl hz
  ·refine .inr ⟨n,hx.st,(Ej ha h).2 (.inl hx.g),hx.n,hx.m,hx.m0,hx.v,hx.s,hx.u,hx.l1,hx.l2,?_,fun hs=>?_⟩
   ·rw[show (Q7 (OT W a p name) t)=Q7 W t from rfl,zyg ha h hx.g]; exact hx.c
   ·rw[show (Q7 (OT W a p name) t)=Q7 W t from rfl,Ke ha h hx.g]; exact hx.f hs
 ·by_cases e:a=k
  ·subst e;rw[LB ha h] at c1;have c1:c<(W.cpus.length:Int):=by simpa[P1] using c1
   have es:=znp ha h c0 c1;refine⟨by rw[es]; decide,by rw[es]; decide,by rw[es]; decide,by rw[es]; decide,by rw[es]; decide,fun hz=>by omega,fun _=>?_,fun _ ho=>?_⟩
   ·rw[es,zr0 ha h c0 c1,zuv wp h]; rfl
   ·rw[es] at ho; cases ho
  ·have hg:gi (OT W a p name).groups k=gi W.groups k:=by rw[BO ha h k0,if_neg e]
   rw[hg] at c1
   have hu:Q6 W.groups k=true:=by
    cases hh:(gi W.groups k).used with
    | true=>exact Q5.2 ⟨k0,by omega,hh⟩
    | false=>
     have:=((ha.grp k k0 k1).1 hh).l;omega
   have cl:c<(W.cpus.length:Int):=by rw[<-ha.sl hu]; exact c1
   have hs:=wp.s k c k0 k1 c0 c1;have es:=Ke ha h (c:=c) hu;refine⟨by rw[es]; exact hs.f,by rw[es]; exact hs.v,by rw[es]; exact hs.s,by rw[es]; exact hs.w1,by rw[es]; exact hs.w2,fun hz=>by rw[es]; exact hs.root hz,fun hz=>?_,fun hz ho=>?_⟩
   ·rw[es,zr0 ha h c0 cl,show UB (OT W a p name) k c=UB W k c by unfold UB; rw[hg]];exact hs.on hz
   ·rw[es] at ho;rw[es,hg,Ke ha h (hpu hu hz)];exact hs.st hz ho
 ·have hc:=wp.c c c0 c1;refine⟨hc.b,hc.i,hc.c1,hc.c2,hc.no,fun h0=>?_⟩;have h0:0<=(gi W.cpus c).cur:=h0;obtain⟨y1,y2,y3,y4,y5,y6⟩:=hc.yes h0;have hl:=ha.t
  have hgu:Q6 W.groups (Q7 W (gi W.cpus c).cur).group=true:=by
   have hc2:=hc.c2;rcases wp.t _ h0 (by omega) with hz | ⟨_,hx⟩
   ·unfold Z9 at y5;rw[hz.1] at y5;simp at y5
   ·exact hx.g
  have hpt:QX (OT W a p name).groups (Q7 W (gi W.cpus c).cur).group=QX W.groups (Q7 W (gi W.cpus c).cur).group:=zhf ha h 3 _ hgu;refine⟨y1,y2,y3,y4,?_,?_⟩
  ·unfold Z9 UF at y5 ⊢;rw[show (gi (OT W a p name).cpus c).cur=(gi W.cpus c).cur from rfl,show Q7 (OT W a p name) (gi W.cpus c).cur=Q7 W (gi W.cpus c).cur from rfl,hpt];rw[Bool.and_eq_true,List.all_eq_true] at y5 ⊢;exact⟨y5.1,fun x hx=>by rw[Ke ha h (YB ha.tree _ hgu x hx).1]; exact y5.2 x hx⟩
  ·unfold PJ Tl at y6 ⊢;rw[show (gi (OT W a p name).cpus c).cur=(gi W.cpus c).cur from rfl,show (gi (OT W a p name).cpus c).ran=(gi W.cpus c).ran from rfl,show Q7 (OT W a p name) (gi W.cpus c).cur=Q7 W (gi W.cpus c).cur from rfl,hpt,Ke ha h hgu];rw[Bool.and_eq_true,List.all_eq_true] at y6 ⊢;refine⟨y6.1,fun x hx=>?_⟩;obtain⟨xu,xz⟩:=YB ha.tree _ hgu x hx;rw[Ke ha h xu,HU ha h xu,Ke ha h (hpu xu xz)];exact y6.2 x hx
 ·have cl:c<(W.cpus.length:Int):=c1
  have hmem:∀j,j<20->Ze (OT W a p name) k c j=Ze W k c j:=fun j hj=>by
   by_cases hj12:j<12
   ·rw[T5 hj12,T5 hj12]; rfl
   ·rw[show j=12+(j-12) by omega,JW,JW,zno ha h c0 cl (j-12) (by omega)]
  rcases (Ej ha h).1 hu with hk | rfl
  ·have hv:∀j,j<20->Ze (OT W a p name) k c j=true->Zf (OT W a p name) c j=Zf W c j:=fun j hj hm=>by
    unfold Zf;split
    ·rfl
    ·rename_i hj12;rw[hmem j hj,show j=12+(j-12) by omega,JW] at hm;unfold Jg at hm;simp only[Bool.and_eq_true] at hm;rw[Ke ha h (Q5.2 ⟨by omega,by omega,hm.1.2.1⟩)]
   have e:QI (Ze (OT W a p name) k c) (Zf (OT W a p name) c) 20=QI (Ze W k c) (Zf W c) 20:=M6 hmem hv;have hfl:=iv.fl k c hk c0 cl (by unfold ZK at hb ⊢; rwa[e] at hb);rw[Ke ha h hk];refine Int.le_trans (Int.le_of_eq ?_) hfl;unfold ZK at hb;have hb:=Ot hb;rw[e] at hb;unfold Z7;rw[e,if_neg (by omega),if_neg (by omega)];rcases Zb (Ze W k c) (Zf W c) 20 with ⟨q,_⟩ | ⟨_,q2,q3,_⟩
   ·omega
   ·have hlt:(QI (Ze W k c) (Zf W c) 20).toNat<20:=by omega
    exact hv _ hlt (by rw[hmem _ hlt]; exact q3)
  ·exfalso
   unfold ZK at hb;have hb:=Ot hb;rcases Zb (Ze (OT W k p name) k c) (Zf (OT W k p name) c) 20 with ⟨q,_⟩ | ⟨_,q2,q3,_⟩
   ·omega
   ·rw[hmem _ (by omega),zhe wp h _ (by omega)] at q3;cases q3
end
theorem zru{W:Q8}(ha:WA W){k c d:Int}(hu:Q6 W.groups k=true)(hd:dep 3 W.groups k=d)(d1:1<=d)(c0:0<=c)(c1:c<(W.cpus.length:Int)) :
  WA (setSh W k c (Yx W k c))/\VA (setSh W k c (Yx W k c)) c k/\∀g:Int,Q6 W.groups g=true->g≠k->(gi W.groups k).parent≠g->VA W c g->VA (setSh W k c (Yx W k c)) c g:=by
 have hz:k≠0:=fun e=>by subst e; rw[Yk] at hd; omega
 obtain⟨u0,u1,_⟩:=Q5.1 hu;have hl:=ha.gl;have hsl:=ha.sl hu;have c1':c<((gi W.groups k).shelves.length:Int):=by omega
 have hpk:(gi W.groups k).parent≠k:=fun e=>by
  obtain⟨_,_,_,n,e1,e2,_⟩:=ZY ha.tree hu hz;rw[e] at e2; omega
 have e:∀{i j:Int},0<=i->0<=j->Qb (setSh W k c (Yx W k c)) i j=if k=i/\c=j then Yx W k c else Qb W i j:=fun hi hj=>Jv u0 u1 c0 c1' hi hj
 have hT:=XI (W:=W) (g:=k) (c:=c) (s:=Yx W k c) u0 u1
 have act:∀g:Int,(gi W.groups k).parent≠g->QO (setSh W k c (Yx W k c)) g c=QO W g c:=fun g hg=>by
  refine O6 (W:=W) (W':=setSh W k c (Yx W k c)) rfl hT fun j hj _ _ hp=>?_
  rw[e (by omega) c0,if_neg];rintro⟨h,_⟩;exact hg (by rw[h]; exact hp)
 refine⟨ha.setSh u0 (by omega),?_,fun g gu gk hg h=>?_⟩
 ·unfold VA;rw[e u0 c0,if_pos ⟨rfl,rfl⟩,act k hpk,Gb u0 u1 u0];rfl
 ·unfold VA;have g0:=(Q5.1 gu).1;rw[e g0 c0,if_neg fun h=>gk h.1.symm,act g hg,Gb u0 u1 g0];exact h
theorem zjl{W:Q8}(ha:WA W){c d:Int}(d1:1<=d)(c0:0<=c)(c1:c<(W.cpus.length:Int))(hI:∀g:Int,Q6 W.groups g=true->d<dep 3 W.groups g->VA W c g):∀k:Nat,k<=8->
  WA (ZU W c d k)/\JL W (ZU W c d k)/\∀g:Int,Q6 W.groups g=true->d<dep 3 W.groups g\/dep 3 W.groups g=d/\g<(k:Int)->VA (ZU W c d k) c g
 | 0,_=>⟨ha,JL.refl _,fun g gu h=>hI g gu (by
   rcases h with h | h
   ·exact h
   ·have:=(Q5.1 gu).1;have:=h.2;omega)⟩
 | k+1,hk=>by
  obtain⟨a,b,ih⟩:=zjl ha d1 c0 c1 hI k (by omega);have hl:=a.gl;have hT:=b.g;simp only[ZU];split
  ·rename_i hc;have hu:Q6 (ZU W c d k).groups (k:Int)=true:=Q5.2 ⟨by omega,by omega,hc.1⟩;obtain⟨l1,l3,l4⟩:=zru a hu hc.2 d1 c0 (c:=c) (by rw[b.c]; exact c1);refine⟨l1,b.trans (MT (by omega) (by omega)),fun g gu h=>?_⟩
   by_cases e:g=(k:Int)
   ·subst e; exact l3
   ·have hkz:(k:Int)≠0:=fun e=>by have:=hc.2; rw[e,Yk] at this; omega
    obtain⟨_,_,_,n,e1,e2,_⟩:=ZY a.tree hu hkz;refine l4 g (by rw[hT.usd]; exact gu) e (fun hp=>?_) (ih g gu ?_)
    ·rw[hp,hT.dep] at e2;have:=hc.2;omega
    ·rcases h with h | h
     ·exact .inl h
     ·exact .inr ⟨h.1,by have:=h.2; omega⟩
  ·rename_i hc;refine⟨a,b,fun g gu h=>ih g gu ?_⟩;rcases h with h | h
   ·exact .inl h
   ·refine .inr ⟨h.1,?_⟩
    by_cases e:g=(k:Int)
    ·subst e;exact absurd ⟨by rw[hT.u]; exact(Q5.1 gu).2.2,by rw[hT.dep]; exact h.1⟩ hc
    ·have:=h.2;omega
theorem zpe{W:Q8}(ha:WA W){c:Int}(c0:0<=c)(c1:c<(W.cpus.length:Int)):WA (QJ W c)/\JL W (QJ W c)/\∀g:Int,Q6 W.groups g=true->g≠0->VA (QJ W c) c g:=by
 have key:∀j:Nat,j<=3->WA (XX W c j)/\JL W (XX W c j)/\∀g:Int,Q6 W.groups g=true->3-(j:Int)<dep 3 W.groups g->VA (XX W c j) c g:=by
  intro j
  induction j with
  | zero=>exact fun _=>⟨ha,JL.refl _,fun g gu h=>by have:=(Lb ha gu).2; omega⟩
  | succ j ih=>
   intro hj;obtain⟨a,b,h⟩:=ih (by omega);have hT:=b.g;obtain⟨a2,b2,h2⟩:=zjl a (c:=c) (d:=3-(j:Int)) (by omega) c0 (by rw[b.c]; exact c1) (fun g gu hd=>h g (by rwa[hT.usd] at gu) (by rwa[hT.dep] at hd)) 8 (Nat.le_refl _);refine⟨a2,b.trans b2,fun g gu hd=>h2 g (by rw[hT.usd]; exact gu) ?_⟩;rw[hT.dep];have:=(Q5.1 gu).2.1;have:=ha.gl
   by_cases e:dep 3 W.groups g=3-(j:Int)
   ·exact .inr ⟨e,by omega⟩
   ·exact .inl (by omega)
 obtain⟨a,b,h⟩:=key 3 (Nat.le_refl _);refine⟨a,b,fun g gu gz=>h g gu ?_⟩;obtain⟨_,_,_,n,e1,_⟩:=ZY ha.tree gu gz;omega
theorem ze9{W:Q8}(ha:WA W){c d:Int}(d1:1<=d)(c0:0<=c)(c1:c<(W.cpus.length:Int)):∀k:Nat,k<=8->ES c W (ZU W c d k)/\WA (ZU W c d k)
 | 0,_=>⟨ES.refl _ _,ha⟩
 | k+1,hk=>by
  obtain⟨o,a⟩:=ze9 ha d1 c0 c1 k (by omega);have hl:=a.gl;simp only[ZU];split
  ·rename_i hc;have hu:Q6 (ZU W c d k).groups (k:Int)=true:=Q5.2 ⟨by omega,by omega,hc.1⟩;exact⟨o.trans (B7 (by omega) (by omega) c0 (by rw[a.sl hu,o.len]; exact c1)),a.setSh (by omega) (by omega)⟩
  ·exact⟨o,a⟩
theorem zls{W:Q8}(ha:WA W){c:Int}(c0:0<=c)(c1:c<(W.cpus.length:Int)):ES c W (QJ W c):=by
 have key:∀j:Nat,j<=3->ES c W (XX W c j)/\WA (XX W c j):=by
  intro j
  induction j with
  | zero=>exact fun _=>⟨ES.refl _ _,ha⟩
  | succ j ih=>
   intro hj;obtain⟨o,a⟩:=ih (by omega);obtain⟨o2,a2⟩:=ze9 a (c:=c) (d:=3-(j:Int)) (by omega) c0 (by rw[o.len]; exact c1) 8 (Nat.le_refl _);exact⟨o.trans o2,a2⟩
 exact(key 3 (Nat.le_refl _)).1
structure Dm (W:Q8) (c:Int):Prop where
 on:∀k:Int,Q6 W.groups k=true->k≠0->VA W c k
 cu:0<=(gi W.cpus c).cur->(Q7 W (gi W.cpus c).cur).cpu=c/\Z9 W (gi W.cpus c).cur=true
theorem zx7{W:Q8}(wp:YW W){c:Int}(c0:0<=c)(c1:c<(W.cpus.length:Int)):Dm W c:=
 ⟨fun k hu hz=>(D7 wp hu c0 c1).on hz,fun h=>⟨((wp.c c c0 c1).yes h).2.2.2.1,((wp.c c c0 c1).yes h).2.2.2.2.1⟩⟩
theorem Dm.oth{K:Int}{c d:Int}{W W':Q8}(h:Dm W d)(sw:SW K W)(o:ES c W W')(d0:0<=d)(d1:d<(W.cpus.length:Int))(hd:d≠c):Dm W' d:=by
 refine⟨fun k hu hz=>?_,fun h0=>?_⟩
 ·rw[o.g.usd] at hu;have k0:=(Q5.1 hu).1;have:=h.on k hu hz;unfold VA at this ⊢;rw[o.e k d k0 d0 hd,o.active d0 hd,zgn (o.b k k0)];exact this
 ·rw[o.cp d d0 hd] at h0 ⊢;rw[J1 o.t];obtain⟨h1,h2⟩:=h.cu h0;refine⟨h1,?_⟩
  have hs:(Q7 W (gi W.cpus d).cur).state=1:=by
   unfold Z9 at h2;rw[Bool.and_eq_true] at h2;exact eq_of_beq h2.1
  have hu:=(sw.t _ h0 (sw.cu d d0 d1).2 (by rw[hs]; decide)).1;rw[o.line sw.a.tree hu (by rw[h1]; exact d0) (by rw[h1]; exact hd)];exact h2
theorem zkd{K:Int}{W:Q8}(sw:SW K W){c:Int}(c0:0<=c)(c1:c<(W.cpus.length:Int)):ES c W (T9 W c)/\Dm (T9 W c) c:=by
 obtain⟨p1,os,hon⟩:=zpe sw.a c0 c1;have ol:=zls sw.a c0 c1;obtain⟨f,hA,_⟩:=Fx p1 c0 (c:=c) (by rw[os.c]; exact c1) 8 (Nat.le_refl _);have f:FC c (QJ W c) (Zm (QJ W c) c):=f;have hon:∀g:Int,Q6 (QJ W c).groups g=true->g≠0->VA (QJ W c) c g:=fun g gu gz=>hon g (by rwa[os.g.usd] at gu) gz
 have hdef:T9 W c=if Kq (Zm (QJ W c) c) c=true then endW (Zm (QJ W c) c) c else Zm (QJ W c) c:=rfl;have hO:ES c W (Zm (QJ W c) c):=ol.trans f.o;have hFc:(Zm (QJ W c) c).cpus.length=W.cpus.length:=hO.len;have hT:=f.o.g
 have honF:∀k:Int,Q6 (Zm (QJ W c) c).groups k=true->k≠0->VA (Zm (QJ W c) c) c k:=fun k hu hz=>by
  rw[hT.usd] at hu;have k0:=(Q5.1 hu).1;have:=hon k hu hz;unfold VA at this ⊢;rw[f.on k c k0 c0,O6 f.o.t hT fun j _ _ _ _=>f.on _ c (by omega) c0,zgn (f.o.b k k0)];exact this
 rw[hdef];clear hdef;generalize Zm (QJ W c) c=F at honF hO hFc;have cF:c<(F.cpus.length:Int):=by rw[hFc]; exact c1
 split
 ·refine⟨hO.trans (zjq c0 cF),honF,fun h0=>?_⟩;rw[show gi (endW F c).cpus c=XK (gi F.cpus c) from (QA _ _ c0 cF c0).trans (if_pos rfl)] at h0;have h0:(0:Int)<=-1:=h0;omega
 ·rename_i hg;have hg:Kq F c=false:=by simpa using hg
  refine⟨hO,honF,fun h0=>?_⟩;unfold Kq at hg;rw[decide_eq_true h0,Bool.true_and,Bool.or_eq_false_iff] at hg;exact⟨by simpa using hg.1,by simpa using hg.2⟩
theorem zkb{K:Int}{W:Q8}(sw:SW K W)(hK:0<=K):∀c:Nat,c<=W.cpus.length->∀d:Int,0<=d->d<(c:Int)->Dm (U2 W c) d
 | 0,_=>fun d a b=>by omega
 | c+1,hc=>fun d d0 d1=>by
  obtain⟨s1,f1⟩:=LS sw hK c (by omega);obtain⟨o,dm⟩:=zkd s1 (c:=(c:Int)) (by omega) (by rw[f1.c]; omega)
  by_cases h:d=(c:Int)
  ·subst h; exact dm
  ·exact(zkb sw hK c (by omega) d d0 (by omega)).oth s1 o d0 (by rw[f1.c]; omega) h
theorem zpz{K:Int}{W:Q8}(sw:SW K W)(hK:0<=K){d:Int}(d0:0<=d)(d1:d<(W.cpus.length:Int)):Dm (Qg W) d:=by
 obtain⟨s1,o1⟩:=P4 (F:=K) (K:=K+Ql) (sw.sf.mono (Int.le_refl _) (by simp only[Ql]; omega)) (Int.le_refl _) W.cpus.length (Nat.le_refl _);obtain⟨s2,b2⟩:=Od s1 8 (Nat.le_refl _);exact zkb s2.w (by simp only[Ql]; omega) W.cpus.length (by show W.cpus.length<=(X1 (YP W W.cpus.length) 8).cpus.length; rw[b2.c,o1.c]; exact Nat.le_refl _) d d0 d1
structure zms (W:Q8) (t c:Int):Prop where
 t0:0<=t
 t1:t<12
 st:(Q7 W t).state=1
 cpu:(Q7 W t).cpu=c
 on:∀x∈QX W.groups (Q7 W t).group,(Qb W x c).on=true
theorem zpl{W:Q8}(ha:WA W){c:Int}(f:Nat):∀g:Int,Q6 W.groups g=true->(4-dep 3 W.groups g).toNat=f->(∀x∈QX W.groups g,(Qb W x c).on=true)->0<=MR W g c->zms W (MR W g c) c:=by
 induction f with
 | zero=>
  intro g hu hf;have:=Lb ha hu;omega
 | succ f ih=>
  intro g hu hf hp h;rw[B5 ha hu] at h ⊢
  by_cases h1:QF W g c<0
  ·rw[if_pos h1] at h; omega
  ·rw[if_neg h1] at h ⊢
   by_cases h2:QF W g c<12
   ·rw[if_pos h2] at h ⊢
    have hm:Ze W g c (QF W g c).toNat=true:=by
     rcases Zb (Ze W g c) (Zf W c) 20 with ⟨a,_⟩ | ⟨_,_,a,_⟩
     ·unfold QF at h1; omega
     ·exact a
    rw[T5 (by omega)] at hm;unfold On at hm;rw[show (((QF W g c).toNat:Nat):Int)=QF W g c by omega] at hm;simp only[Bool.and_eq_true,beq_iff_eq] at hm;refine⟨h,h2,hm.1.1,hm.2,?_⟩;rw[show (Q7 W (QF W g c)).group=g from hm.1.2];exact hp
   ·rw[if_neg h2] at h ⊢;obtain⟨k1,k2,k3,k4⟩:=Gd ha hu (g:=g) (c:=c) (by omega)
    have hm:Ze W g c (QF W g c).toNat=true:=by
     rcases Zb (Ze W g c) (Zf W c) 20 with ⟨a,_⟩ | ⟨_,_,a,_⟩
     ·unfold QF at h1; omega
     ·exact a
    rw[show (QF W g c).toNat=12+(QF W g c-12).toNat by omega,JW] at hm;unfold Jg at hm;rw[show (((QF W g c-12).toNat:Nat):Int)=QF W g c-12 by omega] at hm;simp only[Bool.and_eq_true,beq_iff_eq] at hm;refine ih _ k1 (by omega) (fun x hx=>?_) h;rw[Ys ha.tree k1 k2] at hx;rcases List.mem_cons.1 hx with e | e
    ·rw[e]; exact hm.2
    ·rw[hm.1.2.2] at e; exact hp x e
theorem zpt{W:Q8}(ha:WA W){c:Int}(h12:(gi W.cpus c).cur<12)(hcu:0<=(gi W.cpus c).cur->(Q7 W (gi W.cpus c).cur).cpu=c/\Z9 W (gi W.cpus c).cur=true)(h:¬Qn W c<0):zms W (Qn W c) c:=by
 unfold Qn at h ⊢;split
 ·rename_i hc;obtain⟨h1,h2⟩:=hcu hc.1;unfold Z9 UF at h2;rw[Bool.and_eq_true,List.all_eq_true,h1] at h2;exact⟨hc.1,h12,eq_of_beq h2.1,h1,h2.2⟩
 ·rename_i hc;rw[if_neg hc] at h;exact zpl ha _ 0 ha.root rfl (fun x hx=>by rw[show QX W.groups 0=[] from Za _ _] at hx; cases hx) (by omega)
structure Tf (W W':Q8):Prop where
 n:W'.now=W.now
 t:W'.tasks=W.tasks
 s:∀i d:Int,(Qb W' i d).sum=(Qb W i d).sum
 g:∀i:Int,(gi W'.groups i).sum=(gi W.groups i).sum
 b:∀i:Int,(gi W'.cpus i).busy=(gi W.cpus i).busy
 i:∀i:Int,(gi W'.cpus i).idle=(gi W.cpus i).idle
 u:∀i:Int,(gi W'.cpus i).up=(gi W.cpus i).up
 r:∀i:Int,(gi W'.cpus i).ran=(gi W.cpus i).ran\/(gi W'.cpus i).ran=0
theorem Tf.refl(W:Q8):Tf W W:=⟨rfl,rfl,fun _ _=>rfl,fun _=>rfl,fun _=>rfl,fun _=>rfl,fun _=>rfl,fun _=>.inl rfl⟩
theorem Tf.trans{A B C:Q8}(h:Tf A B)(k:Tf B C):Tf A C:=
 ⟨k.n.trans h.n,k.t.trans h.t,fun i d=>(k.s i d).trans (h.s i d),fun i=>(k.g i).trans (h.g i),fun i=>(k.b i).trans (h.b i),fun i=>(k.i i).trans (h.i i),fun i=>(k.u i).trans (h.u i),fun i=>by
  rcases k.r i with e | e
  ·rcases h.r i with e2 | e2
   ·exact .inl (e.trans e2)
   ·exact .inr (e.trans e2)
  ·exact .inr e⟩
theorem zsz(W:Q8){g c:Int}{s:KE}(h:s.sum=(Qb W g c).sum):Tf W (setSh W g c s):=
 ⟨rfl,rfl,fun i d=>YH (f:=fun G:ZF=>(gi G.shelves d).sum) W.groups g (x:={ gi W.groups g with shelves:=(gi W.groups g).shelves.set c.toNat s }) (YH (f:=KE.sum) (gi W.groups g).shelves c h d) i,fun i=>YH (f:=ZF.sum) W.groups g (x:={ gi W.groups g with shelves:=(gi W.groups g).shelves.set c.toNat s }) rfl i,fun _=>rfl,fun _=>rfl,fun _=>rfl,fun _=>.inl rfl⟩
theorem zsy(W:Q8)(g:Int)(b:JH):Tf W (setBd W g b):=
 ⟨rfl,rfl,fun i d=>YH (f:=fun G:ZF=>(gi G.shelves d).sum) W.groups g (x:={ gi W.groups g with band:=b }) rfl i,fun i=>YH (f:=ZF.sum) W.groups g (x:={ gi W.groups g with band:=b }) rfl i,fun _=>rfl,fun _=>rfl,fun _=>rfl,fun _=>.inl rfl⟩
theorem zo3{α:Type}[Inhabited α](l:List α)(k:Int)(x:α)(i:Int):gi (l.set k.toNat x) i=gi l i\/gi (l.set k.toNat x) i=x:=by
 unfold gi;simp only[List.getD_eq_getElem?_getD,List.getElem?_set];split
 ·split
  ·exact .inr rfl
  ·rename_i e hl;refine .inl ?_;rw[show l[i.toNat]? = none from List.getElem?_eq_none_iff.2 (by omega)]
 ·exact .inl rfl
theorem zob(W:Q8)(c:Int):Tf W (endW W c):=
 ⟨rfl,rfl,fun _ _=>rfl,fun _=>rfl,fun i=>YH (f:=M0.busy) W.cpus c (x:=XK (gi W.cpus c)) rfl i,fun i=>YH (f:=M0.idle) W.cpus c (x:=XK (gi W.cpus c)) rfl i,fun i=>YH (f:=M0.up) W.cpus c (x:=XK (gi W.cpus c)) rfl i,fun i=>by
  rcases zo3 W.cpus c (XK (gi W.cpus c)) i with e | e
  ·exact .inl (by show (gi (W.cpus.set c.toNat (XK (gi W.cpus c))) i).ran=_; rw[e])
  ·exact .inr (by show (gi (W.cpus.set c.toNat (XK (gi W.cpus c))) i).ran=0; rw[e]; rfl)⟩
theorem BA(W:Q8)(c d:Int):∀k:Nat,Tf W (ZU W c d k)
 | 0=>Tf.refl _
 | k+1=>by
  simp only[ZU];split
  ·exact(BA W c d k).trans (zsz _ rfl)
  ·exact BA W c d k
theorem Dc(W:Q8)(c:Int):∀j:Nat,Tf W (XX W c j)
 | 0=>Tf.refl _
 | j+1=>(Dc W c j).trans (BA _ _ _ _)
theorem zbp(W:Q8):∀c:Nat,Tf W (YP W c)
 | 0=>Tf.refl _
 | c+1=>(zbp W c).trans (Dc (YP W c) (c:Int) 3)
theorem By(W:Q8)(k:Int):∀c:Nat,Tf W (YI W k c)
 | 0=>Tf.refl _
 | c+1=>by
  simp only[YI];split
  ·exact(By W k c).trans (zsy _ _ _)
  ·exact By W k c
theorem Bz(W:Q8):∀k:Nat,Tf W (X1 W k)
 | 0=>Tf.refl _
 | k+1=>by
  simp only[X1];split
  ·exact(Bz W k).trans (By _ _ _)
  ·exact Bz W k
theorem Db(W:Q8)(c:Int):∀k:Nat,Tf W (QZ W c k)
 | 0=>Tf.refl _
 | k+1=>by
  simp only[QZ];split
  ·exact(Db W c k).trans (zsz _ rfl)
  ·exact Db W c k
theorem zp3(W:Q8)(c:Int):Tf W (T9 W c):=by
 have h:=(Dc W c 3).trans (Db (QJ W c) c 8);unfold T9;split
 ·exact h.trans (zob _ _)
 ·exact h
theorem zfr(W:Q8):∀c:Nat,Tf W (U2 W c)
 | 0=>Tf.refl _
 | c+1=>(zfr W c).trans (zp3 (U2 W c) (c:Int))
theorem zmg(W:Q8):Tf W (Qg W):=((zbp W W.cpus.length).trans (Bz (YP W W.cpus.length) 8)).trans (zfr (H9 (YP W W.cpus.length)) W.cpus.length)
structure RB (S:Int) (W:Q8):Prop where
 n:W.now<=50000000000000000
 t:∀t:Int,0<=t->t<12->0<=(Q7 W t).sum/\(Q7 W t).sum<=S/\0<=(Q7 W t).used/\(Q7 W t).used<=S
 s:∀k c:Int,Q6 W.groups k=true->0<=c->c<(W.cpus.length:Int)->0<=(Qb W k c).sum/\(Qb W k c).sum<=S
 g:∀k:Int,Q6 W.groups k=true->0<=(gi W.groups k).sum/\(gi W.groups k).sum<=S
 c:∀c:Int,0<=c->c<(W.cpus.length:Int)->0<=(gi W.cpus c).busy/\(gi W.cpus c).busy<=S/\0<=(gi W.cpus c).idle/\(gi W.cpus c).idle<=50000000000000000/\0<=(gi W.cpus c).ran/\(gi W.cpus c).ran<=149
theorem RB.sum{S:Int}{W W':Q8}(h:RB S W)(k:Tf W W')(hT:QR W.groups W'.groups)(hl:W'.cpus.length=W.cpus.length):RB S W':=by
 refine⟨by rw[k.n]; exact h.n,fun t a b=>by rw[J1 k.t]; exact h.t t a b,fun i c u a b=>?_,fun i u=>?_,fun c a b=>?_⟩
 ·rw[hT.usd] at u;rw[hl] at b;rw[k.s]; exact h.s i c u a b
 ·rw[hT.usd] at u;rw[k.g]; exact h.g i u
 ·rw[hl] at b;have:=h.c c a b;rw[k.b,k.i];refine⟨this.1,this.2.1,this.2.2.1,this.2.2.2.1,?_⟩;rcases k.r c with e | e
  ·rw[e]; exact this.2.2.2.2
  ·rw[e]; exact⟨by omega,by omega⟩
theorem zym{W:Q8}(wp:YW W)(r:H3 W):RB Qq W:=by
 have hl:=wp.a.gl;have ht:=wp.a.t;refine⟨r.n,fun t a b=>?_,fun k c u a b=>?_,fun k u=>?_,fun c a b=>?_⟩
 ·have h:=r.t t a (by omega);rcases wp.t t a b with hz | ⟨_,hx⟩
  ·rw[hz.2]; decide
  ·exact⟨(Y3.1 hx.s).1,h.2.1,(Y3.1 hx.u).1,h.2.2⟩
 ·obtain⟨u0,u1,_⟩:=Q5.1 u;have hs:=wp.a.sl u;exact⟨(Y3.1 (D7 wp u a b).s).1,(r.s k c u0 u1 a (by omega)).2.2⟩
 ·obtain⟨u0,u1,hg⟩:=wp.a.u u;exact⟨(Y3.1 hg.s).1,r.g k u0 (by omega)⟩
 ·have hc:=wp.c c a b;have hr:=r.c c a b;refine⟨(Y3.1 hc.b).1,hr.1,(Y3.1 hc.i).1,hr.2,?_⟩
  by_cases h:(gi W.cpus c).cur<0
  ·rw[hc.no h]; decide
  ·have:=hc.yes (by omega); omega
theorem zkf{b:JH}(h:Tc b){c:Int}(c0:0<=c)(c1:c<(b.locals.length:Int)):Tc (YL b c).1/\(YL b c).1.locals.length=b.locals.length/\(YL b c).1.quota=b.quota:=by
 unfold YL;split
 ·exact⟨h,rfl,rfl⟩
 ·rename_i hn;have hm:=zhc h.p1;have he:=h.each c c0 c1;have hs:=LU b.locals c (Y2 20 b.pool) c0 c1 b.locals.length;rw[if_pos c1] at hs;have p2:=h.p2;have su:=h.sum;have dl:=h.dl;refine⟨⟨h.q1,h.q2,?_,?_,?_,?_,?_,h.s1,h.s2,fun d d0 d1=>?_,?_⟩,by simp,rfl⟩
  ·simp only[List.length_set]; exact h.l1
  ·simp only[List.length_set]; exact h.l2
  ·simp only[List.length_set]; exact h.dl
  ·show 0<=b.pool-Y2 20 b.pool; omega
  ·show b.pool-Y2 20 b.pool<=b.quota; omega
  ·simp only[List.length_set] at d1;have hd:=h.each d d0 d1;show 0<=gi (b.locals.set c.toNat (Y2 20 b.pool)) d/\gi (b.locals.set c.toNat (Y2 20 b.pool)) d<=b.quota/\(gi (b.dry.set c.toNat (Y2 20 b.pool==0)) d=true->gi (b.locals.set c.toNat (Y2 20 b.pool)) d=0/\b.pool-Y2 20 b.pool=0);rw[QA _ _ c0 c1 d0,QA _ _ c0 (by omega) d0];have hz:Y2 20 b.pool=0->b.pool=0:=fun e=>by unfold Y2 at e; split at e <;> omega
   by_cases e:c=d
   ·subst e;rw[if_pos rfl,if_pos rfl];refine⟨hm.1,by omega,fun hd0=>?_⟩;have e0:Y2 20 b.pool=0:=eq_of_beq hd0;have:=hz e0;exact⟨e0,by omega⟩
   ·rw[if_neg e,if_neg e];refine⟨hd.1,hd.2.1,fun hd0=>?_⟩;have:=hd.2.2 hd0;exact⟨this.1,by omega⟩
  ·show b.pool-Y2 20 b.pool+b.spent+Xl (b.locals.set c.toNat (Y2 20 b.pool)) (b.locals.set c.toNat (Y2 20 b.pool)).length=b.quota;rw[List.length_set,hs];omega
theorem zfn{b:JH}(h:Tc b){c n:Int}(c0:0<=c)(c1:c<(b.locals.length:Int)):Tc (TR b c n).1/\(TR b c n).1.locals.length=b.locals.length/\(TR b c n).1.quota=b.quota:=by
 unfold TR;split
 ·exact⟨h,rfl,rfl⟩
 ·rename_i hn;have hs:=LU b.locals c (gi b.locals c-n) c0 c1 b.locals.length;rw[if_pos c1] at hs;have hnn:=(zh4 (fun d d0 d1=>(h.each d d0 d1).1) c0 b.locals.length (Nat.le_refl _)).2 c1;have p1:=h.p1;have su:=h.sum;have s1:=h.s1;have dl:=h.dl;have hn1:¬n<1:=fun e=>hn (.inl e)
  have hn2:¬n>gi b.locals c:=fun e=>hn (.inr e)
  refine⟨⟨h.q1,h.q2,?_,?_,?_,h.p1,h.p2,?_,?_,fun d d0 d1=>?_,?_⟩,by simp,rfl⟩
  ·simp only[List.length_set]; exact h.l1
  ·simp only[List.length_set]; exact h.l2
  ·simp only[List.length_set]; exact h.dl
  ·show 0<=b.spent+n; omega
  ·show b.spent+n<=b.quota; omega
  ·simp only[List.length_set] at d1;have hd:=h.each d d0 d1;show 0<=gi (b.locals.set c.toNat (gi b.locals c-n)) d/\gi (b.locals.set c.toNat (gi b.locals c-n)) d<=b.quota/\(gi b.dry d=true->gi (b.locals.set c.toNat (gi b.locals c-n)) d=0/\b.pool=0);rw[QA _ _ c0 c1 d0]
   by_cases e:c=d
   ·subst e;rw[if_pos rfl];exact⟨by omega,by omega,fun hd0=>by have:=(hd.2.2 hd0).1; omega⟩
   ·rw[if_neg e];exact hd
  ·show b.pool+(b.spent+n)+Xl (b.locals.set c.toNat (gi b.locals c-n)) (b.locals.set c.toNat (gi b.locals c-n)).length=b.quota;rw[List.length_set,hs];omega
def zc6(b:JH)(c:Int):Nat->Nat
 | 0=>0
 | d+1=>zc6 b c d+if (d:Int)≠c/\gi b.locals (d:Int)>0 then 1 else 0
def zml(b:JH)(c:Int):Nat:=if gi b.dry c=true then 0 else 1
def J0(b:JH)(c:Int):Nat:=9*zc6 b c 4+zml b c
theorem znd(b:JH)(c:Int):∀n:Nat,zc6 b c n<=n
 | 0=>Nat.le_refl _
 | n+1=>by
  have:=znd b c n;simp only[zc6]
  split <;> omega
theorem zu5(b:JH)(c:Int):J0 b c<=37:=by
 have:=znd b c 4;unfold J0 zml
 split <;> omega
def zea(W:Q8)(c:Int):Nat->Nat
 | 0=>0
 | k+1=>zea W c k+J0 (gi W.groups (k:Int)).band c
def KU(W:Q8)(c:Int):Nat:=zea W c 8
theorem Gj{W W':Q8}{c:Int}(h:∀k:Nat,k<8->J0 (gi W'.groups (k:Int)).band c<=J0 (gi W.groups (k:Int)).band c):∀k:Nat,k<=8->zea W' c k<=zea W c k
 | 0,_=>Nat.le_refl _
 | k+1,hk=>by
  have:=Gj h k (by omega);have:=h k (by omega);simp only[zea];omega
theorem znw{W W':Q8}{c:Int}(h:∀k:Nat,k<8->J0 (gi W'.groups (k:Int)).band c<=J0 (gi W.groups (k:Int)).band c){j:Nat}(hj:J0 (gi W'.groups (j:Int)).band c<J0 (gi W.groups (j:Int)).band c):∀k:Nat,j<k->k<=8->zea W' c k<zea W c k
 | 0,h0,_=>absurd h0 (Nat.not_lt_zero j)
 | k+1,hjk,hk=>by
  have h1:=Gj h k (by omega);have h2:=h k (by omega);simp only[zea]
  by_cases e:j=k
  ·subst e; omega
  ·have:=znw h hj k (by omega) (by omega);omega
theorem zu7(W:Q8)(c:Int):KU W c<=296:=by
 have key:∀k:Nat,zea W c k<=37*k:=by
  intro k
  induction k with
  | zero=>exact Nat.le_refl _
  | succ k ih=>
   have:=zu5 (gi W.groups (k:Int)).band c;simp only[zea];omega
 exact key 8
theorem Gf{b b':JH}{c:Int}(h:∀d:Nat,(d:Int)≠c->gi b'.locals (d:Int)=gi b.locals (d:Int)):∀n:Nat,zc6 b' c n=zc6 b c n
 | 0=>rfl
 | n+1=>by
  simp only[zc6];rw[Gf h n]
  by_cases e:(n:Int)=c
  ·simp[e]
  ·rw[h n e]
theorem zi9{b b':JH}{c:Int}{e:Nat}(he:(e:Int)≠c)(h0:gi b'.locals (e:Int)=0)(h1:gi b.locals (e:Int)>0)(h:∀d:Nat,d≠e->gi b'.locals (d:Int)=gi b.locals (d:Int)):∀n:Nat,zc6 b' c n+(if e<n then 1 else 0)=zc6 b c n
 | 0=>rfl
 | n+1=>by
  have ih:=zi9 he h0 h1 h n;simp only[zc6]
  by_cases hn:n=e
  ·subst hn;rw[if_neg (Nat.lt_irrefl n)] at ih;rw[if_pos (Nat.lt_succ_self n),if_neg (by rintro⟨_,h⟩; omega),if_pos ⟨he,h1⟩];omega
  ·rw[h n hn];generalize (if (n:Int)≠c/\gi b.locals (n:Int)>0 then 1 else 0)=y
   by_cases hlt:e<n
   ·rw[if_pos hlt] at ih;rw[if_pos (by omega)];omega
   ·rw[if_neg hlt] at ih;rw[if_neg (by omega)];omega
theorem zse{b:JH}(h:Tc b){c:Int}{e:Nat}(e1:(e:Int)<(b.locals.length:Int))(hp:gi b.locals (e:Int)>0):J0 (Yw b (e:Int)) c<=J0 b c:=by
 have hl:=h.l2
 have hset:∀d:Nat,gi (Yw b (e:Int)).locals (d:Int)=if e=d then 0 else gi b.locals (d:Int):=fun d=>by
  show gi (b.locals.set (e:Int).toNat 0) (d:Int)=_;rw[QA _ _ (by omega) e1 (by omega)]
  by_cases h:e=d
  ·subst h; simp
  ·rw[if_neg h,if_neg (by omega)]
 unfold J0
 by_cases hc:(e:Int)=c
 ·have h1:=Gf (b:=b) (b':=Yw b (e:Int)) (c:=c) (fun d hd=>by rw[hset d,if_neg (fun h=>hd (by rw[<-h]; exact hc))]) 4
  have hw:gi b.dry c=false:=by
   cases hd:gi b.dry c with
   | false=>rfl
   | true=>
    have:=((h.each c (by omega) (by omega)).2.2 hd).1;rw[<-hc] at this; omega
  rw[h1];unfold zml;rw[hw]
  split <;> simp
 ·have h1:=zi9 (b:=b) (b':=Yw b (e:Int)) (c:=c) hc (by rw[hset e,if_pos rfl]) hp (fun d hd=>by rw[hset d,if_neg (fun h=>hd h.symm)]) 4;rw[if_pos (by omega)] at h1;have:zml (Yw b (e:Int)) c<=1:=by unfold zml; split <;> omega
  omega
theorem zsf{b:JH}{c:Int}(c0:0<=c)(c1:c<(b.locals.length:Int))(hdl:b.dry.length=b.locals.length)(hw:gi b.dry c=false):J0 (YL b c).1 c<=J0 b c/\((YL b c).2=2->J0 (YL b c).1 c<J0 b c)/\((YL b c).2≠2->gi (YL b c).1.dry c=false):=by
 unfold YL;split
 ·exact⟨Nat.le_refl _,fun h=>(by cases h),fun _=>hw⟩
 ·have h1:=Gf (b:=b) (b':=⟨b.quota,b.pool-Y2 20 b.pool,b.spent,b.locals.set c.toNat (Y2 20 b.pool),b.dry.set c.toNat (Y2 20 b.pool==0)⟩) (c:=c) (fun d hd=>by
   show gi (b.locals.set c.toNat (Y2 20 b.pool)) (d:Int)=_;rw[QA _ _ c0 c1 (by omega),if_neg fun h=>hd h.symm]) 4
  have hd:gi (b.dry.set c.toNat (Y2 20 b.pool==0)) c=(Y2 20 b.pool==0):=by rw[QA _ _ c0 (by omega) c0,if_pos rfl]
  unfold J0;rw[h1];unfold zml;rw[hw];simp only[hd]
  by_cases hm:Y2 20 b.pool=0
  ·rw[if_pos (show (Y2 20 b.pool==0)=true by rw[hm]; rfl),if_neg (by decide)];exact⟨by omega,fun _=>by omega,fun h=>absurd (if_pos hm) h⟩
  ·have hb:(Y2 20 b.pool==0)=false:=by simpa using hm
   rw[hb];exact⟨Nat.le_refl _,fun h=>(by rw[if_neg hm] at h; cases h),fun _=>rfl⟩
theorem zps{b:JH}{c n:Int}(c0:0<=c)(c1:c<(b.locals.length:Int)):J0 (TR b c n).1 c=J0 b c:=by
 unfold TR;split
 ·rfl
 ·unfold J0 zml
  rw[Gf (b:=b) (c:=c) (fun d hd=>by
   show gi (b.locals.set c.toNat (gi b.locals c-n)) (d:Int)=_;rw[QA _ _ c0 c1 (by omega),if_neg fun h=>hd h.symm]) 4]
theorem zfa{F K:Int}{W:Q8}(h:SF F K W){k:Int}(hu:Q6 W.groups k=true)(hq:(gi W.groups k).band.quota≠0)(c:Int):∀d:Nat,d<=W.cpus.length->(∀j:Int,0<=j->J0 (gi (YI W k d).groups j).band c<=J0 (gi W.groups j).band c)
 | 0,_=>fun _ _=>Nat.le_refl _
 | d+1,hd=>by
  have ih:=zfa h hu hq c d (by omega);obtain⟨a,b,q⟩:=E3 h hu hq d (by omega);simp only[YI];split
  ·rename_i hc;have hu':Q6 (YI W k d).groups k=true:=by rw[b.g.usd]; exact hu
   obtain⟨u0,u1,hg⟩:=a.w.a.u hu';have hb:=hg.band q;have hl:=a.w.a.gl;intro j hj;show J0 (gi (setGr _ k _).groups j).band c<=_;rw[Yt u0 (by omega) hj];split
   ·rename_i e;subst e;exact Nat.le_trans (zse hb.1 (by rw[hb.2.1,b.c]; omega) hc.1) (ih k hj)
   ·exact ih j hj
  ·exact ih
theorem zfb{F K:Int}{W:Q8}(h:SF F K W)(c:Int):∀k:Nat,k<=8->∀j:Int,0<=j->J0 (gi (X1 W k).groups j).band c<=J0 (gi W.groups j).band c
 | 0,_=>fun _ _=>Nat.le_refl _
 | k+1,hk=>by
  have ih:=zfb h c k (by omega);obtain⟨a,b⟩:=Od h k (by omega);have hl:=a.w.a.gl;simp only[X1];split
  ·rename_i hc;exact fun j hj=>Nat.le_trans (zfa a (Q5.2 ⟨by omega,by omega,hc.1⟩) hc.2 c _ (Nat.le_refl _) j hj) (ih j hj)
  ·exact ih
theorem zop{K:Int}{W:Q8}(sw:SW K W){c:Int}(c0:0<=c)(c1:c<(W.cpus.length:Int))(i:Int)(hi:0<=i):(gi (T9 W c).groups i).band=(gi W.groups i).band:=(zkd sw c0 c1).1.b i hi
theorem zej{K:Int}{W:Q8}(sw:SW K W)(hK:0<=K)(i:Int)(hi:0<=i):∀c:Nat,c<=W.cpus.length->(gi (U2 W c).groups i).band=(gi W.groups i).band
 | 0,_=>rfl
 | c+1,hc=>by
  obtain⟨s1,f1⟩:=LS sw hK c (by omega);rw[show U2 W (c+1)=T9 (U2 W c) (c:Int) from rfl,zop s1 (by omega) (by rw[f1.c]; omega) i hi,zej sw hK i hi c (by omega)]
theorem zlu{K:Int}{W:Q8}(sw:SW K W)(hK:0<=K)(c:Int):KU (Qg W) c<=KU W c:=by
 obtain⟨s1,o1⟩:=P4 (F:=K) (K:=K+Ql) (sw.sf.mono (Int.le_refl _) (by simp only[Ql]; omega)) (Int.le_refl _) W.cpus.length (Nat.le_refl _);obtain⟨s2,b2⟩:=Od s1 8 (Nat.le_refl _);refine Gj (fun k hk=>?_) 8 (Nat.le_refl _);have h1:(gi (Qg W).groups (k:Int)).band=(gi (X1 (YP W W.cpus.length) 8).groups (k:Int)).band:=zej s2.w (by simp only[Ql]; omega) (k:Int) (by omega) W.cpus.length (by show W.cpus.length<=(X1 (YP W W.cpus.length) 8).cpus.length; rw[b2.c,o1.c]; exact Nat.le_refl _);rw[h1];have h2:=zfb s1 c 8 (Nat.le_refl _) (k:Int) (by omega);rw[o1.b (k:Int) (by omega)] at h2;exact h2
def YK(W:Q8)(t:Int):List Int:=QX W.groups (Q7 W t).group++[0]
def AH(W:Q8)(c g:Int):Q8×Bool:=if (gi W.groups g).band.quota=0 then (W,true) else (setBd W g (YL (gi W.groups g).band c).1,decide ((YL (gi W.groups g).band c).2≠2))
def zfu(c:Int):List Int->Q8->Q8×Bool
 | [],W=>(W,true)
 | g::l,W=>if (AH W c g).2=true then zfu c l (AH W c g).1 else ((AH W c g).1,false)
def zjn(W:Q8)(c g n:Int):Int:=if (gi W.groups g).band.quota>0 then Y2 n (gi (gi W.groups g).band.locals c) else n
def zak(W:Q8)(c:Int):List Int->Int->Int
 | [],n=>n
 | g::l,n=>zak W c l (zjn W c g n)
def Av(W:Q8)(c n g:Int):KE:={ Qb W g c with v:=if g≠0 then (Qb W g c).v+Z3 n (Qb W g c).w else (Qb W g c).v,sum:=(Qb W g c).sum+n }
def zem(W:Q8)(c n g:Int):JH:=if (gi W.groups g).band.quota>0 then (YM (gi W.groups g).band ⟨2,c,n⟩).1 else (gi W.groups g).band
def L6(W:Q8)(c n g:Int):Q8:=setSh W g c (Av W c n g)
def BJ(W:Q8)(c n g:Int):ZF:={ gi (L6 W c n g).groups g with sum:=(gi W.groups g).sum+n }
def Cp(W:Q8)(c n g:Int):Q8:=setBd (setGr (L6 W c n g) g (BJ W c n g)) g (zem W c n g)
def zgg(c n:Int):List Int->Q8->Q8
 | [],W=>W
 | g::l,W=>zgg c n l (Cp W c n g)
def L7(W:Q8)(t n:Int):Mw:={ Q7 W t with v:=(Q7 W t).v+Z3 n (Qc (Q7 W t).nice),sum:=(Q7 W t).sum+n,used:=(Q7 W t).used+n }
def zm0(W:Q8)(c n:Int):M0:={ gi W.cpus c with busy:=(gi W.cpus c).busy+n,ran:=(gi W.cpus c).ran+n }
def Pb(W:Q8)(c t n:Int):Q8:=setCp (zgg c n (YK W t) (setTk W t (L7 W t n))) c (zm0 W c n)
def Yn(W:Q8)(c t:Int):M0:=if t≠(gi W.cpus c).cur\/(gi W.cpus c).ran>=50 then { gi W.cpus c with cur:=t,ran:=0 } else gi W.cpus c
def YU(W:Q8)(c t:Int):Q8:=setCp W c (Yn W c t)
def Ll(W:Q8)(c n:Int):M0:={ gi W.cpus c with idle:=(gi W.cpus c).idle+n }
def YO(W:Q8)(c:Int):Q8×Bool:=zfu c (YK W (Qn W c)) (YU W c (Qn W c))
def Uy(W:Q8)(c left:Int):Int:=zak (YO W c).1 c (YK W (Qn W c)) left
def EC(W:Q8)(c left:Int):Q8×Int:=
 if (YO W c).2=true then (Qg (Pb (YO W c).1 c (Qn W c) (Uy W c left)),left-Uy W c left) else (Qg (endW (YO W c).1 c),left)
def An(c:Int):Nat->Q8->Int->Q8
 | 0,W,_=>W
 | f+1,W,left=>if left<=0 then Qg W else if Qn W c<0 then Qg (endW (setCp W c (Ll W c left)) c) else An c f (EC W c left).1 (EC W c left).2
structure zqk (K c:Int) (W W':Q8):Prop where
 sw:SW K W'
 o:VE W W'
 q:∀i:Int,0<=i->(gi W'.groups i).band.quota=(gi W.groups i).band.quota
 l:∀i:Int,0<=i->gi (gi W.groups i).band.locals c>0->gi (gi W'.groups i).band.locals c>0
 p:∀i:Int,0<=i->J0 (gi W'.groups i).band c<=J0 (gi W.groups i).band c
 su:Tf W W'
theorem zqk.refl{K c:Int}{W:Q8}(h:SW K W):zqk K c W W:=⟨h,VE.refl _,fun _ _=>rfl,fun _ _ h=>h,fun _ _=>Nat.le_refl _,Tf.refl _⟩
theorem zqk.trans{K c:Int}{A B C:Q8}(h:zqk K c A B)(k:zqk K c B C):zqk K c A C:=⟨k.sw,h.o.trans k.o,fun i hi=>(k.q i hi).trans (h.q i hi),fun i hi g=>k.l i hi (h.l i hi g),fun i hi=>Nat.le_trans (k.p i hi) (h.p i hi),h.su.trans k.su⟩
theorem zp4{b:JH}(h:Tc b){c:Int}(c0:0<=c)(c1:c<(b.locals.length:Int)):(gi b.locals c>0->(YL b c).1=b)/\((YL b c).2≠2->gi (YL b c).1.locals c>0):=by
 unfold YL;split
 ·rename_i hp;exact⟨fun _=>rfl,fun _=>hp⟩
 ·rename_i hn;refine⟨fun h=>absurd h hn,fun h2=>?_⟩;show gi (b.locals.set c.toNat (Y2 20 b.pool)) c>0;rw[QA _ _ c0 c1 c0,if_pos rfl];have hm:=zhc h.p1
  by_cases e:Y2 20 b.pool=0
  ·exact absurd (if_pos e) h2
  ·omega
theorem zs3{K c:Int}{W:Q8}(sw:SW K W)(c0:0<=c)(c1:c<(W.cpus.length:Int)){g:Int}(hu:Q6 W.groups g=true)(hd:(gi W.groups g).band.quota≠0->gi (gi W.groups g).band.dry c=false) :
  zqk K c W (AH W c g).1/\((AH W c g).2=true->((gi W.groups g).band.quota≠0->gi (gi (AH W c g).1.groups g).band.locals c>0)/\∀i:Int,0<=i->((gi W.groups i).band.quota≠0->gi (gi W.groups i).band.dry c=false)->(gi W.groups i).band.quota≠0->gi (gi (AH W c g).1.groups i).band.dry c=false)
   /\ ((AH W c g).2=false->J0 (gi (AH W c g).1.groups g).band c<J0 (gi W.groups g).band c):=by
 obtain⟨u0,u1,hg⟩:=sw.a.u hu;have hgl:=sw.a.gl;unfold AH;split
 ·rename_i hq;exact⟨zqk.refl sw,fun _=>⟨fun h=>absurd hq h,fun i _ h h2=>h h2⟩,fun h=>by cases h⟩
 ·rename_i hq;obtain⟨hb,hbl,_⟩:=hg.band hq;have hcl:c<((gi W.groups g).band.locals.length:Int):=by omega
  obtain⟨hb2,hl2,hq2⟩:=zkf hb c0 hcl;obtain⟨p1,p2,p3⟩:=zsf c0 hcl hb.dl (hd hq);obtain⟨l1,l2⟩:=zp4 hb c0 hcl;have ha:=sw.a.setBd (g:=g) hu hq hb2 (by rw[hl2]; exact hbl) hq2;have e:∀i:Int,0<=i->gi (setBd W g (YL (gi W.groups g).band c).1).groups i=if g=i then { gi W.groups g with band:=(YL (gi W.groups g).band c).1 } else gi W.groups i:=fun i hi=>Yt u0 (by omega) hi
  have ob:=ze8 (W:=W) (b:=(YL (gi W.groups g).band c).1) u0 (by omega);refine⟨⟨(sw.sf.onlyB ob ha).w,ob,fun i hi=>?_,fun i hi h=>?_,fun i hi=>?_,zsy _ _ _⟩,fun h=>?_,fun h=>?_⟩
  ·show (gi (setBd W g _).groups i).band.quota=_;rw[e i hi]; split
   ·rename_i e; subst e; exact hq2
   ·rfl
  ·show gi (gi (setBd W g _).groups i).band.locals c>0;rw[e i hi]; split
   ·rename_i e; subst e;show gi (YL (gi W.groups g).band c).1.locals c>0;rw[l1 h]; exact h
   ·exact h
  ·show J0 (gi (setBd W g _).groups i).band c<=_;rw[e i hi]; split
   ·rename_i e; subst e; exact p1
   ·exact Nat.le_refl _
  ·have h:(YL (gi W.groups g).band c).2≠2:=Ot h;refine⟨fun _=>?_,fun i hi h1 h2=>?_⟩
   ·show gi (gi (setBd W g _).groups g).band.locals c>0;rw[e g u0,if_pos rfl];exact l2 h
   ·show gi (gi (setBd W g _).groups i).band.dry c=false;rw[e i hi]; split
    ·rename_i e; subst e; exact p3 h
    ·exact h1 h2
  ·have h:(YL (gi W.groups g).band c).2=2:=Decidable.byContradiction fun hn=>Ou h hn
   show J0 (gi (setBd W g _).groups g).band c<_;rw[e g u0,if_pos rfl];exact p2 h
theorem zs4{K c:Int}(c0:0<=c):∀(l:List Int) {W:Q8},SW K W->c<(W.cpus.length:Int)->(∀g∈l,Q6 W.groups g=true)->(∀g∈l,(gi W.groups g).band.quota≠0->gi (gi W.groups g).band.dry c=false)->
  zqk K c W (zfu c l W).1/\((zfu c l W).2=true->∀g∈l,(gi W.groups g).band.quota≠0->gi (gi (zfu c l W).1.groups g).band.locals c>0)/\((zfu c l W).2=false->∃g∈l,J0 (gi (zfu c l W).1.groups g).band c<J0 (gi W.groups g).band c)
 | [],W,sw,_,_,_=>⟨zqk.refl sw,fun _ g hg=>(by cases hg),fun h=>by cases h⟩
 | g::l,W,sw,c1,hu,hd=>by
  obtain⟨a,b,d⟩:=zs3 sw c0 c1 (hu g List.mem_cons_self) (hd g List.mem_cons_self);simp only[zfu]
  by_cases h2:(AH W c g).2=true
  ·rw[if_pos h2];obtain⟨b1,b2⟩:=b h2;have h0:∀x∈l,0<=x:=fun x hx=>(Q5.1 (hu x (List.mem_cons_of_mem _ hx))).1
   obtain⟨a',b',d'⟩:=zs4 c0 l (W:=(AH W c g).1) a.sw (by rw[a.o.c]; exact c1) (fun x hx=>by rw[a.o.g.usd]; exact hu x (List.mem_cons_of_mem _ hx)) fun x hx hq=>by
    rw[a.q x (h0 x hx)] at hq;exact b2 x (h0 x hx) (hd x (List.mem_cons_of_mem _ hx)) hq
   refine⟨a.trans a',fun h x hx hq=>?_,fun h=>?_⟩
   ·rcases List.mem_cons.1 hx with e | e
    ·subst e;exact a'.l x (Q5.1 (hu x List.mem_cons_self)).1 (b1 hq)
    ·exact b' h x e (by rw[a.q x (h0 x e)]; exact hq)
   ·obtain⟨x,hx,hlt⟩:=d' h;exact⟨x,List.mem_cons_of_mem _ hx,Nat.lt_of_lt_of_le hlt (a.p x (h0 x hx))⟩
  ·rw[if_neg h2];exact⟨a,fun h=>(by cases h),fun _=>⟨g,List.mem_cons_self,d (by simpa using h2)⟩⟩
theorem ze3{W:Q8}{c:Int}:∀(l:List Int) (n:Int),1<=n->(∀g∈l,(gi W.groups g).band.quota>0->gi (gi W.groups g).band.locals c>0)->1<=zak W c l n/\zak W c l n<=n
 | [],n,h,_=>⟨h,Int.le_refl _⟩
 | g::l,n,h,hl=>by
  simp only[zak]
  have hm:1<=zjn W c g n/\zjn W c g n<=n:=by
   unfold zjn;split
   ·rename_i hq;have:=hl g List.mem_cons_self hq;unfold Y2
    split <;> omega
   ·exact⟨h,Int.le_refl _⟩
  have:=ze3 l (zjn W c g n) hm.1 fun x hx=>hl x (List.mem_cons_of_mem _ hx)
  omega
theorem Gt(n w:Int)(h0:0<=n)(h1:n<=100):0<=Z3 n w/\Z3 n w<=Ql:=by
 by_cases h:1<=w/\w<=20
 ·rw[Ok h0 (by omega) h.1 h.2];have hs:=zbn h.1 h.2;refine⟨Int.mul_nonneg h0 (by omega),?_⟩
  calc n*zfq w<=100*zfq w:=Int.mul_le_mul_of_nonneg_right h1 (by omega)
   _<=100*232792560:=Int.mul_le_mul_of_nonneg_left hs.2 (by decide)
   _<=Ql:=by decide
 ·rw[Gu (by omega)]; exact⟨Int.le_refl _,by decide⟩
theorem zon{b:JH}(h:Tc b){c n:Int}(c0:0<=c)(c1:c<(b.locals.length:Int)):Tc (YM b ⟨2,c,n⟩).1/\(YM b ⟨2,c,n⟩).1.locals.length=b.locals.length/\(YM b ⟨2,c,n⟩).1.quota=b.quota/\J0 (YM b ⟨2,c,n⟩).1 c=J0 b c:=by
 have e:YM b ⟨2,c,n⟩=TR b c n:=by
  unfold YM;rw[if_neg (show ¬(2:Int)=4 by decide),if_neg (by rw[Qm.2 (by show 0<=c/\c<=_; omega)]; decide),if_neg (show ¬(2:Int)=1 by decide),if_pos rfl]
 rw[e];obtain⟨a,b',d⟩:=zfn h (n:=n) c0 c1;exact⟨a,b',d,zps c0 c1⟩
structure ztc (K S c n:Int) (W W':Q8):Prop where
 sw:SW K W'
 rb:RB S W'
 now:W'.now=W.now
 t:W'.tasks=W.tasks
 cp:W'.cpus=W.cpus
 g:QR W.groups W'.groups
 p:∀i:Int,0<=i->J0 (gi W'.groups i).band c=J0 (gi W.groups i).band c
theorem zk0{K S c n:Int}{W:Q8}(sw:SW K W)(rb:RB S W)(hS:S+n<=100000000000000000)(c0:0<=c)(c1:c<(W.cpus.length:Int)){g:Int}(hu:Q6 W.groups g=true)(n0:0<=n)(n1:n<=100):ztc (K+Ql) (S+n) c n W (Cp W c n g):=by
 obtain⟨u0,u1,hg⟩:=sw.a.u hu;have hgl:=sw.a.gl;have hsl:=sw.a.sl hu;have hsr:=sw.s g c hu c0 c1;have hv:=Gt n (Qb W g c).w n0 n1;have hlg:0<=Ql:=by decide
 have ea:∀{i:Int},0<=i->gi (L6 W c n g).groups i=if g=i then { gi W.groups g with shelves:=(gi W.groups g).shelves.set c.toNat (Av W c n g) } else gi W.groups i:=fun hi=>Yt u0 (by omega) hi
 have eg:∀i:Int,0<=i->gi (Cp W c n g).groups i=if g=i then { gi W.groups g with shelves:=(gi W.groups g).shelves.set c.toNat (Av W c n g),sum:=(gi W.groups g).sum+n,band:=zem W c n g } else gi W.groups i:=fun i hi=>by
  have hl1:g<((setGr (L6 W c n g) g (BJ W c n g)).groups.length:Int):=by
   have:(setGr (L6 W c n g) g (BJ W c n g)).groups.length=W.groups.length:=by simp[setGr,L6,setSh]
   rw[this]; omega
  have hl2:g<((L6 W c n g).groups.length:Int):=by
   have:(L6 W c n g).groups.length=W.groups.length:=by simp[setGr,L6,setSh]
   rw[this]; omega
  unfold Cp setBd;rw[Yt u0 hl1 hi,Yt u0 hl2 hi,Yt u0 hl2 u0,if_pos rfl,ea hi];split
  ·unfold BJ;rw[ea u0,if_pos rfl]
  ·rfl
 have es:∀i d:Int,0<=i->0<=d->Qb (Cp W c n g) i d=if g=i/\c=d then Av W c n g else Qb W i d:=fun i d hi hd=>by
  rw[<-Jv (W:=W) (s:=Av W c n g) u0 (by omega) c0 (by omega) hi hd];unfold Qb;show gi (gi (Cp W c n g).groups i).shelves d=gi (gi (L6 W c n g).groups i).shelves d;rw[eg i hi,ea hi]
  split <;> rfl
 have hT:QR W.groups (Cp W c n g).groups:=by
  have t1:=XI (W:=W) (g:=g) (c:=c) (s:=Av W c n g) u0 (by omega);have t2:=Jw (W:=L6 W c n g) (g:=g) (x:=BJ W c n g) u0 (by show g<((L6 W c n g).groups.length:Int); rw[show (L6 W c n g).groups.length=W.groups.length from t1.len]; omega) rfl rfl rfl;have t3:=Jw (W:=setGr (L6 W c n g) g (BJ W c n g)) (g:=g) (x:={ gi (setGr (L6 W c n g) g (BJ W c n g)).groups g with band:=zem W c n g }) u0 (by rw[t2.len,show (L6 W c n g).groups.length=W.groups.length from t1.len]; omega) rfl rfl rfl;exact(t1.trans t2).trans t3
 have hB:(zem W c n g).quota=(gi W.groups g).band.quota/\J0 (zem W c n g) c=J0 (gi W.groups g).band c/\((gi W.groups g).band.quota=0->zem W c n g=(gi W.groups g).band)/\((gi W.groups g).band.quota≠0->Tc (zem W c n g)/\(zem W c n g).locals.length=W.cpus.length):=by
  unfold zem;split
  ·rename_i hq;obtain⟨hb,hbl,_⟩:=hg.band (by omega);obtain⟨a,b,d,e⟩:=zon hb (n:=n) c0 (by omega);exact⟨d,e,fun h=>by omega,fun _=>⟨a,by rw[b]; exact hbl⟩⟩
  ·rename_i hq;refine⟨rfl,rfl,fun _=>rfl,fun h=>?_⟩;obtain⟨hb,hbl,_⟩:=hg.band h;exact⟨hb,hbl⟩
 have hrg:=rb.g g hu
 have hW:WA (Cp W c n g):=by
  have hl:=sw.a;refine⟨hl.n1,hl.n2,hl.c1,hl.c2,hl.t,hT.tree hl.tree,hl.ups,fun k k0 k1=>?_⟩;unfold Md;rw[eg k k0];split
  ·rename_i e;subst e;refine⟨fun h=>?_,fun _=>⟨hg.w1,hg.w2,hg.m,hg.m0,Y3.2 ⟨by show 0<=(gi W.groups g).sum+n; omega,by show (gi W.groups g).sum+n<=_; omega⟩,by show (List.set _ _ _).length=_; rw[List.length_set]; exact hg.len,fun h=>⟨(hg.root h).1,(hg.root h).2.1,by show (zem W c n g).quota=0; rw[hB.1]; exact(hg.root h).2.2⟩,fun h=>?_,fun h=>?_⟩⟩
   ·have h:(gi W.groups g).used=false:=h;rw[(Q5.1 hu).2.2] at h; cases h
   ·have h:(zem W c n g).quota=0:=h;rw[hB.1] at h;have:=hg.none h;exact⟨by show TN (zem W c n g)=true; rw[hB.2.2.1 h]; exact this.1,this.2⟩
   ·have h:(zem W c n g).quota≠0:=h;rw[hB.1] at h;obtain⟨_,_,hp⟩:=hg.band h;exact⟨(hB.2.2.2 h).1,(hB.2.2.2 h).2,hp⟩
  ·have:=hl.grp k k0 k1;exact⟨this.1,fun hu=>by have:=this.2 hu; exact⟨this.w1,this.w2,this.m,this.m0,this.s,this.len,this.root,this.none,this.band⟩⟩
 refine⟨⟨hW,fun t a b m=>?_,fun t a b=>?_,fun k d u a b=>?_,sw.cu⟩,⟨rb.n,fun t a b=>?_,fun k d u a b=>?_,fun k u=>?_,fun d a b=>?_⟩,rfl,rfl,rfl,hT,fun i hi=>?_⟩
 ·rw[hT.usd]; exact sw.t t a b m
 ·have:=sw.tv t a b;exact⟨this.1,by show (Q7 W t).v<=_; omega⟩
 ·rw[hT.usd] at u;have hk:=(Q5.1 u).1;have h:=sw.s k d u a b;rw[es k d hk a];split
  ·refine⟨hsr.1,by show (Qb W g c).floor<=_; omega,?_,?_,hsr.2.2.2.2.1,hsr.2.2.2.2.2⟩
   ·show 0<=if g≠0 then (Qb W g c).v+Z3 n (Qb W g c).w else (Qb W g c).v
    split <;> omega
   ·show (if g≠0 then (Qb W g c).v+Z3 n (Qb W g c).w else (Qb W g c).v)<=_
    split <;> omega
  ·exact⟨h.1,by omega,h.2.2.1,by omega,h.2.2.2.2.1,h.2.2.2.2.2⟩
 ·have:=rb.t t a b;exact⟨this.1,by show (Q7 W t).sum<=_; omega,this.2.2.1,by show (Q7 W t).used<=_; omega⟩
 ·rw[hT.usd] at u;have hk:=(Q5.1 u).1;have h:=rb.s k d u a b;rw[es k d hk a];split
  ·have h2:=rb.s g c hu c0 c1;exact⟨by show 0<=(Qb W g c).sum+n; omega,by show (Qb W g c).sum+n<=_; omega⟩
  ·exact⟨h.1,by omega⟩
 ·rw[hT.usd] at u;have h:=rb.g k u;rw[eg k (Q5.1 u).1];split
  ·exact⟨by show 0<=(gi W.groups g).sum+n; omega,by show (gi W.groups g).sum+n<=_; omega⟩
  ·exact⟨h.1,by omega⟩
 ·have:=rb.c d a b;exact⟨this.1,by show (gi W.cpus d).busy<=_; omega,this.2.2.1,this.2.2.2.1,this.2.2.2.2⟩
 ·rw[eg i hi];split
  ·rename_i e; subst e; exact hB.2.1
  ·rfl
theorem RB.mono{S S':Int}{W:Q8}(h:RB S W)(k:S<=S'):RB S' W:=
 ⟨h.n,fun t a b=>by have:=h.t t a b; omega,fun k c u a b=>by have:=h.s k c u a b; omega,fun k u=>by have:=h.g k u; omega,fun c a b=>by have:=h.c c a b; omega⟩
theorem RB.setCp{S:Int}{W:Q8}(h:RB S W){c:Int}(c0:0<=c)(c1:c<(W.cpus.length:Int)){x:M0}(hx:0<=x.busy/\x.busy<=S/\0<=x.idle/\x.idle<=50000000000000000/\0<=x.ran/\x.ran<=149):RB S (setCp W c x):=by
 have hl:(W.cpus.set c.toNat x).length=W.cpus.length:=List.length_set;refine⟨h.n,h.t,fun k d u a b=>?_,h.g,fun d a b=>?_⟩
 ·have b:d<(((W.cpus.set c.toNat x).length:Nat):Int):=b;rw[hl] at b;exact h.s k d u a b
 ·have b:d<(((W.cpus.set c.toNat x).length:Nat):Int):=b;rw[hl] at b;show _<=(gi (W.cpus.set c.toNat x) d).busy/\(gi (W.cpus.set c.toNat x) d).busy<=_/\_<=(gi (W.cpus.set c.toNat x) d).idle/\(gi (W.cpus.set c.toNat x) d).idle<=_/\_<=(gi (W.cpus.set c.toNat x) d).ran/\(gi (W.cpus.set c.toNat x) d).ran<=_;rw[QA _ _ c0 c1 a];split
  ·exact hx
  ·exact h.c d a b
theorem RB.setTk{S:Int}{W:Q8}(h:RB S W)(hl:W.tasks.length=12){t:Int}(t0:0<=t)(t1:t<12){x:Mw}(hx:0<=x.sum/\x.sum<=S/\0<=x.used/\x.used<=S):RB S (setTk W t x):=by
 refine⟨h.n,fun u a b=>?_,h.s,h.g,h.c⟩;show _<=(gi (W.tasks.set t.toNat x) u).sum/\(gi (W.tasks.set t.toNat x) u).sum<=_/\_<=(gi (W.tasks.set t.toNat x) u).used/\(gi (W.tasks.set t.toNat x) u).used<=_;rw[QA _ _ t0 (by omega) a];split
 ·exact hx
 ·exact h.t u a b
theorem ztc.trans{K S K' S' c n:Int}{A B C:Q8}(h:ztc K S c n A B)(k:ztc K' S' c n B C):ztc K' S' c n A C:=
 ⟨k.sw,k.rb,k.now.trans h.now,k.t.trans h.t,k.cp.trans h.cp,h.g.trans k.g,fun i hi=>(k.p i hi).trans (h.p i hi)⟩
theorem zqw{c n:Int}(c0:0<=c)(n0:0<=n)(n1:n<=100):∀(l:List Int) {K S:Int} {W:Q8},SW K W->RB S W->S+100*(l.length:Int)<=100000000000000000->c<(W.cpus.length:Int)->(∀g∈l,Q6 W.groups g=true)->
  ztc (K+Ql*(l.length:Int)) (S+100*(l.length:Int)) c n W (zgg c n l W)
 | [],K,S,W,sw,rb,_,_,_=>⟨sw.mono (by simp),rb.mono (by simp),rfl,rfl,rfl,QR.refl _,fun _ _=>rfl⟩
 | g::l,K,S,W,sw,rb,hS,c1,hu=>by
  rw[List.length_cons] at hS ⊢;have h1:=zk0 sw rb (by omega) c0 c1 (hu g List.mem_cons_self) n0 n1;have h2:=zqw c0 n0 n1 l (W:=Cp W c n g) h1.sw (h1.rb.mono (show S+n<=S+100 by omega)) (by omega) (by rw[h1.cp]; exact c1) fun x hx=>by rw[h1.g.usd]; exact hu x (List.mem_cons_of_mem _ hx)
  have h3:=h1.trans h2;exact⟨h3.sw.mono (by simp only[Ql]; omega),h3.rb.mono (by omega),h3.now,h3.t,h3.cp,h3.g,h3.p⟩
theorem zu6{W W':Q8}{c:Int}(h:∀i:Int,0<=i->J0 (gi W'.groups i).band c=J0 (gi W.groups i).band c):KU W' c=KU W c:=
 Nat.le_antisymm (Gj (fun k _=>Nat.le_of_eq (h k (by omega))) 8 (Nat.le_refl _)) (Gj (fun k _=>Nat.le_of_eq (h k (by omega)).symm) 8 (Nat.le_refl _))
theorem AD{W:Q8}(ha:WA W){t:Int}(hu:Q6 W.groups (Q7 W t).group=true):(∀g∈YK W t,Q6 W.groups g=true)/\(YK W t).length<=4:=by
 refine⟨fun g hg=>?_,?_⟩
 ·rcases List.mem_append.1 hg with h | h
  ·exact(YB ha.tree _ hu g h).1
  ·rw[List.mem_singleton.1 h]; exact ha.root
 ·have:=za6 W.groups 3 (Q7 W t).group;unfold YK;rw[List.length_append];show (Um 3 W.groups (Q7 W t).group).length+1<=4;omega
theorem zhu{W W':Q8}(ht:W'.tasks=W.tasks)(hT:QR W.groups W'.groups)(t:Int):YK W' t=YK W t:=by
 unfold YK;rw[J1 ht,T7 hT]
def ED(f:Nat):Int:=Qq+(400-(f:Int))*346860914400
def Bp(f:Nat):Int:=Qq+(400-(f:Int))*500
structure AK (f:Nat) (c:Int) (W0 W:Q8) (left:Int):Prop where
 sw:SW (ED f) W
 rb:RB (Bp f) W
 dm:Dm W c
 c0:0<=c
 c1:c<(W.cpus.length:Int)
 up:(gi W.cpus c).up=true
 now:W.now=W0.now
 len:W.cpus.length=W0.cpus.length
 l0:0<=left
 l1:left<=100
 f1:left+KU W c<(f:Int)
 f2:f<=400
theorem Gm{f:Nat}(h:f<=400):Qq<=ED f/\ED f<=50200000000000000:=by
 unfold ED Qq; omega
theorem zhy{f:Nat}(h:f<=400):Qq<=Bp f/\Bp f<=50000000000200000:=by
 unfold Bp Qq; omega
theorem zl3{W:Q8}(wp:YW W)(r:H3 W){c n:Int}(c0:0<=c)(c1:c<(W.cpus.length:Int))(up:(gi W.cpus c).up=true)(n0:0<=n)(n1:n<=100):AK 400 c W W n:=by
 have hp:=zu7 W c;exact⟨(PK wp r).mono (by unfold ED; omega),(zym wp r).mono (by unfold Bp; omega),zx7 wp c0 c1,c0,c1,up,rfl,rfl,n0,n1,by omega,Nat.le_refl _⟩
theorem EI{K S:Int}{c t:Int}{W:Q8}(sw:SW K W)(rb:RB S W)(c0:0<=c)(c1:c<(W.cpus.length:Int))(up:(gi W.cpus c).up=true)(t0:0<=t)(t1:t<12) :
  SW K (YU W c t)/\RB S (YU W c t)/\(gi (YU W c t).cpus c).up=true/\(gi (YU W c t).cpus c).ran<50/\(gi (YU W c t).cpus c).cur=t/\(YU W c t).cpus.length=W.cpus.length:=by
 have e:gi (YU W c t).cpus c=Yn W c t:=(QA _ _ c0 c1 c0).trans (if_pos rfl);have hl:(YU W c t).cpus.length=W.cpus.length:=List.length_set;have hup:(Yn W c t).up=true:=by unfold Yn; split <;> exact up
 have hr:=rb.c c c0 c1;have hcu:=sw.cu c c0 c1;refine⟨sw.setCp c0 c1 (BE (c:=c) (by rw[List.length_set]; exact sw.a.c2) c0 (by rw[List.length_set]; exact c1) (by rw[show gi (W.cpus.set c.toNat (Yn W c t)) c=_ from e]; exact hup)) ?_ ?_,rb.setCp c0 c1 ?_,by rw[e]; exact hup,?_,?_,hl⟩
 ·unfold Yn; split
  ·show -1<=t; omega
  ·exact hcu.1
 ·unfold Yn; split
  ·exact t1
  ·exact hcu.2
 ·unfold Yn; split
  ·exact⟨hr.1,hr.2.1,hr.2.2.1,hr.2.2.2.1,by show (0:Int)<=0; decide,by show (0:Int)<=149; decide⟩
  ·exact hr
 ·rw[e];unfold Yn; split
  ·show (0:Int)<50; decide
  ·omega
 ·rw[e];unfold Yn; split
  ·rfl
  ·rename_i h;exact Decidable.byContradiction fun hn=>h (.inl fun e=>hn e.symm)
structure zy3 (f:Nat) (c:Int) (W0 W:Q8) (left:Int):Prop where
 line:zms W (Qn W c) c
 us:Q6 W.groups (Q7 W (Qn W c)).group=true
 pin:∀g∈YK W (Qn W c),Q6 W.groups g=true
 len:(YK W (Qn W c)).length<=4
 s1:SW (ED (f+1)) (YU W c (Qn W c))
 r1:RB (Bp (f+1)) (YU W c (Qn W c))
 ran:(gi (YU W c (Qn W c)).cpus c).ran<50
 tk:zqk (ED (f+1)) c (YU W c (Qn W c)) (YO W c).1
 dr:∀g∈YK W (Qn W c),(gi (YU W c (Qn W c)).groups g).band.quota≠0->gi (gi (YU W c (Qn W c)).groups g).band.dry c=false
 m:(YO W c).2=true->1<=Uy W c left/\Uy W c left<=left
 ch:(YO W c).2=true->SW (ED (f+1)+5*Ql) (Pb (YO W c).1 c (Qn W c) (Uy W c left))/\RB (Bp (f+1)+500) (Pb (YO W c).1 c (Qn W c) (Uy W c left))
 nx:AK f c W0 (EC W c left).1 (EC W c left).2
 gt:QR W.groups (EC W c left).1.groups
end Go.Proofs.YtclpmgfpjeaibaaGreat
