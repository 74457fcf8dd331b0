/- Part 13 of what the law FnPull needs: the engine, the functions' propositions, the contracts. -/
import Derived.Test.YtclpmgfpjeaibaaGreatFnPullPl
namespace Go.Proofs.YtclpmgfpjeaibaaGreat
open Go.RowKit
set_option linter.unusedVariables false
set_option linter.unusedSimpArgs false
set_option maxRecDepth 10000
set_option maxHeartbeats 8000000
def YI(W:Q8)(k:Int):Nat->Q8
 | 0=>W
 | c+1=>if gi (gi (YI W k c).groups k).band.locals (c:Int)>0/\QO (YI W k c) k (c:Int)=false then setBd (YI W k c) k (Yw (gi (YI W k c).groups k).band (c:Int)) else YI W k c
def X1(W:Q8):Nat->Q8
 | 0=>W
 | k+1=>if (gi (X1 W k).groups (k:Int)).used=true/\(gi (X1 W k).groups (k:Int)).band.quota≠0 then YI (X1 W k) (k:Int) (X1 W k).cpus.length else X1 W k
def H9(W:Q8):Q8:=X1 W 8
structure VE (W W':Q8):Prop where
 n:W'.now=W.now
 c:W'.cpus=W.cpus
 t:W'.tasks=W.tasks
 g:QR W.groups W'.groups
 s:∀i:Int,0<=i->(gi W'.groups i).shelves=(gi W.groups i).shelves
theorem VE.refl(W:Q8):VE W W:=⟨rfl,rfl,rfl,QR.refl _,fun _ _=>rfl⟩
theorem VE.trans{A B C:Q8}(h:VE A B)(k:VE B C):VE A C:=⟨k.n.trans h.n,k.c.trans h.c,k.t.trans h.t,h.g.trans k.g,fun i hi=>(k.s i hi).trans (h.s i hi)⟩
theorem ze8{W:Q8}{g:Int}{b:JH}(h0:0<=g)(h1:g<(W.groups.length:Int)):VE W (setBd W g b):=⟨rfl,rfl,rfl,Jw h0 h1 rfl rfl rfl,fun i hi=>by
 unfold setBd;rw[Yt h0 h1 hi];split
 ·rename_i e; subst e; rfl
 ·rfl⟩
theorem SF.onlyB{F K:Int}{W W':Q8}(h:SF F K W)(ho:VE W W')(ha:WA W'):SF F K W':=by
 have e:∀k c:Int,Q6 W'.groups k=true->Qb W' k c=Qb W k c:=fun k c hu=>by unfold Qb; rw[ho.s k (Q5.1 hu).1]
 have et:∀t:Int,Q7 W' t=Q7 W t:=fun t=>by unfold Q7; rw[ho.t]
 refine⟨⟨ha,fun t a b n=>?_,fun t a b=>by rw[et]; exact h.w.tv t a b,fun k c u a b=>?_,fun c a b=>?_⟩,fun k c u a b=>?_⟩
 ·rw[et] at n ⊢; rw[ho.g.usd,ho.c]; exact h.w.t t a b n
 ·rw[e k c u]; rw[ho.g.usd] at u; rw[ho.c] at b; exact h.w.s k c u a b
 ·rw[ho.c] at b ⊢; exact h.w.cu c a b
 ·rw[e k c u]; rw[ho.g.usd] at u; rw[ho.c] at b; exact h.f k c u a b
theorem WA.setBd{W:Q8}(ha:WA W){g:Int}{b:JH}(hu:Q6 W.groups g=true)(hq:(gi W.groups g).band.quota≠0)(hb:Tc b)(hl:b.locals.length=W.cpus.length)(he:b.quota=(gi W.groups g).band.quota):WA (setBd W g b):=by
 obtain⟨u0,u1,hg⟩:=ha.u hu;have hb0:=hg.band hq;refine ha.set u0 u1 rfl rfl rfl (fun hn=>?_) fun _=>⟨hg.w1,hg.w2,hg.m,hg.m0,hg.s,hg.len,fun h=>⟨(hg.root h).1,(hg.root h).2.1,by show b.quota=0; rw[he]; exact(hg.root h).2.2⟩,fun h=>absurd (he.symm.trans h) hq,fun _=>⟨hb,hl,hb0.2.2⟩⟩
 have:(gi W.groups g).used=false:=hn;rw[(Q5.1 hu).2.2] at this;cases this
theorem E3{F K:Int}{W:Q8}(h:SF F K W){k:Int}(hu:Q6 W.groups k=true)(hq:(gi W.groups k).band.quota≠0):∀c:Nat,c<=W.cpus.length->SF F K (YI W k c)/\VE W (YI W k c)/\(gi (YI W k c).groups k).band.quota≠0
 | 0,_=>⟨h,VE.refl _,hq⟩
 | c+1,hc=>by
  obtain⟨a,b,q⟩:=E3 h hu hq c (by omega);simp only[YI];split
  ·rename_i hcond;have hu':Q6 (YI W k c).groups k=true:=by rw[b.g.usd]; exact hu
   obtain⟨u0,u1,hg⟩:=a.w.a.u hu';have hb:=hg.band q;have hl:=a.w.a.gl;have hcl:(YI W k c).cpus.length=W.cpus.length:=by rw[b.c]
   obtain⟨g1,g2,g3⟩:=zi6 hb.1 (c:=(c:Int)) (by omega) (by omega) hcond.1;have ho:=ze8 (W:=YI W k c) (b:=Yw (gi (YI W k c).groups k).band (c:Int)) u0 (by omega);refine⟨a.onlyB ho (a.w.a.setBd hu' q g1 (by rw[g2,hb.2.1]) g3),b.trans ho,?_⟩;show (gi (setGr _ k _).groups k).band.quota≠0;rw[Yt u0 (by omega) u0,if_pos rfl];exact fun e=>q (by rw[<-g3]; exact e)
  ·exact⟨a,b,q⟩
theorem Od{F K:Int}{W:Q8}(h:SF F K W):∀k:Nat,k<=8->SF F K (X1 W k)/\VE W (X1 W k)
 | 0,_=>⟨h,VE.refl _⟩
 | k+1,hk=>by
  obtain⟨a,b⟩:=Od h k (by omega);simp only[X1];split
  ·rename_i hc;have hl:=a.w.a.gl;obtain⟨a2,b2,_⟩:=E3 a (k:=(k:Int)) (Q5.2 ⟨by omega,by omega,hc.1⟩) hc.2 _ (Nat.le_refl _);exact⟨a2,b.trans b2⟩
  ·exact⟨a,b⟩
def Fy(W:Q8)(k c:Int):KE:={ Qb W k c with floor:=Z7 W k c 20 }
def QZ(W:Q8)(c:Int):Nat->Q8
 | 0=>W
 | k+1=>if (gi (QZ W c k).groups (k:Int)).used=true/\ZK (QZ W c k) (k:Int) c 20=true/\Z7 (QZ W c k) (k:Int) c 20>(Qb (QZ W c k) (k:Int) c).floor then setSh (QZ W c k) (k:Int) c (Fy (QZ W c k) (k:Int) c) else QZ W c k
def Zm(W:Q8)(c:Int):Q8:=QZ W c 8
theorem zku{K:Int}{W:Q8}(h:SW K W){k c:Int}(c0:0<=c)(c1:c<(W.cpus.length:Int))(hK:0<=K):0<=Z7 W k c 20/\Z7 W k c 20<=K:=by
 unfold Z7;split
 ·omega
 ·rename_i hn;have hl:=h.a.gl;rcases Zb (Ze W k c) (Zf W c) 20 with h1 | h1
  ·omega
  ·obtain⟨j,hj⟩:∃j:Nat,QI (Ze W k c) (Zf W c) 20=(j:Int):=⟨(QI (Ze W k c) (Zf W c) 20).toNat,by omega⟩;rw[hj,Int.toNat_natCast] at h1 ⊢;have hp:=h1.2.2.1;unfold Zf
   by_cases h12:j<12
   ·rw[if_pos h12];exact h.tv (j:Int) (by omega) (by omega)
   ·rw[if_neg h12];unfold Ze at hp;rw[if_neg h12] at hp;unfold Jg at hp;simp only[Bool.and_eq_true] at hp;have hu:Q6 W.groups ((j-12:Nat):Int)=true:=Q5.2 ⟨by omega,by omega,hp.1.2.1⟩;have:=h.s _ c hu c0 c1;omega
theorem Ge{K:Int}{W:Q8}(h:SW K W)(hK:0<=K){c:Int}(c0:0<=c)(c1:c<(W.cpus.length:Int)):∀k:Nat,k<=8->SW K (QZ W c k)/\JL W (QZ W c k)
 | 0,_=>⟨h,JL.refl _⟩
 | k+1,hk=>by
  obtain⟨a,b⟩:=Ge h hK c0 c1 k (by omega);have hl:=a.a.gl;have c1':c<((QZ W c k).cpus.length:Int):=by rw[b.c]; exact c1
  simp only[QZ];split
  ·rename_i hc;have hu:Q6 (QZ W c k).groups (k:Int)=true:=Q5.2 ⟨by omega,by omega,hc.1⟩;have s1:=a.s _ c hu c0 c1';have br:=zku a (k:=(k:Int)) c0 c1' hK;exact⟨(a.sf.setSh (s:=Fy (QZ W c k) (k:Int) c) hu c0 c1' br.1 br.2 br.2 s1.2.2.1 s1.2.2.2.1 s1.2.2.2.2.1 s1.2.2.2.2.2).w,b.trans (MT (by omega) (by omega))⟩
  ·exact⟨a,b⟩
def XK(x:M0):M0:={ x with cur := -1,ran:=0 }
def endW(W:Q8)(c:Int):Q8:=setCp W c (XK (gi W.cpus c))
theorem zoe{cs cs':List M0}:∀k:Nat,(∀j:Nat,j<k->(gi cs' (j:Int)).up=(gi cs (j:Int)).up)->UJ cs' k=UJ cs k
 | 0,_=>rfl
 | k+1,h=>by simp only[UJ]; rw[zoe k fun j hj=>h j (by omega),h k (by omega)]
theorem zh7{cs cs':List M0}(hl:cs'.length=cs.length)(h:∀j:Nat,j<cs.length->(gi cs' (j:Int)).up=(gi cs (j:Int)).up):Jr cs'=Jr cs:=by
 unfold Jr;rw[hl];exact zoe _ h
theorem WA.cp{W:Q8}(ha:WA W){cs:List M0}(hl:cs.length=W.cpus.length)(hu:Jr cs≠0):WA { W with cpus:=cs }:=
 ⟨ha.n1,ha.n2,by show 1<=cs.length; rw[hl]; exact ha.c1,by show cs.length<=4; rw[hl]; exact ha.c2,ha.t,ha.tree,hu,fun k a b=>by
  have:=ha.grp k a b;refine⟨this.1,fun hu=>?_⟩;have hg:=this.2 hu
  exact⟨hg.w1,hg.w2,hg.m,hg.m0,hg.s,by show (gi W.groups k).shelves.length=cs.length; rw[hl]; exact hg.len,hg.root,hg.none,fun q=>by
   have:=hg.band q;exact⟨this.1,by show (gi W.groups k).band.locals.length=cs.length; rw[hl]; exact this.2.1,this.2.2⟩⟩⟩
theorem SW.endW{K:Int}{W:Q8}(h:SW K W){c:Int}(c0:0<=c)(c1:c<(W.cpus.length:Int)):SW K (endW W c):=by
 have hl:(W.cpus.set c.toNat (XK (gi W.cpus c))).length=W.cpus.length:=List.length_set;have hg:∀d:Int,0<=d->gi (W.cpus.set c.toNat (XK (gi W.cpus c))) d=if c=d then XK (gi W.cpus c) else gi W.cpus d:=fun d d0=>QA _ _ c0 c1 d0
 refine⟨h.a.cp hl ?_,fun t a b n=>?_,h.tv,fun k d u a b=>?_,fun d a b=>?_⟩
 ·rw[zh7 hl fun j hj=>?_]
  ·exact h.a.ups
  ·rw[hg _ (by omega)];split
   ·rename_i e; rw[e]; rfl
   ·rfl
 ·show _/\_/\_<(((W.cpus.set c.toNat (XK (gi W.cpus c))).length:Nat):Int);rw[hl];exact h.t t a b n
 ·have b:d<(((W.cpus.set c.toNat (XK (gi W.cpus c))).length:Nat):Int):=b;rw[hl] at b;exact h.s k d u a b
 ·have b:d<(((W.cpus.set c.toNat (XK (gi W.cpus c))).length:Nat):Int):=b;rw[hl] at b;show _<=(gi (W.cpus.set c.toNat (XK (gi W.cpus c))) d).cur/\_;rw[show (gi (YtclpmgfpjeaibaaGreat.endW W c).cpus d).cur=(gi (W.cpus.set c.toNat (XK (gi W.cpus c))) d).cur from rfl,hg _ a];split
  ·exact⟨Int.le_refl _,show (-1:Int)<12 by decide⟩
  ·exact h.cu d a b
def Kq(W:Q8)(c:Int):Bool:=decide ((gi W.cpus c).cur>=0)&&(((Q7 W (gi W.cpus c).cur).cpu != c) || !Z9 W (gi W.cpus c).cur)
def T9(W:Q8)(c:Int):Q8:=if Kq (Zm (QJ W c) c) c=true then endW (Zm (QJ W c) c) c else Zm (QJ W c) c
def U2(W:Q8):Nat->Q8
 | 0=>W
 | c+1=>T9 (U2 W c) (c:Int)
def Qg(W:Q8):Q8:=U2 (H9 (YP W W.cpus.length)) W.cpus.length
structure Fr (W W':Q8):Prop where
 n:W'.now=W.now
 c:W'.cpus.length=W.cpus.length
 t:W'.tasks=W.tasks
 g:QR W.groups W'.groups
theorem Fr.refl(W:Q8):Fr W W:=⟨rfl,rfl,rfl,QR.refl _⟩
theorem Fr.trans{A B C:Q8}(h:Fr A B)(k:Fr B C):Fr A C:=⟨k.n.trans h.n,k.c.trans h.c,k.t.trans h.t,h.g.trans k.g⟩
theorem JL.fr{W W':Q8}(h:JL W W'):Fr W W':=⟨h.n,by rw[h.c],h.t,h.g⟩
theorem VE.fr{W W':Q8}(h:VE W W'):Fr W W':=⟨h.n,by rw[h.c],h.t,h.g⟩
theorem CT(W:Q8)(c:Int):Fr W (endW W c):=⟨rfl,List.length_set,rfl,QR.refl _⟩
theorem zsv{K:Int}{W:Q8}(h:SW K W)(hK:0<=K){c:Int}(c0:0<=c)(c1:c<(W.cpus.length:Int)):SW (K+Ql) (T9 W c)/\Fr W (T9 W c):=by
 obtain⟨a1,b1⟩:=FT (F:=K) (K:=K+Ql) (h.sf.mono (Int.le_refl _) (by simp only[Ql]; omega)) (Int.le_refl _) c0 c1;obtain⟨a2,b2⟩:=Ge a1.w (by simp only[Ql]; omega) c0 (c:=c) (by rw[b1.c]; exact c1) 8 (by omega);have hf:=b1.fr.trans b2.fr;unfold T9;split
 ·exact⟨SW.endW a2 c0 (by show c<((QZ (QJ W c) c 8).cpus.length:Int); rw[hf.c]; exact c1),hf.trans (CT _ _)⟩
 ·exact⟨a2,hf⟩
theorem LS{K:Int}{W:Q8}(h:SW K W)(hK:0<=K):∀c:Nat,c<=W.cpus.length->SW (K+(c:Int)*Ql) (U2 W c)/\Fr W (U2 W c)
 | 0,_=>⟨h.mono (by simp),Fr.refl _⟩
 | c+1,hc=>by
  obtain⟨a,b⟩:=LS h hK c (by omega);obtain⟨a2,b2⟩:=zsv a (by simp only[Ql]; omega) (c:=(c:Int)) (by omega) (by rw[b.c]; omega);exact⟨a2.mono (by simp only[Ql]; omega),b.trans b2⟩
abbrev Vm:Int:=5*Ql
theorem U1{K:Int}{W:Q8}(h:SW K W)(hK:0<=K):SW (K+Vm) (Qg W)/\Fr W (Qg W):=by
 obtain⟨a1,b1⟩:=P4 (F:=K) (K:=K+Ql) (h.sf.mono (Int.le_refl _) (by simp only[Ql]; omega)) (Int.le_refl _) W.cpus.length (Nat.le_refl _);obtain⟨a2,b2⟩:=Od a1 8 (by omega);have hf:=b1.fr.trans b2.fr;obtain⟨a3,b3⟩:=LS a2.w (by simp only[Ql]; omega) W.cpus.length (by show W.cpus.length<=(X1 (YP W W.cpus.length) 8).cpus.length; rw[hf.c]; exact Nat.le_refl _);have:=h.a.c2;exact⟨a3.mono (by simp only[Ql,Vm]; omega),hf.trans b3⟩
abbrev Qq:Int:=50000000000000000
structure H3 (W:Q8):Prop where
 n:W.now<=Qq
 c:∀c:Int,0<=c->c<(W.cpus.length:Int)->(gi W.cpus c).busy<=Qq/\(gi W.cpus c).idle<=Qq
 t:∀t:Int,0<=t->t<(W.tasks.length:Int)->(gi W.tasks t).v<=Qq/\(gi W.tasks t).sum<=Qq/\(gi W.tasks t).used<=Qq
 g:∀k:Int,0<=k->k<(W.groups.length:Int)->(gi W.groups k).sum<=Qq
 s:∀k c:Int,0<=k->k<(W.groups.length:Int)->0<=c->c<((gi W.groups k).shelves.length:Int)->(Qb W k c).floor<=Qq/\(Qb W k c).v<=Qq/\(Qb W k c).sum<=Qq
noncomputable def QG(W:Q8):Bool:=JJ (H3 W)
theorem PK{W:Q8}(wp:YW W)(r:H3 W):SW Qq W:=by
 have ht:=wp.a.t;have hg:=wp.a.gl;refine⟨wp.a,fun t t0 t1 n=>?_,fun t t0 t1=>?_,fun k c u c0 c1=>?_,fun c c0 c1=>?_⟩
 ·rcases wp.t t t0 t1 with h | h
  ·exact absurd h.1 n
  ·exact⟨h.2.g,L9 wp.a h.2.c⟩
 ·refine⟨?_,(r.t t t0 (by omega)).1⟩;rcases wp.t t t0 t1 with h | h
  ·rw[h.2]; exact Int.le_refl _
  ·exact(Y3.1 h.2.v).1
 ·obtain⟨u0,u1,_⟩:=Q5.1 u;have hl:=wp.a.sl u;have hs:=wp.s k c u0 (by omega) c0 (by omega);have hr:=r.s k c u0 u1 c0 (by omega);exact⟨(Y3.1 hs.f).1,hr.1,(Y3.1 hs.v).1,hr.2.1,hs.w1,hs.w2⟩
 ·have hc:=wp.c c c0 c1;have h1:=hc.c1;have h2:=hc.c2;omega
theorem WA.tk{W:Q8}(ha:WA W){ts:List Mw}(hl:ts.length=W.tasks.length):WA { W with tasks:=ts }:=
 ⟨ha.n1,ha.n2,ha.c1,ha.c2,by show ts.length=12; rw[hl]; exact ha.t,ha.tree,ha.ups,fun k a b=>by
  have:=ha.grp k a b;refine⟨this.1,fun hu=>?_⟩;have hg:=this.2 hu;exact⟨hg.w1,hg.w2,hg.m,hg.m0,hg.s,hg.len,hg.root,hg.none,hg.band⟩⟩
theorem SW.setTk{K:Int}{W:Q8}(h:SW K W){t:Int}(t0:0<=t)(t1:t<12){x:Mw}(hx:x.state≠0->Q6 W.groups x.group=true/\0<=x.cpu/\x.cpu<(W.cpus.length:Int))(v0:0<=x.v)(v1:x.v<=K):SW K (setTk W t x):=by
 have hl:=h.a.t;have e:∀i:Int,0<=i->Q7 (YtclpmgfpjeaibaaGreat.setTk W t x) i=if t=i then x else Q7 W i:=fun i i0=>QA _ _ t0 (by omega) i0
 refine⟨h.a.tk List.length_set,fun i a b n=>?_,fun i a b=>?_,h.s,h.cu⟩
 ·rw[e i a] at n ⊢;split
  ·rename_i he; rw[if_pos he] at n; exact hx n
  ·rename_i he; rw[if_neg he] at n; exact h.t i a b n
 ·rw[e i a];split
  ·exact⟨v0,v1⟩
  ·exact h.tv i a b
def K3:Q8:=⟨0,[],[],[]⟩
def zu0:MW:=⟨none,0,none,0,none,0,fun _=>⟨none,0,none,0,none,0⟩⟩
noncomputable def Xc(W:Q8)(bar:Int)(W':Q8):Q8×Int:=if Qv W=false then (K3,1) else if bar≠0 then (W,bar) else (W',0)
theorem zto{W W':Q8}{bar:Int}(h:Qv W=false):Xc W bar W'=(K3,1):=if_pos h
theorem ztp{W W':Q8}{bar:Int}(h:Qv W=true)(hb:bar≠0):Xc W bar W'=(W,bar):=by unfold Xc; rw[if_neg (by rw[h]; decide),if_pos hb]
theorem zwc{W W':Q8}{bar:Int}(h:Qv W=true)(hb:bar=0):Xc W bar W'=(W',0):=by unfold Xc; rw[if_neg (by rw[h]; decide),if_neg (by simpa using hb)]
def Zz(W:Q8)(t:Int):Bool:=Yh t 0 ((W.tasks.length:Int)-1)&&((Q7 W t).state != 0)
theorem Yc{W:Q8}{t:Int}(h:Zz W t=true):0<=t/\t<(W.tasks.length:Int)/\(Q7 W t).state≠0:=by
 unfold Zz at h;simp only[Bool.and_eq_true,bne_iff_ne,ne_eq] at h;have:=Qm.1 h.1;exact⟨by omega,by omega,h.2⟩
noncomputable def Tp(W:Q8)(t:Int):Int:=if Zz W t=false then 2 else if (Q7 W t).state≠1 then 6 else if QG W=false then 10 else 0
def zkw(W:Q8)(t:Int):Q8:=Qg (setTk W t { Q7 W t with state:=2 })
theorem zij{W:Q8}{t:Int}(hW:Qv W=true)(hb:Tp W t=0):Zz W t=true/\(Q7 W t).state=1/\SW Qq W/\SW Qq (setTk W t { Q7 W t with state:=2 }):=by
 have wp:=Qh.1 hW;unfold Tp at hb
 split at hb
 ·cases hb
 ·rename_i h1
  split at hb
  ·cases hb
  ·rename_i h2
   split at hb
   ·cases hb
   ·rename_i h3;have h1:Zz W t=true:=by simpa using h1
    have h2:(Q7 W t).state=1:=by simpa using h2
    have h3:QG W=true:=by simpa using h3
    have sw:=PK wp (Qh.1 h3);obtain⟨t0,t1,n⟩:=Yc h1;have hl:=wp.a.t;have hv:=sw.tv t t0 (by omega);exact⟨h1,h2,sw,sw.setTk t0 (by omega) (fun _=>sw.t t t0 (by omega) n) hv.1 hv.2⟩
def Ul(b:JH):JH:=⟨b.quota,b.quota,0,List.replicate b.dry.length 0,List.replicate b.dry.length false⟩
def YL(b:JH)(c:Int):JH×Int:=
 if gi b.locals c>0 then (b,0)
 else (⟨b.quota,b.pool-Y2 20 b.pool,b.spent,b.locals.set c.toNat (Y2 20 b.pool),b.dry.set c.toNat (Y2 20 b.pool==0)⟩,if Y2 20 b.pool=0 then 2 else 0)
def TR(b:JH)(c n:Int):JH×Int:=
 if n<1\/n>gi b.locals c then (b,3) else ({ b with spent:=b.spent+n,locals:=b.locals.set c.toNat (gi b.locals c-n) },0)
def YM(b:JH)(op:zvv):JH×Int:=
 if op.kind=4 then (Ul b,0)
 else if Yh op.at' 0 ((b.locals.length:Int)-1)=false then (b,1)
 else if op.kind=1 then YL b op.at'
 else if op.kind=2 then TR b op.at' op.n
 else if op.kind=3 then (Yw b op.at',0)
 else (b,1)
structure QY (base:Nat) (w:Wo) (b:JH) (p:MG):Prop where
 loc:U4 Ji 1 Qd base w p.lO p.lC b.locals
 dry:U4 KM 1 YD base w p.dO p.dC b.dry
def ZO(p:MG):List Nat:=QB p.lO++QB p.dO
theorem QY.lt{base:Nat}{w:Wo}{b:JH}{p:MG}(h:QY base w b p):∀x∈ZO p,base<=x/\x<w.heap.size:=fun x hx=>by
 rcases List.mem_append.1 hx with hx | hx
 ·exact h.loc.lt x hx
 ·exact h.dry.lt x hx
theorem QY.ext{base:Nat}{w w':Wo}{b:JH}{p:MG}{bs:List Nat}(h:QY base w b p)(hx:Q0 bs w w')(hd:∀x∈ZO p,x∉bs):QY base w' b p:=
 ⟨h.loc.ext hx fun x hm=>hd x (List.mem_append_left _ hm),h.dry.ext hx fun x hm=>hd x (List.mem_append_right _ hm)⟩
theorem QY.ext0{base:Nat}{w w':Wo}{b:JH}{p:MG}(h:QY base w b p)(hx:Q0 [] w w'):QY base w' b p:=h.ext hx (by simp)
theorem QY.extB{base:Nat}{w w':Wo}{b:JH}{p:MG}{bs:List Nat}(h:QY base w b p)(hx:Q0 bs w w')(hb:∀x∈bs,x<base):QY base w' b p:=h.ext hx fun x hm hm'=>by
 have:=(h.lt x hm).1;have:=hb x hm';omega
theorem QY.mono{base base':Nat}{w:Wo}{b:JH}{p:MG}(h:QY base w b p)(hb:base'<=base):QY base' w b p:=⟨h.loc.mono hb,h.dry.mono hb⟩
theorem QY.stoL{base:Nat}{w:Wo}{b:JH}{p:MG}(h:QY base w b p){c:Int}(c0:0<=c)(c1:c<(b.locals.length:Int))(x:Int):QY base (sto w p.lO (Int.toNat c*1) [.int .i64 x]) { b with locals:=b.locals.set c.toNat x } p:=
 ⟨h.loc.sto Y5.len c0 c1 (j:=0) (vs:=[.int .i64 x]) (x:=x) rfl (by simp),h.dry.ext (h.loc.stoX _ _) (h.dry.ty_ne h.loc (by decide))⟩
theorem QY.stoD{base:Nat}{w:Wo}{b:JH}{p:MG}(h:QY base w b p){c:Int}(c0:0<=c)(c1:c<(b.dry.length:Int))(x:Bool):QY base (sto w p.dO (Int.toNat c*1) [.bool x]) { b with dry:=b.dry.set c.toNat x } p:=
 ⟨h.loc.ext (h.dry.stoX _ _) (h.loc.ty_ne h.dry (by decide)),h.dry.sto Xw.len c0 c1 (j:=0) (vs:=[.bool x]) (x:=x) rfl (by simp)⟩
theorem QY.xL{base:Nat}{w:Wo}{b:JH}{p:MG}(h:QY base w b p)(n:Nat)(vs:List Va):Q0 (ZO p) w (sto w p.lO n vs):=(h.loc.stoX n vs).mono fun x hx=>List.mem_append_left _ hx
theorem QY.xD{base:Nat}{w:Wo}{b:JH}{p:MG}(h:QY base w b p)(n:Nat)(vs:List Va):Q0 (ZO p) w (sto w p.dO n vs):=(h.dry.stoX n vs).mono fun x hx=>List.mem_append_right _ hx
section
variable {b:JH}{m:MG}{w:Wo}
theorem LV{α:Type}[Inhabited α]{l:List α}{i:Nat}(h:i<l.length):l.take i++[gi l (i:Int)]=l.take (i+1):=by
 rw[List.take_succ_eq_append_getElem h,J2 h]
theorem Ed(h1:zok [] w m.lO b.locals)(h2:ztl [] w m.dO b.dry)(hd:b.dry.length=b.locals.length)(hl:b.locals.length<=1048576) :
  Cz TX #[.agg (Z6 b m).toArray] w fun e w'=>∃p,e=.returned (.agg (Z6 b p).toArray)/\QY w.heap.size w' b p/\Q0 [] w w':=by
 refine(zgr b.quota b.pool b.spent m.lO b.locals.length m.lC m.dO b.dry.length m.dC (R:=fun v w'=>∃p,v=.agg (Z6 b p).toArray/\QY w.heap.size w' b p/\Q0 [] w w') ?_).mono fun e w' ⟨v,he,p,hv,h3⟩=>⟨p,by rw[he,hv],h3⟩
 intro x hx0 x5 hx5 x6 hx6
 refine⟨fun vs w1=>∃(i:Nat) (p:MG),vs=[.int .i64 (i:Int),.int .i64 b.quota,.int .i64 b.pool,.int .i64 b.spent,.slice p.lO (b.locals.take i).length p.lC,.slice p.dO (b.dry.take i).length p.dC]/\i<=b.locals.length/\Sc w [x,x5,x6] w1/\Ob Ji 1 Qd w.heap.size [x,x5,x6] w1 p.lO p.lC (b.locals.take i)/\Ob KM 1 YD w.heap.size [x,x5,x6] w1 p.dO p.dC (b.dry.take i),
  Zu b.locals.length 0,fun wr hx _=>⟨0,⟨none,0,none,0,none,0⟩,by simp,Nat.zero_le _,(((Sc.start w).add hx0).add hx5 |>.add hx6).call0 hx,⟨.inl ⟨rfl,rfl,rfl⟩,by simp[QB]⟩,⟨.inl ⟨rfl,rfl,rfl⟩,by simp[QB]⟩⟩,?_⟩
 rintro c1 l l1 l2 l3O l3L l3C l4O l4L l4C wv hs ⟨i,p,he,hi,s1,hO,hD⟩;simp only[List.cons.injEq,Value.int.injEq,Value.slice.injEq,true_and,and_true] at he;obtain⟨rfl,rfl,rfl,rfl,⟨rfl,rfl,rfl⟩,rfl,rfl,rfl⟩:=he;refine⟨fun hlt=>?_,fun hge=>?_⟩
 ·have hlt:=Ot hlt;have hr1:=h1.scb s1;refine⟨hr1.ix VI (by omega) hlt,_,hr1 i (by omega) hlt,fun b8 hb8=>⟨rfl,fun wr3 hx3 hs3 hcell=>?_⟩⟩;have s2:=s1.put hx3 hb8;have hO2:=hO.put hx3 hb8;have hD2:=hD.put hx3 hb8;obtain⟨o2,c2,w2,hrun,hk2,hO3,hy2⟩:=hO2.app1 Y5 PM (x:=gi b.locals (i:Int)) hs3 s2.ext.size hcell (zxe _) (by rw[List.length_take]; omega) (by decide) Zs #[false,false];rw[LV (by omega)] at hrun hO3;have s3:=s2.call hy2 fun x hm=>(hO2.own.lt x hm).1
  have hD3:=hD2.call hy2 (hD2.own.ty_ne hO2.own (by decide));have hr2:=h2.scb s3;refine⟨_,_,_,w2,hrun,hk2,hr2.ix CE (by omega) (by omega),_,hr2 i (by omega) (by omega),fun b9 hb9=>⟨rfl,fun wr4 hx4 hs4 hcell4=>?_⟩⟩;have s4:=s3.put hx4 hb9;have hO4:=hO3.put hx4 hb9;have hD4:=hD3.put hx4 hb9;obtain⟨o4,c4,w4,hrun4,hk4,hD5,hy4⟩:=hD4.app1 Xw BD (x:=gi b.dry (i:Int)) hs4 s4.ext.size hcell4 (zy6 _) (by rw[List.length_take]; omega) (by decide) Vq #[false,false];rw[LV (by omega)] at hrun4 hD5;have s5:=s4.call hy4 fun x hm=>(hD4.own.lt x hm).1
  have hO5:=hO4.call hy4 (hO4.own.ty_ne hD4.own (by decide));refine⟨_,_,_,w4,hrun4,hk4,⟨by omega,by omega⟩,fun w5 hx5 _=>⟨⟨i+1,⟨o2,c2,o4,c4,none,0⟩,rfl,by omega,(s5.step hx5).sub (by simp),(hO5.step hx5).sub (by simp),(hD5.step hx5).sub (by simp)⟩,?_⟩⟩;simp only[Zu,Jh,ZZ,List.getElem?_cons_zero];omega
 ·have hge:=Ou hge;have e1:b.locals.take i=b.locals:=List.take_of_length_le (by omega);have e2:b.dry.take i=b.dry:=List.take_of_length_le (by omega);rw[e1] at hO ⊢;rw[e2] at hD ⊢;exact fun w2 hx2=>⟨p,rfl,⟨(hO.step hx2).own,(hD.step hx2).own⟩,(s1.step hx2).ext⟩
theorem zs8(l:List Bool)(k:Nat)(h:k<l.length):(List.replicate k false++l.drop k).set k false=List.replicate (k+1) false++l.drop (k+1):=by
 rw[List.set_append,if_neg (by simp),List.length_replicate,Nat.sub_self,List.drop_eq_getElem_cons h,List.set_cons_zero,List.replicate_succ',List.append_assoc,List.singleton_append]
theorem Ee{base:Nat}(h:QY base w b m)(hl:b.dry.length<=1048576) :
  Cz TY #[.agg (Z6 b m).toArray] w fun e w'=>e=.returned (.agg (Z6 b m).toArray)/\QY base w' { b with dry:=List.replicate b.dry.length false } m/\Q0 (ZO m) w w':=by
 refine(zgs b.quota b.pool b.spent m.lO b.locals.length m.lC m.dO b.dry.length m.dC (R:=fun v w'=>v=.agg (Z6 b m).toArray/\QY base w' { b with dry:=List.replicate b.dry.length false } m/\Q0 (ZO m) w w') ?_).mono fun e w' ⟨v,he,hv,h3⟩=>⟨by rw[he,hv],h3⟩
 intro x hx0 x5 hx5
 have hnb:∀y∈ZO m,y∉[x,x5]:=fun y hy hm=>by
  have:=(h.lt y hy).2;simp only[List.mem_cons,List.not_mem_nil,or_false] at hm;rcases hm with rfl | rfl <;> omega
 have hfr:∀y∈[x,x5],w.heap.size<=y:=fun y hm=>by
  simp only[List.mem_cons,List.not_mem_nil,or_false] at hm;rcases hm with rfl | rfl <;> assumption
 refine TM b.dry.length 0 rfl (fun k w1=>k<=b.dry.length/\QY base w1 { b with dry:=List.replicate k false++b.dry.drop k } m/\Q0 (ZO m) w w1) (fun w1 hx1 _=>⟨Nat.zero_le _,by simpa using h.ext0 hx1,hx1.of_nil⟩) fun k w1 hs ⟨hk,hO,hX⟩=>⟨fun hlt=>?_,fun hge=>?_⟩
 ·have hlt:=Ot hlt;have hlen:(List.replicate k false++b.dry.drop k).length=b.dry.length:=by simp; omega
  have e1:=hO.stoD (c:=(k:Int)) (by omega) (by show (k:Int)<((List.replicate k false++b.dry.drop k).length:Int); rw[hlen]; exact hlt) false;have e2:({ b with dry:=(List.replicate k false++b.dry.drop k).set k false }:JH)={ b with dry:=List.replicate (k+1) false++b.dry.drop (k+1) }:=by rw[zs8 _ _ (by omega)]
  have hix:=hO.dry.ix (i:=(k:Int)) (by omega) (by show (k:Int)<((List.replicate k false++b.dry.drop k).length:Int); rw[hlen]; exact hlt);have hwr:=hO.dry.wr Xw.len (bs:=[x,x5]) (fun y hy=>hnb y (List.mem_append_right _ hy)) (i:=(k:Int)) (by omega) (by show (k:Int)<((List.replicate k false++b.dry.drop k).length:Int); rw[hlen]; exact hlt) (j:=0) (n:=1) (by decide);refine⟨by rw[<-hlen]; exact hix,hwr,⟨by omega,by omega⟩,fun w2 hx2 _=>QM (by omega) ⟨by omega,?_,(hX.trans (hO.xD _ _)).fresh hx2 fun y hy=>.inl (hfr y hy)⟩⟩;rw[Int.toNat_natCast] at e1;have:=(e2▸e1:QY base (sto w1 m.dO (k*1) [.bool false]) { b with dry:=List.replicate (k+1) false++b.dry.drop (k+1) } m);exact this.ext (by rw[Int.toNat_natCast] at hx2; exact hx2) hnb
 ·have hge:=Ou hge;have hk2:k=b.dry.length:=by omega
  subst hk2;rw[List.drop_length,List.append_nil] at hO;exact fun w2 hx2=>⟨rfl,hO.ext hx2 hnb,hX.fresh hx2 fun y hy=>.inl (hfr y hy)⟩
theorem zhc{p:Int}(h:0<=p):0<=Y2 20 p/\Y2 20 p<=p:=by unfold Y2; split <;> omega
theorem Jt{op:zvv}(hb:Tc b)(h1:zok [] w m.lO b.locals)(h2:ztl [] w m.dO b.dry) :
  Cz Y9 #[.agg (Z6 b m).toArray,.agg (zq3 op).toArray] w fun e w'=>∃p,e=.returned (.tuple #[.agg (Z6 (YM b op).1 p).toArray,.int .i64 (YM b op).2])/\QY w.heap.size w' (YM b op).1 p/\Q0 [] w w':=by
 refine(zc1 b.quota b.pool b.spent m.lO b.locals.length m.lC m.dO b.dry.length m.dC op.kind op.at' op.n (R:=fun v w'=>∃p,v=.tuple #[.agg (Z6 (YM b op).1 p).toArray,.int .i64 (YM b op).2]/\QY w.heap.size w' (YM b op).1 p/\Q0 [] w w') ?_).mono fun e w' ⟨v,he,p,hv,h3⟩=>⟨p,by rw[he,hv],h3⟩
 have hm9:=Zl;have hl2:=hb.l2;have hdl:=hb.dl;have q1:=hb.q1;have q2:=hb.q2;have p1:=hb.p1;have p2:=hb.p2;have s1':=hb.s1;have s2':=hb.s2;intro x hx0 x5 hx5 x6 hx6;have hok:=Hd (bs:=[]) h1 h2 (by omega);rw[Qh.2 hb] at hok;refine⟨true,hok,fun h=>by simp at h,fun _ wr1 hx1 hs1=>?_⟩;have t1:=((((Sc.start w).add hx0).add hx5).add hx6).call0 hx1;refine(Ed (h1.ext hx1) (h2.ext hx1) hdl (by omega)).mono fun e wv ⟨p,he,hO,hy1⟩=>⟨_,_,_,_,_,_,_,_,_,he,Qe hy1 hs1,fun g4=>?_,fun g4=>?_⟩
 ·have g4:op.kind=4:=by simpa using g4
  have t2:=t1.call0 hy1;have hbl:∀y∈[x,x5,x6],y<wr1.heap.size:=hs1;refine fun wr2 hx2 hs2=>⟨_,_,_,_,LP Y5 PM b.dry.length (by omega) (by omega) wr2,Qe (Zc _ _) hs2,fun wr3 hx3 hs3=>?_⟩
  have hLo:=(Oh (enc:=Ji) Y5.len Qd b.dry.length (0:Int) wr2).ext hx3 fun y hy hm=>by
   have:y=wr2.heap.size:=by simpa[QB] using hy
   have:=hs2 y hm;omega
  have hD3:U4 KM 1 YD wr1.heap.size wr3 p.dO p.dC b.dry:=((hO.extB hx2 hbl).ext0 (Zc wr2 _)).extB hx3 hbl |>.dry
  have hsz1:wr1.heap.size<=wr2.heap.size:=Nat.le_trans hy1.size hx2.size;have hB3:QY wr1.heap.size wr3 { b with locals:=List.replicate b.dry.length 0 } ⟨some ⟨wr2.heap.size,0,none⟩,b.dry.length,p.dO,p.dC,none,0⟩:=⟨hLo.mono hsz1,hD3⟩;have t3:=((t2.step hx2).call0 (Zc wr2 (.cells ((List.replicate b.dry.length (0:Int)).flatMap Ji).toArray Qd))).step hx3;have hw:=Ee (b:=⟨b.quota,b.quota,0,List.replicate b.dry.length 0,b.dry⟩) (m:=⟨some ⟨wr2.heap.size,0,none⟩,b.dry.length,p.dO,p.dC,none,0⟩) (base:=wr1.heap.size) ⟨hB3.loc,hB3.dry⟩ (by show b.dry.length<=_; omega);simp only[Z6,List.length_replicate] at hw;refine Calls.mono hw fun e w4 ⟨he4,hO4,hy4⟩=>⟨_,_,_,_,_,_,_,_,_,he4,fun y hm=>hy4.block y (hs3 y hm) fun hm'=>?_,fun wr4 hx4=>⟨⟨some ⟨wr2.heap.size,0,none⟩,b.dry.length,p.dO,p.dC,none,0⟩,?_,?_,?_⟩⟩
  ·have:=(hB3.lt y hm').1;have:=hs1 y hm;omega
  ·have:YM b op=(Ul b,0):=by unfold YM; rw[if_pos g4]
   rw[this]; simp[Z6,Ul]
  ·have:YM b op=(Ul b,0):=by unfold YM; rw[if_pos g4]
   rw[this]
   exact(QY.mono ⟨hO4.loc,hO4.dry⟩ hx1.size).ext hx4 fun y hy hm=>by
    have:=(hB3.lt y hy).1;have:=hs1 y hm;omega
  ·exact((t3.call hy4 fun y hy=>Nat.le_trans hx1.size (hB3.lt y hy).1).step hx4).ext
 ·have g4:¬op.kind=4:=by simpa using g4
  have t2:=t1.call0 hy1
  have hbl:∀y∈ZO p,y∉[x,x5,x6]:=fun y hy hm=>by
   have:=(hO.lt y hy).1;have:=hs1 y hm;omega
  have hO0:QY w.heap.size wv b p:=hO.mono hx1.size
  have fin:∀{b':JH} {c:Int} {w1 w2:Wo},YM b op=(b',c)->QY w.heap.size w1 b' p->Q0 (ZO p) wv w1->Q0 [x,x5,x6] w1 w2->QY w.heap.size w2 (YM b op).1 p/\Q0 [] w w2:=fun e hB hX hx=>by
   rw[e];exact⟨hB.ext hx hbl,((t2.call hX fun y hy=>(hO0.lt y hy).1).step hx).ext⟩
  have hr1:zok [x,x5,x6] wv p.lO b.locals:=hO.loc.rd Y5.len fun y hy=>hbl y (List.mem_append_left _ hy)
  refine⟨⟨by omega,by omega⟩,_,Qi,fun g5 wr hx=>⟨p,?_,fin (b':=b) (c:=1) ?_ hO0 (Q0.refl _ _) hx⟩,fun g5=>?_⟩
  ·have:YM b op=(b,1):=by unfold YM; rw[if_neg g4,if_pos (by simpa using g5)]
   rw[this]; rfl
  ·unfold YM; rw[if_neg g4,if_pos (by simpa using g5)]
  have g5':Yh op.at' 0 ((b.locals.length:Int)-1)=true:=by simpa using g5
  have hbd:YM b op=if op.kind=1 then YL b op.at' else if op.kind=2 then TR b op.at' op.n else if op.kind=3 then (Yw b op.at',0) else (b,1):=by
   unfold YM; rw[if_neg g4,if_neg (by rw[g5']; decide)]
  obtain⟨c0,c1⟩:=Qm.1 g5';have c1:op.at'<(b.locals.length:Int):=by omega
  have he':=hb.each _ c0 c1;have hix:=hr1.ix VI c0 c1;have hwL:Xr [x,x5,x6] wv p.lO (Int.toNat op.at'*1) 1:=hO.loc.wr Y5.len (fun y hy=>hbl y (List.mem_append_left _ hy)) c0 c1 (j:=0) (by decide);refine⟨fun g6=>?_,fun g6=>?_⟩
  ·have g6:op.kind=1:=by simpa using g6
   rw[if_pos g6] at hbd;refine⟨hix,_,hr1 _ c0 c1,fun g7 wr hx=>⟨p,?_,fin (b':=b) (c:=0) ?_ hO0 (Q0.refl _ _) hx⟩,fun g7=>?_⟩
   ·rw[hbd]; unfold YL; rw[if_pos (Ot g7)]; rfl
   ·rw[hbd]; unfold YL; rw[if_pos (Ot g7)]
   have g7:=Ou g7;have ht:YL b op.at'=(⟨b.quota,b.pool-Y2 20 b.pool,b.spent,b.locals.set op.at'.toNat (Y2 20 b.pool),b.dry.set op.at'.toNat (Y2 20 b.pool==0)⟩,if Y2 20 b.pool=0 then 2 else 0):=by unfold YL; rw[if_neg g7]
   rw[ht] at hbd;have hm:=zhc p1;have e1:=hO0.stoL c0 c1 (Y2 20 b.pool);have e2:=e1.stoD (c:=op.at') c0 (by show op.at'<(b.dry.length:Int); omega) (Y2 20 b.pool==0);have hX:=(hO0.xL (Int.toNat op.at'*1) [.int .i64 (Y2 20 b.pool)]).trans (e1.xD (Int.toNat op.at'*1) [.bool (Y2 20 b.pool==0)]);refine⟨_,Je,⟨by omega,by omega⟩,hix,hwL,e1.dry.ix c0 (by show op.at'<(b.dry.length:Int); omega),e1.dry.wr Xw.len (fun y hy=>hbl y (List.mem_append_right _ hy)) c0 (by show op.at'<(b.dry.length:Int); omega) (j:=0) (by decide),fun g8 wr hx=>⟨p,?_,fin hbd ⟨e2.loc,e2.dry⟩ hX hx⟩,fun g8 wr hx=>⟨p,?_,fin hbd ⟨e2.loc,e2.dry⟩ hX hx⟩⟩
   ·rw[hbd,if_pos (by simpa using g8)]; simp[Z6]
   ·rw[hbd,if_neg (by simpa using g8)]; simp[Z6]
  ·have g6:¬op.kind=1:=by simpa using g6
   rw[if_neg g6] at hbd;refine⟨fun g7=>?_,fun g7=>?_⟩
   ·have g7:op.kind=2:=by simpa using g7
    rw[if_pos g7] at hbd;refine⟨fun _=>hix,_,fun _=>hr1 _ c0 c1,fun g8 wr hx=>⟨p,?_,fin (b':=b) (c:=3) ?_ hO0 (Q0.refl _ _) hx⟩,fun g8=>?_⟩
    ·rw[hbd]; unfold TR; rw[if_pos (by simpa using g8)]; rfl
    ·rw[hbd]; unfold TR; rw[if_pos (by simpa using g8)]
    have g8':¬(op.n<1\/op.n>gi b.locals op.at'):=by simpa using g8
    have ht:TR b op.at' op.n=({ b with spent:=b.spent+op.n,locals:=b.locals.set op.at'.toNat (gi b.locals op.at'-op.n) },0):=by unfold TR; rw[if_neg g8']
    rw[ht] at hbd;have e1:=hO0.stoL c0 c1 (gi b.locals op.at'-op.n);refine⟨hix,_,hr1 _ c0 c1,⟨by omega,by omega⟩,hix,hwL,⟨by omega,by omega⟩,fun wr hx=>⟨p,?_,fin hbd ⟨e1.loc,e1.dry⟩ (hO0.xL _ _) hx⟩⟩;rw[hbd]; simp[Z6]
   ·have g7:¬op.kind=2:=by simpa using g7
    rw[if_neg g7] at hbd;refine⟨fun g8=>?_,fun g8 wr hx=>⟨p,?_,fin (b':=b) (c:=1) ?_ hO0 (Q0.refl _ _) hx⟩⟩
    ·have g8:op.kind=3:=by simpa using g8
     rw[if_pos g8] at hbd;have e1:=hO0.stoL c0 c1 0;refine⟨hix,_,hr1 _ c0 c1,⟨by omega,by omega⟩,hix,hwL,fun g9 wr hx hs=>?_,fun g9 wr hx=>⟨p,?_,fin hbd ?_ (hO0.xL _ _) hx⟩⟩
     ·have g9:=Ot g9;have e2:QY w.heap.size wr ⟨b.quota,b.pool+gi b.locals op.at',b.spent,b.locals.set op.at'.toNat 0,b.dry⟩ p:=QY.ext ⟨e1.loc,e1.dry⟩ hx hbl;have hw:=Ee e2 (by show b.dry.length<=_; omega);simp only[Z6,List.length_set] at hw;refine Calls.mono hw fun e w4 ⟨he4,hO4,hy4⟩=>⟨_,_,_,_,_,_,_,_,_,he4,fun y hm=>hy4.block y (hs y hm) fun hm'=>hbl y hm' hm,fun wr4 hx4=>⟨p,?_,?_,?_⟩⟩
      ·rw[hbd]; simp[Z6,Yw,if_pos g9]
      ·rw[hbd];have:Yw b op.at'=⟨b.quota,b.pool+gi b.locals op.at',b.spent,b.locals.set op.at'.toNat 0,List.replicate b.dry.length false⟩:=by unfold Yw; rw[if_pos g9]
       rw[this];exact QY.ext ⟨hO4.loc,hO4.dry⟩ hx4 hbl
      ·exact((((t2.call (hO0.xL _ _) fun y hy=>(hO0.lt y hy).1).step hx).call hy4 fun y hy=>(hO0.lt y hy).1).step hx4).ext
     ·have g9:=Ou g9;rw[hbd]; simp[Z6,Yw,if_neg g9]
     ·have g9:=Ou g9;have:Yw b op.at'=⟨b.quota,b.pool+gi b.locals op.at',b.spent,b.locals.set op.at'.toNat 0,b.dry⟩:=by unfold Yw; rw[if_neg g9]
      rw[this];exact⟨e1.loc,e1.dry⟩
    ·rw[hbd,if_neg (by simpa using g8)]; rfl
    ·rw[hbd,if_neg (by simpa using g8)]
end
section
variable {base:Nat}{W:Q8}{m:MW}{w:Wo}
theorem YC{w:Wo}{x x1:Nat}(h:w.heap.size<=x)(h1:w.heap.size<=x1):∀y∈[x,x1],w.heap.size<=y:=fun y hm=>by
 simp only[List.mem_cons,List.not_mem_nil,or_false] at hm;rcases hm with rfl | rfl <;> assumption
theorem Mv.two{n:Nat}(h:Yu n base w W m){x x1:Nat}(hx:w.heap.size<=x)(hx1:w.heap.size<=x1):Mv n base [x,x1] w m w W m:=((Mv.start h).add hx).add hx1
theorem zec{n:Nat}{m:MW}{w:Wo}{k:Nat}{vs:List Va}:Q0 (QL n m) w (sto w m.cO k vs):=UZ fun a ha=>B0 (by rw[ha]; simp[QB])
theorem GX{n:Nat}{m:MW}{w:Wo}{k:Nat}{vs:List Va}:Q0 (QL n m) w (sto w m.tO k vs):=UZ fun a ha=>B2 (by rw[ha]; simp[QB])
theorem Bu{n:Nat}{m:MW}{w:Wo}{k:Nat}{vs:List Va}:Q0 (QL n m) w (sto w m.gO k vs):=UZ fun a ha=>B1 (by rw[ha]; simp[QB])
theorem Ao{n:Nat}{m:MW}{w:Wo}{i k:Nat}{vs:List Va}(hi:i<n):Q0 (QL n m) w (sto w (m.ms i).sO k vs):=UZ fun a ha=>JX hi (by simp[Qt,QB,ha])
theorem zqf{n:Nat}{bs:List Nat}(h:Yu n base w W m)(hd:∀x∈QL n m,x∉bs){i:Int}(h0:0<=i)(h1:i<(W.cpus.length:Int)){j k:Nat}(hj:j+k<=5):Xr bs w m.cO (Int.toNat i*5+j) k:=h.c.wr Gc.len (fun b hb=>hd b (B0 hb)) h0 h1 hj
theorem zif{n:Nat}{bs:List Nat}(h:Yu n base w W m)(hd:∀x∈QL n m,x∉bs){i:Int}(h0:0<=i)(h1:i<(W.tasks.length:Int)){j k:Nat}(hj:j+k<=9):Xr bs w m.tO (Int.toNat i*9+j) k:=h.t.wr Pe.len (fun b hb=>hd b (B2 hb)) h0 h1 hj
theorem zee{n:Nat}{bs:List Nat}(h:Yu n base w W m)(hd:∀x∈QL n m,x∉bs){i:Int}(h0:0<=i)(h1:i<(n:Int)){j k:Nat}(hj:j+k<=14):Xr bs w m.gO (Int.toNat i*14+j) k:=h.g.row.wr X6.len (fun b hb=>hd b (B1 hb)) h0 (by rw[XF,h.len]; exact h1) hj
theorem zv7{n:Nat}{bs:List Nat}(h:Yu n base w W m)(hd:∀x∈QL n m,x∉bs){i c:Int}(h0:0<=i)(h1:i<(n:Int))(c0:0<=c)(c1:c<((gi W.groups i).shelves.length:Int)){j k:Nat}(hj:j+k<=5):Xr bs w (m.ms i.toNat).sO (Int.toNat c*5+j) k:=
 (h.each h0 h1).shl.wr Tr.len (fun b hb=>hd b (JX (k:=i.toNat) (by omega) (by simp[Qt]; exact .inr (.inr hb)))) c0 c1 hj
theorem zu3{n:Nat}(h:Yu n base w W m){c:Int}(c0:0<=c)(c1:c<(W.cpus.length:Int)) :
  (Yu n base (sto w m.cO (Int.toNat c*5+1) [.int .i64 (-1)]) { W with cpus:=W.cpus.set c.toNat { gi W.cpus c with cur := -1 } } m)/\
  Yu n base (sto (sto w m.cO (Int.toNat c*5+1) [.int .i64 (-1)]) m.cO (Int.toNat c*5+2) [.int .i64 0]) (endW W c) m:=by
 have e1:=h.stoC c0 c1 (j:=1) (vs:=[.int .i64 (-1)]) (x:={ gi W.cpus c with cur := -1 }) rfl (by decide);refine⟨e1,?_⟩;have hg:gi (W.cpus.set c.toNat { gi W.cpus c with cur := -1 }) c={ gi W.cpus c with cur := -1 }:=by rw[QA _ _ c0 c1 c0,if_pos rfl]
 have e2:=e1.stoC c0 (by simpa using c1) (j:=2) (vs:=[.int .i64 0]) (x:=XK (gi W.cpus c)) (by rw[hg]; rfl) (by decide);rw[List.set_set] at e2;exact e2
theorem Zn{n:Nat}(h:Yu n base w W m){c:Int}(c0:0<=c)(c1:c<(W.cpus.length:Int)) :
  Cz Z2 #[.agg (Qa W m).toArray,.int .i64 c] w fun e w'=>e=.returned (.agg (Qa (endW W c) m).toArray)/\Mv n base [] w m w' (endW W c) m:=by
 refine(zgt W.now m.cO W.cpus.length m.cC m.tO W.tasks.length m.tC m.gO W.groups.length m.gC c (R:=fun v w'=>v=.agg (Qa (endW W c) m).toArray/\Mv n base [] w m w' (endW W c) m) ?_).mono fun e w' ⟨v,he,hv,h3⟩=>⟨by rw[he,hv],h3⟩
 intro x hx x1 hx1;obtain⟨e1,e2⟩:=zu3 h c0 c1;have hr:=h.rd (bs:=[]) (by simp);refine⟨hr.c.ix ZH c0 c1,zqf h (by simp) c0 c1 (by decide),hr.c.ix ZH c0 c1,zqf e1 (by simp) c0 (by simpa using c1) (by decide),fun wr hx2=>⟨by simp[Qa,endW,setCp],((Mv.start h).deed e2 (zec.trans zec)).call0 hx2⟩⟩
theorem zyo{W:Q8}{g c:Int}{s:KE}:setSh W g c s={ W with groups:=W.groups.set g.toNat { gi W.groups g with shelves:=(gi W.groups g).shelves.set c.toNat s } }:=rfl
theorem OU{W W':Q8}{m:MW}(h:Fr W W'):Qa W' m=Qa W m:=by
 simp only[Qa,h.n,h.c,h.t,h.g.len]
theorem zgk{gs:List ZF}(ht:ZX gs){k:Int}(hu:Q6 gs k=true):Of (gs.length+1) gs k 0=dep 3 gs k:=by
 have hp:∀g:Int,g≠0->Q6 gs g=true->Q6 gs (gi gs g).parent=true:=fun g hz hu=>(ZY ht hu hz).1
 have hd:0<=dep 3 gs k/\dep 3 gs k<=3:=by
  by_cases hz:k=0
  ·subst hz; rw[Yk]; omega
  ·obtain⟨_,_,_,d,e,_,hd⟩:=ZY ht hu hz;omega
 have hm:=Lc gs 3 gs.length k hd.1 (by rw[ht.len]; omega);rw[Eg hp _ _ _ hu,hm,if_neg (by omega)];omega
theorem zae{F K:Int}{n:Nat}(hsw:SF F K W)(h:Yu n base w W m)(hk:F+Ql<=K){k c:Int}(hu:Q6 W.groups k=true)(hn:n=8)(c0:0<=c)(c1:c<(W.cpus.length:Int))(s:KE) :
  Yu n base (sto w (m.ms k.toNat).sO (Int.toNat c*5) (MD s)) (setSh W k c s) m:=by
 obtain⟨u0,u1,_⟩:=Q5.1 hu;have hl:=hsw.w.a.gl;have hs:=hsw.w.a.sl hu;exact h.stoS u0 (by omega) c0 (by omega) (j:=0) (vs:=MD s) (x:=s) (by simp[MD]) (by simp[MD])
theorem Ly{F K:Int}(h:Yu 8 base w W m)(hsw:SF F K W)(hk:F+Ql<=K)(hK:K<=1000000000000000000){c:Int}(c0:0<=c)(c1:c<(W.cpus.length:Int)) :
  Cz US #[.agg (Qa W m).toArray,.int .i64 c] w fun e w'=>e=.returned (.agg (Qa W m).toArray)/\Mv 8 base [] w m w' (QJ W c) m:=by
 refine(CC W.now m.cO W.cpus.length m.cC m.tO W.tasks.length m.tC m.gO W.groups.length m.gC c (R:=fun v w'=>v=.agg (Qa W m).toArray/\Mv 8 base [] w m w' (QJ W c) m) ?_).mono fun e w' ⟨v,he,hv,h3⟩=>⟨by rw[he,hv],h3⟩
 intro x hx x1 hx1;have hgl:=hsw.w.a.gl
 refine⟨fun vs w1=>∃(j:Nat),vs=[.int .i64 (3-(j:Int))]/\j<=3/\Mv 8 base [x,x1] w m w1 (XX W c j) m,
  fun vs _=>(ZZ 0 vs).toNat,fun wr hx0 _=>⟨0,rfl,by decide,(Mv.two h hx hx1).call0 hx0⟩,?_⟩
 rintro d wv hs ⟨j,he,j3,hM⟩;obtain⟨hS,hO⟩:=FU hsw hk c0 c1 j j3;have hN:XX W c (j+1)=ZU (XX W c j) c (3-(j:Int)) 8:=rfl;have hE:j=3->XX W c j=QJ W c:=fun e=>by rw[e]; rfl
 generalize XX W c j=W1 at hM hS hO hN hE;simp only[List.cons.injEq,Value.int.injEq,true_and,and_true] at he;refine⟨fun hd=>?_,fun hd=>?_⟩
 ·have hd:=Ot hd;have c1':c<(W1.cpus.length:Int):=by rw[hO.c]; exact c1
  refine TM W.groups.length 1 rfl (fun k w2=>1<=k/\k<=8/\Mv 8 base [x,x1] w m w2 (ZU W1 c d k) m) (fun w2 hx2 _=>⟨Nat.le_refl _,by decide,?_⟩) fun k w2 hs2 ⟨hk1,hk8,hM2⟩=>?_
  ·have e:ZU W1 c d 1=W1:=zpd (by omega);rw[e];exact hM.step hx2
  obtain⟨hS2,hO2⟩:=zad hS hk (c:=c) (d:=d) (by omega) c0 c1' k hk8;have hf2:=hO.trans hO2;have e0:Qa (ZU W1 c d k) m=Qa W m:=OU hf2.fr;have hr:=hM2.rd;have hgl2:(ZU W1 c d k).groups.length=W.groups.length:=hf2.g.len;have hcl2:(ZU W1 c d k).cpus.length=W.cpus.length:=by rw[hf2.c]
  have hdef:ZU W1 c d (k+1)=if (gi (ZU W1 c d k).groups (k:Int)).used=true/\dep 3 (ZU W1 c d k).groups (k:Int)=d then setSh (ZU W1 c d k) (k:Int) c (Yx (ZU W1 c d k) (k:Int) c) else ZU W1 c d k:=rfl;have hN8:k=8->XX W c (j+1)=ZU W1 c d k:=fun e=>by rw[hN,<-he,e]
  generalize ZU W1 c d k=W2 at hM2 hS2 hO2 hf2 e0 hr hgl2 hcl2 hdef hN8;refine⟨fun hlt=>?_,fun hge=>?_⟩
  ·have hlt:=Ot hlt;have hlt2:(k:Int)<(W2.groups.length:Int):=by omega
   have hdp:=Pz (g:=(k:Int)) (c:=m.gC) hr.g (by have:=Zl; omega);rw[hgl2] at hdp;refine⟨by have:=hr.g.ix (i:=(k:Int)) (by omega) hlt2; rwa[hgl2] at this,(gi W2.groups (k:Int)).used,hr.g.used (by omega) hlt2,_,fun _=>hdp,fun g=>?_,fun g=>?_⟩
   ·refine⟨⟨by omega,by omega⟩,fun w3 hx3 _=>QM (by omega) ⟨by omega,by omega,?_⟩⟩;rw[hdef,if_neg]
    ·exact hM2.step hx3
    ·rintro⟨h1,h2⟩;have hu:Q6 W2.groups (k:Int)=true:=Q5.2 ⟨by omega,hlt2,h1⟩;have:=zgk hS2.w.a.tree hu;rw[hgl2] at this;rw[this,h1,h2] at g;simp at g
   ·simp only[Bool.or_eq_false_iff,Bool.not_eq_false',bne_eq_false_iff_eq] at g;have hu:Q6 W2.groups (k:Int)=true:=Q5.2 ⟨by omega,hlt2,g.1⟩;have hdk:=zgk hS2.w.a.tree hu;rw[hgl2,g.2] at hdk;rw[if_pos ⟨g.1,hdk.symm⟩] at hdef;have hsl:=hS2.w.a.sl hu;have hz:(k:Int)≠0:=by omega
    have hp:=hS2.w.a.up hu hz;obtain⟨p0,p1,_⟩:=Q5.1 hp;have hpl:=hS2.w.a.sl hp;have s1:=hS2.w.s _ c hu c0 (by omega);have s2:=hS2.w.s _ c hp c0 (by omega);have lc:=ZW ((Qb W2 (k:Int) c).v-(Qb W2 (gi W2.groups (k:Int)).parent c).floor) (Qb W2 (k:Int) c).w;have lm:=ZT (Qb W2 (k:Int) c).w;have hix:Ix m.gO W.groups.length (k:Int):=by have:=hr.g.ix (i:=(k:Int)) (by omega) hlt2; rwa[hgl2] at this
    have hixS:=(hr.g.shelves (k:Int) (by omega) hlt2).ix ZQ c0 (by omega);have hact:=OH (g:=(k:Int)) hr hS2.w.a c0 (by omega);have hdry:=Kc (g:=(k:Int)) hr hS2.w.a hu c0 (by omega);rw[e0] at hact hdry;have hset:=fun s=>zae hS2 hM2.own hk hu rfl c0 (c:=c) (by omega) s
    have hsub:∀{vs:List Va},Q0 (QL 8 m) w2 (sto w2 (m.ms k).sO (Int.toNat c*5) vs):=fun {vs}=>Ao (by omega)
    have hwr:=zv7 hM2.own hM2.nb (i:=(k:Int)) (by omega) (by omega) c0 (by omega) (j:=0) (k:=5) (by decide);simp only[Int.toNat_natCast] at hset hwr hixS;refine⟨hix,_,_,_,hr.g.shelf (by omega) hlt2,hixS,_,_,_,_,_,(hr.g.shelves (k:Int) (by omega) hlt2) c c0 (by omega),fun b2 hb2=>⟨QO W2 (k:Int) c,hact,UB W2 (k:Int) c,fun _=>hdry,fun g2=>?_,fun g2=>?_⟩⟩
    ·have hss:Yx W2 (k:Int) c=⟨(Qb W2 (k:Int) c).floor,QO W2 (k:Int) c && !UB W2 (k:Int) c,(Qb W2 (gi W2.groups (k:Int)).parent c).floor+Xh ((Qb W2 (k:Int) c).v-(Qb W2 (gi W2.groups (k:Int)).parent c).floor) (Qb W2 (k:Int) c).w,(Qb W2 (k:Int) c).w,(Qb W2 (k:Int) c).sum⟩:=by
      unfold Yx;rw[if_pos]
      simpa[Qb] using g2
     have hset:=hset (Yx W2 (k:Int) c);rw[hss] at hset;have hpix:Ix m.gO W.groups.length (gi W2.groups (k:Int)).parent:=by have:=hr.g.ix p0 p1; rwa[hgl2] at this
     refine⟨hix,_,hr.g.parent (by omega) hlt2,hpix,_,_,_,hr.g.shelf p0 p1,(hr.g.shelves _ p0 p1).ix ZQ c0 (by omega),_,zkn.f (hr.g.shelves _ p0 p1) c0 (by omega) (j:=0) rfl,⟨by show _<=(Qb W2 (k:Int) c).v-(Qb W2 (gi W2.groups (k:Int)).parent c).floor; omega,by show (Qb W2 (k:Int) c).v-(Qb W2 (gi W2.groups (k:Int)).parent c).floor<=_; omega⟩,_,Mq,⟨?_,?_⟩,hix,_,_,_,hr.g.shelf (by omega) hlt2,hixS,hwr,⟨by omega,by omega⟩,fun w3 hx3 _=>QM (by omega) ⟨by omega,by omega,?_⟩⟩
     ·show -9223372036854775808<=(Qb W2 (gi W2.groups (k:Int)).parent c).floor+Xh ((Qb W2 (k:Int) c).v-(Qb W2 (gi W2.groups (k:Int)).parent c).floor) (Qb W2 (k:Int) c).w;omega
     ·show (Qb W2 (gi W2.groups (k:Int)).parent c).floor+Xh ((Qb W2 (k:Int) c).v-(Qb W2 (gi W2.groups (k:Int)).parent c).floor) (Qb W2 (k:Int) c).w<=9223372036854775807;omega
     ·rw[hdef,hss];exact(hM2.deed hset hsub).step hx3
    ·have hss:Yx W2 (k:Int) c=⟨(Qb W2 (k:Int) c).floor,QO W2 (k:Int) c && !UB W2 (k:Int) c,(Qb W2 (k:Int) c).v,(Qb W2 (k:Int) c).w,(Qb W2 (k:Int) c).sum⟩:=by
      unfold Yx;rw[if_neg];intro h1;rw[h1.1,show (gi (gi W2.groups (k:Int)).shelves c).on=false from h1.2] at g2;cases g2
     have hset:=hset (Yx W2 (k:Int) c);rw[hss] at hset;refine⟨hix,_,_,_,hr.g.shelf (by omega) hlt2,hixS,hwr,⟨by omega,by omega⟩,fun w3 hx3 _=>QM (by omega) ⟨by omega,by omega,?_⟩⟩;rw[hdef,hss];exact(hM2.deed hset hsub).step hx3
  ·have hge:=Ou hge;have hN8:=hN8 (by omega);refine⟨⟨by omega,by omega⟩,fun w3 hx3 _=>⟨⟨j+1,?_,by omega,?_⟩,?_⟩⟩
   ·rw[show d-1=3-((j+1:Nat):Int) by omega]
   ·rw[hN8];exact hM2.step hx3
   ·show (d-1).toNat<d.toNat;omega
 ·have hd:=Ou hd;rw[<-hE (by omega)];exact fun w2 hx2=>⟨rfl,(hM.step hx2).close⟩
end
theorem TQ{n:Nat}{m:MW}{i:Nat}{p:MG}:∀x∈QL n (P2 m i p),x∈QL n m\/x∈Qt p:=fun x hx=>by
 rcases BS hx with h | h | h | ⟨k,hk,h⟩
 ·exact .inl (B0 h)
 ·exact .inl (B2 h)
 ·exact .inl (B1 h)
 ·simp only[P2] at h
  split at h
  ·exact .inr h
  ·exact .inl (JX hk h)
theorem Mv.swap{n base:Nat}{bs:List Nat}{w0 w w':Wo}{W W':Q8}{m0 m m':MW}(h:Mv n base bs w0 m0 w W m)(k:Yu n base w' W' m')(hx:Q0 (QL n m) w w')(hm:m'={ m with ms:=m'.ms })(hsub:∀x∈QL n m',x∈QL n m\/(w0.heap.size<=x/\x∉bs)):Mv n base bs w0 m0 w' W' m':=
 ⟨k,h.ext.fresh hx fun x hm=>(h.sub x hm).symm,fun x hx=>by
  rcases hsub x hx with h1 | h1
  ·exact h.sub x h1
  ·exact .inr h1.1,by rw[hm,h.hd],fun x hx=>by
  rcases hsub x hx with h1 | h1
  ·exact h.nb x h1
  ·exact h1.2,h.new⟩
section
variable {base:Nat}{W:Q8}{m:MW}{w:Wo}
theorem NZ{K:Int}(h:Yu 8 base w W m)(hsw:SW K W)(hK:0<=K){c:Int}(c0:0<=c)(c1:c<(W.cpus.length:Int)) :
  Cz TE #[.agg (Qa W m).toArray,.int .i64 c] w fun e w'=>e=.returned (.agg (Qa W m).toArray)/\Mv 8 base [] w m w' (Zm W c) m:=by
 refine(NK W.now m.cO W.cpus.length m.cC m.tO W.tasks.length m.tC m.gO W.groups.length m.gC c (R:=fun v w'=>v=.agg (Qa W m).toArray/\Mv 8 base [] w m w' (Zm W c) m) ?_).mono fun e w' ⟨v,he,hv,h3⟩=>⟨by rw[he,hv],h3⟩
 intro x hx x1 hx1;have hgl:=hsw.a.gl;refine TM W.groups.length 0 rfl (fun k w2=>k<=8/\Mv 8 base [x,x1] w m w2 (QZ W c k) m) (fun w2 hx2 _=>⟨by decide,(Mv.two h hx hx1).call0 hx2⟩) fun k w2 hs2 ⟨hk8,hM2⟩=>?_
 obtain⟨hS2,hO2⟩:=Ge hsw hK c0 c1 k hk8;have e0:Qa (QZ W c k) m=Qa W m:=OU hO2.fr;have hr:=hM2.rd;have hgl2:(QZ W c k).groups.length=W.groups.length:=hO2.g.len;have hcl2:(QZ W c k).cpus.length=W.cpus.length:=by rw[hO2.c]
 have hdef:QZ W c (k+1)=if (gi (QZ W c k).groups (k:Int)).used=true/\ZK (QZ W c k) (k:Int) c 20=true/\Z7 (QZ W c k) (k:Int) c 20>(Qb (QZ W c k) (k:Int) c).floor then setSh (QZ W c k) (k:Int) c (Fy (QZ W c k) (k:Int) c) else QZ W c k:=rfl;have hN8:k=8->Zm W c=QZ W c k:=fun e=>by rw[e]; rfl
 generalize QZ W c k=W2 at hM2 hS2 hO2 e0 hr hgl2 hcl2 hdef hN8;refine⟨fun hlt=>?_,fun hge=>?_⟩
 ·have hlt:=Ot hlt;have hlt2:(k:Int)<(W2.groups.length:Int):=by omega
  have hix:Ix m.gO W.groups.length (k:Int):=by have:=hr.g.ix (i:=(k:Int)) (by omega) hlt2; rwa[hgl2] at this
  refine⟨hix,(gi W2.groups (k:Int)).used,hr.g.used (by omega) hlt2,fun g=>?_,fun g=>?_⟩
  ·refine⟨⟨by omega,by omega⟩,fun w3 hx3 _=>QM (by omega) ⟨by omega,?_⟩⟩;rw[hdef,if_neg (fun h1=>by rw[h1.1] at g; cases g)];exact hM2.step hx3
  ·have g:(gi W2.groups (k:Int)).used=true:=by simpa using g
   have hu:Q6 W2.groups (k:Int)=true:=Q5.2 ⟨by omega,hlt2,g⟩;have hsl:=hS2.a.sl hu;have hle:=Lx (g:=(k:Int)) hr hS2.a c0 (by omega);rw[e0] at hle;have hss:=hr.g.shelves (k:Int) (by omega) hlt2;have hixS:=hss.ix ZQ c0 (by omega);have hwr:=zv7 hM2.own hM2.nb (i:=(k:Int)) (by omega) (by omega) c0 (by omega) (j:=0) (k:=1) (by decide);have hset:=hM2.own.stoS (i:=(k:Int)) (by omega) (by omega) c0 (by omega) (j:=0) (vs:=[.int .i64 (Z7 W2 (k:Int) c 20)]) (x:=Fy W2 (k:Int) c) rfl (by simp);rw[<-zyo] at hset;have hsub:Q0 (QL 8 m) w2 (sto w2 (m.ms k).sO (Int.toNat c*5+0) [.int .i64 (Z7 W2 (k:Int) c 20)]):=Ao (by omega);simp only[Int.toNat_natCast] at hwr hixS hset;refine⟨_,_,hle,fun _=>hix,_,_,_,fun _=>hr.g.shelf (by omega) hlt2,fun _=>hixS,_,fun _=>zkn.f hss c0 (by omega) (j:=0) rfl,fun g2=>?_,fun g2=>?_⟩
   ·refine⟨hix,_,_,_,hr.g.shelf (by omega) hlt2,hixS,hwr,⟨by omega,by omega⟩,fun w3 hx3 _=>QM (by omega) ⟨by omega,?_⟩⟩;rw[hdef,if_pos ⟨g,by simpa[Qb] using g2⟩];exact(hM2.deed hset hsub).step hx3
   ·refine⟨⟨by omega,by omega⟩,fun w3 hx3 _=>QM (by omega) ⟨by omega,?_⟩⟩;rw[hdef,if_neg]
    ·exact hM2.step hx3
    ·rintro⟨_,h1,h2⟩;rw[h1,show decide (Z7 W2 (k:Int) c 20>(gi (gi W2.groups (k:Int)).shelves c).floor)=true from decide_eq_true h2] at g2;cases g2
 ·have hge:=Ou hge;rw[hN8 (by omega)];exact fun w3 hx3=>⟨rfl,(hM2.step hx3).close⟩
theorem KD.locs{bs:List Nat}{w:Wo}{gs:List ZF}{ms:Nat->MG}{o:OA}(h:KD bs w o gs ms){i:Int}(h0:0<=i)(h1:i<(gs.length:Int)):Q2 bs w o (Int.toNat i*14+8+3) [.slice (ms i.toNat).lO (gi gs i).band.locals.length (ms i.toNat).lC]:=(h.cells i h0 h1).get 11 _ rfl
theorem KD.quo{bs:List Nat}{w:Wo}{gs:List ZF}{ms:Nat->MG}{o:OA}(h:KD bs w o gs ms){i:Int}(h0:0<=i)(h1:i<(gs.length:Int)):Q2 bs w o (Int.toNat i*14+8+0) [.int .i64 (gi gs i).band.quota]:=(h.cells i h0 h1).get 8 _ rfl
def PG(m:MG)(p:MG):MG:=⟨p.lO,p.lC,p.dO,p.dC,m.sO,m.sC⟩
theorem TP{m p:MG}:∀x∈Qt (PG m p),x∈ZO p\/x∈Qt m:=fun x hx=>by
 simp only[Qt,PG,ZO,List.mem_append] at hx ⊢;rcases hx with (h | h) | h
 ·exact .inl (.inl h)
 ·exact .inl (.inr h)
 ·exact .inr (.inr h)
theorem Yu.putB{n:Nat}(h:Yu n base w W m){i:Int}(h0:0<=i)(hi:i<(n:Int)){b:JH}{p:MG}(hb:QY base w b p)(hn:∀x∈ZO p,x∉QL n m) :
  Yu n base (sto w m.gO (Int.toNat i*14+8) (Z6 b p)) (setBd W i b) (P2 m i.toNat (PG (m.ms i.toNat) p)):=by
 have hm:=h.each h0 hi;refine h.stoG h0 hi (g:={ gi W.groups i with band:=b }) (p:=PG (m.ms i.toNat) p) ⟨hb.loc,hb.dry,hm.shl⟩ (fun x hx=>?_) rfl (by simp[Z6]);rcases TP x hx with h1 | h1
 ·exact .inl (hn x h1)
 ·exact .inr h1
theorem zdh{F K:Int}(h:Yu 8 base w W m)(hsw:SF F K W)(hbase:base<=w.heap.size) :
  Cz Pm #[.agg (Qa W m).toArray] w fun e w'=>∃m',e=.returned (.agg (Qa W m).toArray)/\Mv 8 base [] w m w' (H9 W) m':=by
 refine(zc4 W.now m.cO W.cpus.length m.cC m.tO W.tasks.length m.tC m.gO W.groups.length m.gC (R:=fun v w'=>∃m',v=.agg (Qa W m).toArray/\Mv 8 base [] w m w' (H9 W) m') ?_).mono fun e w' ⟨v,he,m',hv,h3⟩=>⟨m',by rw[he,hv],h3⟩
 intro x hx x1 hx1;have hgl:=hsw.w.a.gl;have hcl4:=hsw.w.a.c2;have hnew:=YC hx hx1;refine TM W.groups.length 0 rfl (fun k w2=>k<=8/\∃m2,Mv 8 base [x,x1] w m w2 (X1 W k) m2) (fun w2 hx2 _=>⟨by decide,m,(Mv.two h hx hx1).call0 hx2⟩) fun k w2 hs2 ⟨hk8,m2,hM2⟩=>?_
 obtain⟨hS2,hO2⟩:=Od hsw k hk8;have hgl2:(X1 W k).groups.length=W.groups.length:=hO2.g.len;have hcl2:(X1 W k).cpus.length=W.cpus.length:=by rw[hO2.c]
 have hdef:X1 W (k+1)=if (gi (X1 W k).groups (k:Int)).used=true/\(gi (X1 W k).groups (k:Int)).band.quota≠0 then YI (X1 W k) (k:Int) (X1 W k).cpus.length else X1 W k:=rfl;have hN8:k=8->H9 W=X1 W k:=fun e=>by rw[e]; rfl
 generalize X1 W k=W2 at hM2 hS2 hO2 hgl2 hcl2 hdef hN8;have hmg:m2.gO=m.gO:=by rw[hM2.hd]
 have hr:=hM2.rd;refine⟨fun hlt=>?_,fun hge=>?_⟩
 ·have hlt:=Ot hlt;have hlt2:(k:Int)<(W2.groups.length:Int):=by omega
  have hix:Ix m.gO W.groups.length (k:Int):=by have:=hr.g.ix (i:=(k:Int)) (by omega) hlt2; rwa[hgl2,hmg] at this
  have hru:=hr.g.used (i:=(k:Int)) (by omega) hlt2;have hrq:=hr.g.quo (i:=(k:Int)) (by omega) hlt2;rw[hmg] at hru hrq;refine⟨hix,(gi W2.groups (k:Int)).used,hru,fun _=>hix,_,fun _=>hrq,fun g=>?_,fun g=>?_⟩
  ·refine⟨⟨by omega,by omega⟩,fun w3 hx3 _=>QM (by omega) ⟨by omega,m2,?_⟩⟩;rw[hdef,if_neg]
   ·exact hM2.step hx3
   ·rintro⟨h1,h2⟩;rw[h1] at g;simp[h2] at g
  ·simp only[Bool.or_eq_false_iff,Bool.not_eq_false',beq_eq_false_iff_ne] at g;have hu:Q6 W2.groups (k:Int)=true:=Q5.2 ⟨by omega,hlt2,g.1⟩;rw[if_pos ⟨g.1,g.2⟩] at hdef;refine TM W.cpus.length 0 rfl (fun c w3=>c<=W.cpus.length/\∃m3,Mv 8 base [x,x1] w m w3 (YI W2 (k:Int) c) m3) (fun w3 hx3 _=>⟨Nat.zero_le _,m2,hM2.step hx3⟩) fun c w3 hs3 ⟨hc,m3,hM3⟩=>?_
   obtain⟨hS3,hO3,hq3⟩:=E3 hS2 hu g.2 c (by omega);have hgl3:(YI W2 (k:Int) c).groups.length=W.groups.length:=by rw[hO3.g.len,hgl2]
   have hcl3:(YI W2 (k:Int) c).cpus.length=W.cpus.length:=by rw[hO3.c,hcl2]
   have hdef3:YI W2 (k:Int) (c+1)=if gi (gi (YI W2 (k:Int) c).groups (k:Int)).band.locals (c:Int)>0/\QO (YI W2 (k:Int) c) (k:Int) (c:Int)=false then setBd (YI W2 (k:Int) c) (k:Int) (Yw (gi (YI W2 (k:Int) c).groups (k:Int)).band (c:Int)) else YI W2 (k:Int) c:=rfl;have hN3:c=W.cpus.length->X1 W (k+1)=YI W2 (k:Int) c:=fun e=>by rw[hdef,hcl2,e]
   have e3:Qa (YI W2 (k:Int) c) m3=Qa W m:=hM3.encW_eq (by rw[hO3.n,hO2.n]) hcl3 (by rw[hO3.t,hO2.t]) hgl3;have hu3:Q6 (YI W2 (k:Int) c).groups (k:Int)=true:=by rw[hO3.g.usd]; exact hu
   generalize YI W2 (k:Int) c=W3 at hM3 hS3 hO3 hq3 hgl3 hcl3 hdef3 hN3 e3 hu3;have hmg3:m3.gO=m.gO:=by rw[hM3.hd]
   have hr3:=hM3.rd;refine⟨fun hlt3=>?_,fun hge3=>?_⟩
   ·have hlt3:=Ot hlt3;obtain⟨u0,u1,hgu⟩:=hS3.w.a.u hu3;obtain⟨hb,hbl,_⟩:=hgu.band hq3;have hklt:(k:Int)<(W3.groups.length:Int):=by omega
    have hrl:=hr3.g.locs (i:=(k:Int)) (by omega) hklt;have hrb:=hr3.g.band (i:=(k:Int)) (by omega) hklt;rw[hmg3] at hrl hrb;have hLo:=hr3.g.locals (k:Int) (by omega) hklt;have hDo:=hr3.g.dry (k:Int) (by omega) hklt;have hact:=OH (g:=(k:Int)) (c:=(c:Int)) hr3 hS3.w.a (by omega) (by omega);rw[e3] at hact;refine⟨hix,_,_,_,hrl,hLo.ix VI (by omega) (by omega),_,hLo (c:Int) (by omega) (by omega),_,fun _=>hact,fun g3=>?_,fun g3=>?_⟩
    ·simp only[Bool.and_eq_true,decide_eq_true_eq,Bool.not_eq_true'] at g3;rw[if_pos g3] at hdef3;refine⟨hix,_,_,_,_,_,_,_,_,_,hrb,fun wr3 hx3 hs4=>?_⟩;have hM4:=hM3.step hx3;have hr4:=hM4.rd0;refine Calls.mono (Jt (op:=⟨3,(c:Int),0⟩) hb (hr4.g.locals (k:Int) (by omega) hklt) (hr4.g.dry (k:Int) (by omega) hklt)) ?_;rintro e wv2 ⟨p,he,hO,hy⟩
     have hbd:YM (gi W3.groups (k:Int)).band ⟨3,(c:Int),0⟩=(Yw (gi W3.groups (k:Int)).band (c:Int),0):=by
      unfold YM;rw[if_neg (show ¬(3:Int)=4 by decide),if_neg (by rw[Qm.2 (by show 0<=(c:Int)/\(c:Int)<=_; omega)]; decide),if_neg (show ¬(3:Int)=1 by decide),if_neg (show ¬(3:Int)=2 by decide),if_pos rfl]
     rw[hbd] at he hO
     dsimp only at he hO
     have hM5:=hM4.call0 hy;have hbs:base<=wr3.heap.size:=by have:=hM4.ext.size; omega
     have hOb:∀y∈ZO p,wr3.heap.size<=y:=fun y hy=>(hO.lt y hy).1
     have hput:=hM5.own.putB (i:=(k:Int)) (by omega) (by omega) (hO.mono hbs) (fun y hy hm=>by have:=hOb y hy; have:=(hM4.own.lt y hm).2; omega);have hwr:=zee hM5.own hM5.nb (i:=(k:Int)) (by omega) (by omega) (j:=8) (k:=5) (by decide);have hsz:=hM4.ext.size
     have hM6:=hM5.swap hput Bu rfl fun y hy=>by
      rcases TQ y hy with h1 | h1
      ·exact .inl h1
      ·rcases TP y h1 with h2 | h2
       ·have:=hOb y h2;exact .inr ⟨by omega,fun hm=>by have:=hs4 y hm; omega⟩
       ·exact .inl (JX (by omega) h2)
     rw[hmg3] at hwr hM6;refine⟨_,_,_,_,_,_,_,_,_,_,he,Qe hy hs4,fun b2 hb2=>⟨hix,hwr,⟨by omega,by omega⟩,fun w5 hx5 _=>QM (w1:=w3) (by omega) ⟨by omega,P2 m3 (Int.toNat (k:Int)) (PG (m3.ms (Int.toNat (k:Int))) p),?_⟩⟩⟩;rw[hdef3];exact hM6.step hx5
    ·refine⟨⟨by omega,by omega⟩,fun w5 hx5 _=>QM (by omega) ⟨by omega,m3,?_⟩⟩;rw[hdef3,if_neg]
     ·exact hM3.step hx5
     ·rintro⟨h1,h2⟩;rw[h2,decide_eq_true h1] at g3;cases g3
   ·have hge3:=Ou hge3;refine⟨⟨by omega,by omega⟩,fun w5 hx5 _=>QM (by omega) ⟨by omega,m3,?_⟩⟩;rw[hN3 (by omega)];exact hM3.step hx5
 ·have hge:=Ou hge;rw[hN8 (by omega)];exact fun w3 hx3=>⟨m2,rfl,(hM2.step hx3).close⟩
end
end Go.Proofs.YtclpmgfpjeaibaaGreat
