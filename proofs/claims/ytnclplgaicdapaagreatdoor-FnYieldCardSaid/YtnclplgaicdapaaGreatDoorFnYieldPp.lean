/- Part 16 of what the law FnYield needs: the engine, the functions' propositions, the contracts. -/
import Derived.Test.YtnclplgaicdapaaGreatDoorFnYieldPo
import Derived.Laws.BytesArg
namespace Go.Proofs.YtnclplgaicdapaaGreatDoor
open Go.RowKit
set_option linter.unusedVariables false
set_option linter.unusedSimpArgs false
set_option maxRecDepth 10000
set_option maxHeartbeats 8000000
theorem zmx{α:Type}[Inhabited α]{l:List α}{i:Int}(h0:0<=i)(h1:i<(l.length:Int)):l.set i.toNat (gi l i)=l:=by
 obtain⟨k,rfl⟩:=Int.eq_ofNat_of_zero_le h0;rw[J0 (by omega),Int.toNat_natCast,List.set_getElem_self]
def zwt(G:ZA)(K:Int):Int:=K+1+1+1+1+1+1+1+1+1+1+1+1*(G.band.locals.length:Int)+1*(G.band.dry.length:Int)+5*(G.shelves.length:Int)
def gK(gs:List ZA)(k:Int):Nat->Int
 | 0=>k
 | i+1=>zwt (gi gs (i:Int)) (gK gs k i)
section
variable {n base:Nat}{W:Q7}{m:MW}{w w':Wo}{G G':ZA}{i:Int}
end
def kC(W:Q7):Int:=1+5*(W.cpus.length:Int)
def kT(W:Q7):Int:=kC W+9*(W.tasks.length:Int)
def mK(W:Q7):Int:=gK W.groups (kT W) W.groups.length
section
variable {n base:Nat}{W:Q7}{m:MW}{w w':Wo}{bs:List Nat}
end
def BG:P5:=⟨0,0,0,0,0,0,0,0,0⟩
def QQ(W:Q7)(t:Int):Q7:=if (gi W.cpus (Q8 W t).cpu).cur=t then endW W (Q8 W t).cpu else W
noncomputable def Tr(W:Q7)(t:Int):Int:=if ZT W t=false then 2 else if QK W=false then 10 else 0
def ET(W:Q7)(t:Int):Q7:=Qg (setTk (QQ W t) t BG)
theorem zf9{K:Int}{W:Q7}(h:SW K W){t:Int}(t0:0<=t)(t1:t<12)(n:(Q8 W t).state≠0):SW K (QQ W t):=by
 unfold QQ;split
 ·exact h.endW (h.t t t0 t1 n).2.1 (h.t t t0 t1 n).2.2
 ·exact h
theorem zdv{W:Q7}{t:Int}(hW:Qv W=true)(hb:Tr W t=0):ZT W t=true/\QK W=true/\SW Qp W/\SW Qp (setTk W t BG)/\SW Qp (setTk (QQ W t) t BG):=by
 have wp:=Qh.1 hW;unfold Tr at hb
 split at hb
 ·cases hb
 ·rename_i h1
  split at hb
  ·cases hb
  ·rename_i h3;have h1:ZT W t=true:=by simpa using h1
   have h3:QK W=true:=by simpa using h3
   have sw:=OT wp (Qh.1 h3);obtain⟨t0,t1,n⟩:=YB h1;have hl:=wp.a.t;exact⟨h1,h3,sw,sw.setTk t0 (by omega) (fun h=>absurd rfl h) (by decide) (by decide),(zf9 sw t0 (by omega) n).setTk t0 (by omega) (fun h=>absurd rfl h) (by decide) (by decide)⟩
section
variable {W:Q7}{m:MW}{w:Wo}{bar:Int}
theorem B5{t:Int}(h:YZ [] w W m)(hl:Xc W) :
  Cz VR #[.agg (Qa W m).toArray,.int .i64 t] w fun e w'=>∃v,e=.returned v/\QG (YG W (Tr W t) (ET W t)) w v w':=by
 refine FL W.now m.cO W.cpus.length m.cC m.tO W.tasks.length m.tC m.gO W.groups.length m.gC t (R:=fun v w'=>QG (YG W (Tr W t) (ET W t)) w v w') ?_;intro x hx x1 hx1 wr hx2 hs2;refine Calls.mono (Z5 (h.ext hx2) hl) ?_;rintro e wv (⟨hW,he,hy⟩ | ⟨hW,m',he,hM,hy⟩)
 ·exact⟨_,_,_,_,_,_,_,_,_,_,_,he,Qd hy hs2,fun _ wr1 hx3=>QG.bad hW ((hx2.trans hy).fresh hx3 fun y hm=>.inl (Yr hx hx1 y hm)),fun g=>by simp at g⟩
 have hK:=Wk.begin hx hx1 hx2 hs2 hM hy;have hr:=hK.rd;refine⟨_,_,_,_,_,_,_,_,_,_,_,he,Qd hy hs2,fun g=>by split at g <;> simp at g,fun _=>⟨_,J5 hr hl.t,fun g wr2 hx3=>?_,fun g=>?_⟩⟩
 ·have g:ZT W t=false:=by simpa using g
  have hb:Tr W t=2:=by unfold Tr; rw[if_pos g]
  exact QG.no hW (by rw[hb]; decide) (hK.step hx3) hb
 have g:ZT W t=true:=by simpa using g
 obtain⟨t0,t1,tn⟩:=YB g;have hix:=hr.t.ix QI t0 t1;refine⟨fun g3 wr4 hx3=>?_,fun g3=>?_⟩
 ·have hr0:¬QK W=true:=fun hr=>by rw[if_pos hr] at g3; simp at g3
  have hb:Tr W t=10:=by unfold Tr; rw[if_neg (by rw[g]; decide),if_pos (by simpa using hr0)]
  rw[if_neg hr0];exact QG.no hW (by rw[hb]; decide) (hK.step hx3) hb
 have hr0:QK W=true:=Decidable.byContradiction fun hr=>by rw[if_neg hr] at g3; simp at g3
 have hb:Tr W t=0:=by unfold Tr; rw[if_neg (by rw[g]; decide),if_neg (by rw[hr0]; decide)]
 obtain⟨_,_,sw,sw1,sw2⟩:=zdv hW hb;obtain⟨_,c0,c1⟩:=sw.t t t0 (by have:=sw.a.t; omega) tn;have hset:Y1 8 w.heap.size (sto wv m'.tO (Int.toNat t*9) (YM BG)) (setTk W t BG) m':=hK.own.stoT t0 t1 (j:=0) (vs:=YM BG) (x:=BG) rfl (by decide);have hKs:=hK.sto hset Lv;have e5:∀mm,Qa (setTk W t BG) mm=Qa W mm:=fun mm=>by simp[Qa,setTk]
 refine⟨hix,_,hr.t.f t0 t1 (j:=2) rfl,hix,ze9 hK.own hK.nb t0 t1 (j:=0) (by decide),hr.c.ix Zh c0 c1,_,hKs.rd.c.f c0 c1 (j:=1) rfl,fun g4 wr5 hx5 hs5=>?_,fun g4 wr5 hx5 hs5=>?_⟩
 ·have g4:(gi (setTk W t BG).cpus (Q8 W t).cpu).cur=t:=by simpa using g4
  have hE:ET W t=Qg (endW (setTk W t BG) (Q8 W t).cpu):=by unfold ET QQ; rw[if_pos (show (gi W.cpus (Q8 W t).cpu).cur=t from g4)]; rfl
  rw[hE];have hK5:=hKs.step hx5;have hcall:=Zp hK5.own c0 c1;rw[e5] at hcall;refine Calls.mono hcall ?_;rintro e1 wv1 ⟨he1,hy1⟩;refine⟨_,_,_,_,_,_,_,_,_,_,he1,hK5.kept hy1 hs5,fun wr6 hx6 hs6=>?_⟩;have hK6:=(hK5.deed hy1 hs5).step hx6;refine Calls.mono (Qq hK6.own (sw1.endW c0 c1) (by decide) (by decide) hK6.base) ?_;rintro e2 wv2 ⟨m1,he2,hy2⟩;exact⟨_,_,_,_,_,_,_,_,_,_,he2,hK6.kept hy2 hs6,fun wr7 hx7=>QG.ok hW hb ((hK6.deed hy2 hs6).step hx7)⟩
 ·have g4:¬(gi (setTk W t BG).cpus (Q8 W t).cpu).cur=t:=by simpa using g4
  have hE:ET W t=Qg (setTk W t BG):=by unfold ET QQ; rw[if_neg (show ¬(gi W.cpus (Q8 W t).cpu).cur=t from g4)]
  rw[hE];have hK5:=hKs.step hx5;have hcall:=Qq hK5.own sw1 (by decide) (by decide) hK5.base;rw[e5] at hcall;refine Calls.mono hcall ?_;rintro e2 wv2 ⟨m1,he2,hy2⟩;exact⟨_,_,_,_,_,_,_,_,_,_,he2,hK5.kept hy2 hs5,fun wr7 hx7=>QG.ok hW hb ((hK5.deed hy2 hs5).step hx7)⟩
end
abbrev PY(W:Q7)(t n:Int):Int:=(Qc W (Q8 W t).group (Q8 W t).cpu).floor+X3 ((Q8 W t).v-(Qc W (Q8 W t).group (Q8 W t).cpu).floor) (Qe n)
def XD(W:Q7)(t n:Int):P5:={ Q8 W t with nice:=n,v:=if (Q8 W t).state=1 then PY W t n else (Q8 W t).v }
noncomputable def O2(W:Q7)(t n:Int):Int:=if Qe n=0 then 1 else Tr W t
def Kw(W:Q7)(t n:Int):Q7:=Qg (if (Q8 W t).state=1 then QQ (setTk W t (XD W t n)) t else setTk W t (XD W t n))
theorem zkn{W:Q7}{t n:Int}(h:(Q8 W t).state=1):XD W t n={ Q8 W t with nice:=n,v:=PY W t n }:=by unfold XD; rw[if_pos h]
theorem zkm{W:Q7}{t n:Int}(h:¬(Q8 W t).state=1):XD W t n={ Q8 W t with nice:=n }:=by unfold XD; rw[if_neg h]
theorem EJ{W:Q7}{t:Int}{x:P5}(t0:0<=t)(t1:t<(W.tasks.length:Int)):Q8 (setTk W t x) t=x:=by
 show gi (W.tasks.set t.toNat x) t=x;rw[Qw _ _ t0 t1 t0,if_pos rfl]
theorem set_set{W:Q7}{t:Int}{x y:P5}:setTk (setTk W t x) t y=setTk W t y:=by simp[setTk]
abbrev K1:Int:=Qp+Qk
structure zu6 (W:Q7) (t n:Int):Prop where
 th:ZT W t=true
 room:QK W=true
 sw:SW Qp W
 f:(Q8 W t).state=1->0<=(Qc W (Q8 W t).group (Q8 W t).cpu).floor/\(Qc W (Q8 W t).group (Q8 W t).cpu).floor<=Qp/\0<=PY W t n/\PY W t n<=K1
 s1:SW K1 (setTk W t (XD W t n))
 s2:SW K1 (QQ (setTk W t (XD W t n)) t)
theorem zko{W:Q7}{t n:Int}(hW:Qv W=true)(hb:O2 W t n=0):zu6 W t n:=by
 have hw:¬Qe n=0:=fun h=>by unfold O2 at hb; rw[if_pos h] at hb; cases hb
 have hb:Tr W t=0:=by unfold O2 at hb; rwa[if_neg hw] at hb
 obtain⟨h1,h3,sw,_,_⟩:=zdv hW hb;obtain⟨t0,t1,tn⟩:=YB h1;have hl:=sw.a.t;have hg:=sw.t t t0 (by omega) tn;have hv:=sw.tv t t0 (by omega);have hf:=sw.s _ _ hg.1 hg.2.1 hg.2.2;have lc:=ZQ ((Q8 W t).v-(Qc W (Q8 W t).group (Q8 W t).cpu).floor) (Qe n);have lm:=ZN (Qe n);have f:0<=PY W t n/\PY W t n<=K1:=by unfold PY; simp only[K1,Qk]; omega
 have f1:0<=(XD W t n).v/\(XD W t n).v<=K1:=by
  unfold XD
  dsimp only
  split
  ·exact f
  ·simp only[K1,Qk]; omega
 have s1:SW K1 (setTk W t (XD W t n)):=(sw.mono (by decide)).setTk t0 (by omega) (fun _=>hg) f1.1 f1.2;exact⟨h1,h3,sw,fun _=>⟨hf.1,hf.2.1,f⟩,s1,zf9 s1 t0 (by omega) (by rw[EJ t0 t1]; exact tn)⟩
section
variable {W:Q7}{m:MW}{w:Wo}{bar:Int}
theorem LL{bs:List Nat}{t:Int}(h:YZ bs w W m)(t0:0<=t)(t1:t<(W.tasks.length:Int))(g0:0<=(Q8 W t).group)(g1:(Q8 W t).group<(W.groups.length:Int))(c0:0<=(Q8 W t).cpu)(c1:(Q8 W t).cpu<((gi W.groups (Q8 W t).group).shelves.length:Int))(hr:Qn .i64 ((Q8 W t).v-(Qc W (Q8 W t).group (Q8 W t).cpu).floor)) :
  PX bs Vh #[.agg (Qa W m).toArray,.int .i64 t] w (.int .i64 (X3 ((Q8 W t).v-(Qc W (Q8 W t).group (Q8 W t).cpu).floor) (Qe (Q8 W t).nice))):=
 zay W.now m.cO W.cpus.length m.cC m.tO W.tasks.length m.tC m.gO W.groups.length m.gC t fun wr hx=>by
  have h:=(h.ext hx).less (cs:=[]) (by simp);intro b hb;exact⟨h.t.ix QI t0 t1,_,_,_,_,_,_,_,_,_,h.t t t0 t1,fun b1 hb1=>⟨h.g.ix g0 g1,_,_,_,h.g.shelf g0 g1,(h.g.shelves _ g0 g1).ix ZD c0 c1,_,(h.g.shelves _ g0 g1).f c0 c1 (j:=0) rfl,hr,_,ZB,_,Pv,rfl⟩⟩
theorem B7{t n:Int}(h:YZ [] w W m)(hl:Xc W) :
  Cz VT #[.agg (Qa W m).toArray,.int .i64 t,.int .i64 n] w fun e w'=>∃v,e=.returned v/\QG (YG W (O2 W t n) (Kw W t n)) w v w':=by
 refine FO W.now m.cO W.cpus.length m.cC m.tO W.tasks.length m.tC m.gO W.groups.length m.gC t n (R:=fun v w'=>QG (YG W (O2 W t n) (Kw W t n)) w v w') ?_;intro x hx x1 hx1 wr hx2 hs2;refine Calls.mono (Z5 (h.ext hx2) hl) ?_;rintro e wv (⟨hW,he,hy⟩ | ⟨hW,m',he,hM,hy⟩)
 ·exact⟨_,_,_,_,_,_,_,_,_,_,_,he,Qd hy hs2,0,fun g=>by simp at g,fun _ wr1 hx3=>QG.bad hW ((hx2.trans hy).fresh hx3 fun y hm=>.inl (Yr hx hx1 y hm)),fun g=>by simp at g⟩
 have hK:=Wk.begin hx hx1 hx2 hs2 hM hy;have hr:=hK.rd;have hc1:((if QK W=true then 0 else 10:Int)==1)=false:=by split <;> rfl
 refine⟨_,_,_,_,_,_,_,_,_,_,_,he,Qd hy hs2,_,fun _=>ZB (n:=n),fun g wr1 hx3=>?_,fun g0=>⟨_,J5 hr hl.t,fun g wr2 hx3=>?_,fun g=>?_⟩⟩
 ·rw[hc1] at g;have g:Qe n=0:=by simpa using g
  have hb:O2 W t n=1:=by unfold O2; rw[if_pos g]
  exact QG.no hW (by rw[hb]; decide) (hK.step hx3) hb
 ·rw[hc1] at g0;have g0:¬Qe n=0:=by simpa using g0
  have g:ZT W t=false:=by simpa using g
  have hb:O2 W t n=2:=by unfold O2 Tr; rw[if_neg g0,if_pos g]
  exact QG.no hW (by rw[hb]; decide) (hK.step hx3) hb
 rw[hc1] at g0;have gw:¬Qe n=0:=by simpa using g0
 have g:ZT W t=true:=by simpa using g
 obtain⟨t0,t1,tn⟩:=YB g;have hix:=hr.t.ix QI t0 t1;refine⟨fun g3 wr4 hx3=>?_,fun g3=>?_⟩
 ·have hr0:¬QK W=true:=fun hr=>by rw[if_pos hr] at g3; simp at g3
  have hb:O2 W t n=10:=by unfold O2 Tr; rw[if_neg gw,if_neg (by rw[g]; decide),if_pos (by simpa using hr0)]
  rw[if_neg hr0];exact QG.no hW (by rw[hb]; decide) (hK.step hx3) hb
 have hr0:QK W=true:=Decidable.byContradiction fun hr=>by rw[if_neg hr] at g3; simp at g3
 have hb:O2 W t n=0:=by unfold O2 Tr; rw[if_neg gw,if_neg (by rw[g]; decide),if_neg (by rw[hr0]; decide)]
 have hN:=zko hW hb;have sw:=hN.sw;have htl:=sw.a.t;obtain⟨hu,c0,c1⟩:=sw.t t t0 (by omega) tn;obtain⟨q0,q1,_⟩:=Q5.1 hu;have hsl:=sw.a.sl hu;have hK2:Wk 8 [x,x1] w (sto wv m'.tO (Int.toNat t*9) (YM { Q8 W t with nice:=n })) (setTk W t { Q8 W t with nice:=n }) m':=hK.sto (hK.own.stoT t0 t1 (j:=0) (vs:=YM { Q8 W t with nice:=n }) (x:={ Q8 W t with nice:=n }) rfl (by show 0+9<=9; decide)) Lv;have e5:∀x mm,Qa (setTk W t x) mm=Qa W mm:=fun x mm=>by simp[Qa,setTk]
 refine⟨hix,_,_,_,_,_,_,_,_,_,hr.t t t0 t1,fun b2 hb2=>⟨hix,ze9 hK.own hK.nb t0 t1 (j:=0) (by decide),fun g4=>?_,fun g4 wr9 hx9 hs9=>?_⟩⟩
 ·have g4:(Q8 W t).state=1:=by simpa[Q8] using g4
  have hT:=zkn (n:=n) g4;obtain⟨f0,f1,v0,v1⟩:=hN.f g4;have hv:=sw.tv t t0 (by omega);have hh:Qp=50000000000000000:=rfl;have hk:K1=50000034686091440:=rfl;have hr2:=hK2.rd;have etk:Q8 (setTk W t { Q8 W t with nice:=n }) t={ Q8 W t with nice:=n }:=EJ t0 t1;have t1':t<((setTk W t { Q8 W t with nice:=n }).tasks.length:Int):=by simpa[setTk] using t1
  have hlag:=LL (t:=t) hr2 t0 t1' (by rw[etk]; exact q0) (by rw[etk]; exact q1) (by rw[etk]; exact c0) (by rw[etk]; show (Q8 W t).cpu<(((gi W.groups (Q8 W t).group).shelves.length:Nat):Int); omega) (by rw[etk]; exact⟨by show _<=(Q8 W t).v-(Qc W (Q8 W t).group (Q8 W t).cpu).floor; omega,by show (Q8 W t).v-(Qc W (Q8 W t).group (Q8 W t).cpu).floor<=_; omega⟩);rw[etk,e5] at hlag;have lc:=ZQ ((Q8 W t).v-(Qc W (Q8 W t).group (Q8 W t).cpu).floor) (Qe n);have lm:=ZN (Qe n);have hset:Y1 8 w.heap.size (sto (sto wv m'.tO (Int.toNat t*9) (YM { Q8 W t with nice:=n })) m'.tO (Int.toNat t*9) (YM { Q8 W t with nice:=n,v:=PY W t n })) (setTk (setTk W t { Q8 W t with nice:=n }) t { Q8 W t with nice:=n,v:=PY W t n }) m':=hK2.own.stoT t0 t1' (j:=0) (vs:=YM { Q8 W t with nice:=n,v:=PY W t n }) (x:={ Q8 W t with nice:=n,v:=PY W t n }) (by rw[show gi (setTk W t { Q8 W t with nice:=n }).tasks t={ Q8 W t with nice:=n } from etk]; rfl) (by show 0+9<=9; decide);rw[set_set,<-hT] at hset;have hK3:Wk 8 ([x,x1]++[b2]) w _ (setTk W t (XD W t n)) m':=(hK.add hb2).sto hset (Lv.trans Lv)
  have hst:∀vs0 vs:List Va,YM { Q8 W t with nice:=n }=vs0->YM (XD W t n)=vs->Wk 8 ([x,x1]++[b2]) w (sto (sto wv m'.tO (Int.toNat t*9) vs0) m'.tO (Int.toNat t*9) vs) (setTk W t (XD W t n)) m':=fun vs0 vs h0 h1=>by
   subst h0;subst h1;rw[hT] at hK3 ⊢;exact hK3
  have sub3:∀y∈[x,x1],y∈[x,x1]++[b2]:=fun y hy=>List.mem_append_left _ hy
  have hK3':Wk 8 [x,x1] w _ (setTk W t (XD W t n)) m':=hK3.sub sub3;have hflo:Q2 [x,x1] (sto wv m'.tO (Int.toNat t*9) (YM { Q8 W t with nice:=n })) (m'.ms (Q8 W t).group.toNat).sO (Int.toNat (Q8 W t).cpu*5+0) [.int .i64 (Qc W (Q8 W t).group (Q8 W t).cpu).floor]:=(hr2.g.shelves _ q0 q1).f c0 (by show (Q8 W t).cpu<(((gi W.groups (Q8 W t).group).shelves.length:Nat):Int); omega) (j:=0) rfl;have ecp:(Q8 (setTk W t (XD W t n)) t).cpu=(Q8 W t).cpu:=by rw[EJ t0 t1]; rfl
  refine⟨hr.g.ix q0 q1,_,_,_,hr2.g.shelf q0 q1,(hr2.g.shelves _ q0 q1).ix ZD c0 (by show (Q8 W t).cpu<(((gi W.groups (Q8 W t).group).shelves.length:Nat):Int); omega),(Qc W (Q8 W t).group (Q8 W t).cpu).floor,hflo,X3 ((Q8 W t).v-(Qc W (Q8 W t).group (Q8 W t).cpu).floor) (Qe n),hlag,⟨?_,?_⟩,hix,ze9 hK2.own hK2.nb t0 t1' (j:=0) (by decide),hr.c.ix Zh c0 c1,(gi W.cpus (Q8 W t).cpu).cur,?_,fun g5 wr4 hx4 hs4=>?_,fun g5 wr7 hx7 hs7=>?_⟩
  ·show _<=PY W t n; omega
  ·show PY W t n<=_; omega
  ·rw[hT] at hK3';exact hK3'.rd.c.f c0 c1 (j:=1) rfl
  ·have g5:(gi W.cpus (Q8 W t).cpu).cur=t:=by simpa using g5
   have hE:Kw W t n=Qg (endW (setTk W t (XD W t n)) (Q8 W t).cpu):=by unfold Kw QQ; rw[if_pos g4,ecp,if_pos (show (gi (setTk W t (XD W t n)).cpus (Q8 W t).cpu).cur=t from g5)]
   rw[hE];have hK5:=(hst _ _ (by rfl) (by rw[hT]; rfl)).step (hx4.mono sub3);have hcall:=Zp hK5.own c0 c1;rw[e5] at hcall;refine Calls.mono hcall ?_;rintro e1 wv1 ⟨he1,hy1⟩;refine⟨_,_,_,_,_,_,_,_,_,_,he1,hK5.kept hy1 hs4,fun wr6 hx6 hs6=>?_⟩;have hK6:=(hK5.deed hy1 hs4).step hx6;refine Calls.mono (Qq hK6.own (hN.s1.endW c0 c1) (by decide) (by decide) hK6.base) ?_;rintro e2 wv2 ⟨m1,he2,hy2⟩;exact⟨_,_,_,_,_,_,_,_,_,_,he2,hK6.kept hy2 hs6,fun wr7 hx7=>QG.ok hW hb ((hK6.deed hy2 hs6).step hx7)⟩
  ·have g5:¬(gi W.cpus (Q8 W t).cpu).cur=t:=by simpa using g5
   have hE:Kw W t n=Qg (setTk W t (XD W t n)):=by unfold Kw QQ; rw[if_pos g4,ecp,if_neg (show ¬(gi (setTk W t (XD W t n)).cpus (Q8 W t).cpu).cur=t from g5)]
   rw[hE];have hK5:=(hst _ _ (by rfl) (by rw[hT]; rfl)).step (hx7.mono sub3);have hcall:=Qq hK5.own hN.s1 (by decide) (by decide) hK5.base;rw[e5] at hcall;refine Calls.mono hcall ?_;rintro e2 wv2 ⟨m1,he2,hy2⟩;exact⟨_,_,_,_,_,_,_,_,_,_,he2,hK5.kept hy2 hs7,fun wr7 hx7=>QG.ok hW hb ((hK5.deed hy2 hs7).step hx7)⟩
 ·have g4:¬(Q8 W t).state=1:=by simpa[Q8] using g4
  have hE:Kw W t n=Qg (setTk W t (XD W t n)):=by unfold Kw; rw[if_neg g4]
  have hs1:=hN.s1;rw[hE,zkm g4];rw[zkm g4] at hs1;have hK3:Wk 8 ([x,x1]++[b2]) w _ (setTk W t { Q8 W t with nice:=n }) m':=(hK.add hb2).sto hK2.own Lv;have hK5:=hK3.step (hx9.mono fun y hy=>List.mem_append_left _ hy);have hcall:=Qq hK5.own hs1 (by decide) (by decide) hK5.base;rw[e5] at hcall;refine Calls.mono hcall ?_;rintro e2 wv2 ⟨m1,he2,hy2⟩;exact⟨_,_,_,_,_,_,_,_,_,_,he2,hK5.kept hy2 hs9,fun wr7 hx7=>QG.ok hW hb ((hK5.deed hy2 hs9).step hx7)⟩
end
noncomputable def Pr(W:Q7)(g:Int)(ok:Bool):Int:=if ok=false\/g=0 then 1 else if Q6 W.groups g=false then 2 else if QK W=false then 10 else 0
theorem zd2{W:Q7}{g:Int}{ok:Bool}(h:Pr W g ok=0):ok=true/\g≠0/\Q6 W.groups g=true/\QK W=true:=by
 unfold Pr at h
 split at h
 ·cases h
 ·rename_i h1
  split at h
  ·cases h
  ·rename_i h2
   split at h
   ·cases h
   ·rename_i h3;exact⟨by cases ok <;> simp_all,fun e=>h1 (.inr e),by simpa using h2,by simpa using h3⟩
def zsy:Jb:=⟨0,0,0,[],[]⟩
def XC(q:Int)(n:Nat):Jb:=⟨q,q,0,List.replicate n 0,List.replicate n false⟩
def LN(q p:Int):Bool:=q==0&&p==0
def zbs(q p:Int):Bool:=LN q p||(Yo q 1 10000&&Yo p 1 1000)
def Pw(W:Q7)(g q p:Int):ZA:=if LN q p=true then { gi W.groups g with period:=0,next:=0,band:=zsy } else { gi W.groups g with period:=p,next:=W.now+p,band:=XC q W.cpus.length }
noncomputable def zga(W:Q7)(g q p:Int):Int:=Pr W g (zbs q p)
def zr5(W:Q7)(g q p:Int):Q7:=Qg (setGr W g (Pw W g q p))
theorem EF(n:Nat):∀k:Nat,k<=n->Ub (List.replicate n (0:Int)) k=0
 | 0,_=>rfl
 | k+1,hk=>by
  simp only[Ub];rw[EF n k (by omega),TR _ _ (by omega) (by omega)]; rfl
theorem zbx{q:Int}{n:Nat}(q1:1<=q)(q2:q<=10000)(n1:1<=n)(n2:n<=4):Vz (XC q n):=by
 refine⟨q1,q2,by simpa[XC] using n1,by simpa[XC] using n2,by simp[XC],by simp only[XC]; omega,Int.le_refl _,by simp[XC],by simp only[XC]; omega,fun c c0 c1=>?_,?_⟩
 ·simp only[XC,List.length_replicate] at c1 ⊢;rw[TR _ _ c0 c1,TR _ _ c0 c1];exact⟨Int.le_refl _,by omega,fun h=>by cases h⟩
 ·simp only[XC,List.length_replicate];rw[EF n n (Nat.le_refl _)]; omega
theorem zd8{W:Q7}{g q p:Int}:(Pw W g q p).used=(gi W.groups g).used/\(Pw W g q p).parent=(gi W.groups g).parent/\(Pw W g q p).name=(gi W.groups g).name/\(Pw W g q p).shelves=(gi W.groups g).shelves/\(Pw W g q p).weight=(gi W.groups g).weight/\(Pw W g q p).cpus=(gi W.groups g).cpus/\(Pw W g q p).sum=(gi W.groups g).sum:=by
 unfold Pw; split <;> exact⟨rfl,rfl,rfl,rfl,rfl,rfl,rfl⟩
theorem SW.setGr{K:Int}{W:Q7}(h:SW K W){g:Int}{x:ZA}(hu:Q6 W.groups g=true)(u:x.used=(gi W.groups g).used)(p:x.parent=(gi W.groups g).parent)(n:x.name=(gi W.groups g).name)(s:x.shelves=(gi W.groups g).shelves)(hx:zhm W g x):SW K (setGr W g x):=by
 obtain⟨u0,u1,ut⟩:=Q5.1 hu;have hl:=h.a.gl;have hT:=Ja (x:=x) u0 u1 u p n
 have es:∀k c:Int,0<=k->Qc (YtnclplgaicdapaaGreatDoor.setGr W g x) k c=Qc W k c:=fun k c k0=>by
  unfold Qc;rw[Yj u0 u1 k0];split
  ·rename_i e; subst e; rw[s]
  ·rfl
 refine⟨h.a.set u0 (by omega) u p n (fun hn=>by rw[u,ut] at hn; cases hn) fun _=>hx,fun t a b n=>by rw[hT.usd]; exact h.t t a b n,h.tv,fun k c uk a b=>?_,h.cu⟩;rw[hT.usd] at uk;rw[es k c (Q5.1 uk).1];exact h.s k c uk a b
theorem zo0{W:Q7}{g q p:Int}(hW:Qv W=true)(hb:zga W g q p=0):Q6 W.groups g=true/\g≠0/\zbs q p=true/\QK W=true/\SW Qp W/\SW Qp (setGr W g (Pw W g q p)):=by
 obtain⟨h1,h2,h3,h4⟩:=zd2 hb;have wp:=Qh.1 hW;have sw:=OT wp (Qh.1 h4);obtain⟨u0,u1,hg⟩:=wp.a.u h3;have hl:=zd8 (W:=W) (g:=g) (q:=q) (p:=p);have hc1:=wp.a.c1;have hc2:=wp.a.c2;refine⟨h3,h2,h1,h4,sw,sw.setGr h3 hl.1 hl.2.1 hl.2.2.1 hl.2.2.2.1 ⟨by rw[hl.2.2.2.2.1]; exact hg.w1,by rw[hl.2.2.2.2.1]; exact hg.w2,by rw[hl.2.2.2.2.2.1]; exact hg.m,by rw[hl.2.2.2.2.2.1]; exact hg.m0,by rw[hl.2.2.2.2.2.2]; exact hg.s,by rw[hl.2.2.2.1]; exact hg.len,fun h=>absurd h h2,fun hq=>?_,fun hq=>?_⟩⟩
 ·unfold Pw at hq ⊢;split
  ·exact⟨show T7 zsy=true by decide,rfl,rfl⟩
  ·rename_i hn;rw[if_neg hn] at hq;unfold zbs at h1;rw[show LN q p=false by simpa using hn,Bool.false_or,Bool.and_eq_true] at h1;have:=Qo.1 h1.1;have:q=0:=hq;omega
 ·unfold Pw at hq ⊢;split
  ·rename_i hn;rw[if_pos hn] at hq;exact absurd rfl hq
  ·rename_i hn;unfold zbs at h1;rw[show LN q p=false by simpa using hn,Bool.false_or,Bool.and_eq_true] at h1;have h5:=Qo.1 h1.1;have h6:=Qo.1 h1.2;exact⟨zbx h5.1 h5.2 hc1 hc2,by simp[XC],h6.1,h6.2,by show W.now<W.now+p; omega,by show W.now+p-W.now<=p; omega⟩
theorem zke{W:Q7}{g q p:Int}(h:LN q p=true):Pw W g q p={ gi W.groups g with period:=0,next:=0,band:=zsy }:=by unfold Pw; rw[if_pos h]
theorem zgb{W:Q7}{g q p:Int}(h:LN q p=false):Pw W g q p={ gi W.groups g with period:=p,next:=W.now+p,band:=XC q W.cpus.length }:=by unfold Pw; rw[if_neg (by rw[h]; decide)]
def Bi:MG:=⟨none,0,none,0,none,0⟩
theorem zsf(base:Nat)(w:Wo):QR base w zsy Bi:=⟨.inl ⟨rfl,rfl,rfl⟩,.inl ⟨rfl,rfl,rfl⟩⟩
theorem zmm:∀x∈Zt Bi,False:=fun x hx=>by simp[Zt,Bi,Qy] at hx
section
variable {W W':Q7}{m:MW}{w:Wo}{bar:Int}
theorem zuh{b:Nat}{bs:List Nat}{w w1 w2 w3:Wo}{q:Int}{n:Nat}(s:Sc w [b] w1)(h2:Q0 [b] (w1.alloc (.cells ((List.replicate n (0:Int)).flatMap Xu).toArray Qb)) w2)(hs1:∀y∈[b],y<w1.heap.size)(hs2:∀y∈[b],y<w2.heap.size)(h3:Q0 [b] (w2.alloc (.cells ((List.replicate n false).flatMap Ol).toArray ZR)) w3)(_:bs=[]) :
  QR w.heap.size w3 (XC q n) ⟨some ⟨w1.heap.size,0,none⟩,n,some ⟨w2.heap.size,0,none⟩,n,none,0⟩/\Q0 [] w w3:=by
 have hL0:Ob Xu 1 Qb w1.heap.size [b] _ (some ⟨w1.heap.size,0,none⟩) n (List.replicate n (0:Int)):=Ob.of (U9 (enc:=Xu) ZW.len Qb n (0:Int) w1) hs1;have s1:=(s.call0 (QV w1 (.cells ((List.replicate n (0:Int)).flatMap Xu).toArray Qb))).step h2;have hL1:=((hL0.step h2).call0 (QV w2 (.cells ((List.replicate n false).flatMap Ol).toArray ZR))).step h3;have hD0:Ob Ol 1 ZR w2.heap.size [b] _ (some ⟨w2.heap.size,0,none⟩) n (List.replicate n false):=Ob.of (U9 (enc:=Ol) Ys.len ZR n false w2) hs2;have hD1:=hD0.step h3;have s2:=(s1.call0 (QV w2 (.cells ((List.replicate n false).flatMap Ol).toArray ZR))).step h3;exact⟨⟨hL1.own.mono s.ext.size,hD1.own.mono s1.ext.size⟩,s2.ext⟩
theorem zse{b:Nat}{w w1 w2 w3:Wo}{q:Int}{n:Nat}(s:Sc w [b] w1)(h2:Q0 [b] (w1.alloc (.cells ((List.replicate n false).flatMap Ol).toArray ZR)) w2)(hs1:∀y∈[b],y<w1.heap.size)(hs2:∀y∈[b],y<w2.heap.size)(h3:Q0 [b] (w2.alloc (.cells ((List.replicate n (0:Int)).flatMap Xu).toArray Qb)) w3) :
  QR w.heap.size w3 (XC q n) ⟨some ⟨w2.heap.size,0,none⟩,n,some ⟨w1.heap.size,0,none⟩,n,none,0⟩/\Q0 [] w w3:=by
 have hL0:Ob Ol 1 ZR w1.heap.size [b] _ (some ⟨w1.heap.size,0,none⟩) n (List.replicate n false):=Ob.of (U9 (enc:=Ol) Ys.len ZR n false w1) hs1;have s1:=(s.call0 (QV w1 (.cells ((List.replicate n false).flatMap Ol).toArray ZR))).step h2;have hL1:=((hL0.step h2).call0 (QV w2 (.cells ((List.replicate n (0:Int)).flatMap Xu).toArray Qb))).step h3;have hD0:Ob Xu 1 Qb w2.heap.size [b] _ (some ⟨w2.heap.size,0,none⟩) n (List.replicate n (0:Int)):=Ob.of (U9 (enc:=Xu) ZW.len Qb n (0:Int) w2) hs2;have hD1:=hD0.step h3;have s2:=(s1.call0 (QV w2 (.cells ((List.replicate n (0:Int)).flatMap Xu).toArray Qb))).step h3;exact⟨⟨hD1.own.mono s1.ext.size,hL1.own.mono s.ext.size⟩,s2.ext⟩
theorem Kl{q:Int}{n:Nat}(hq:Yo q 1 10000=true)(hn:Yo (n:Int) 1 4=true) :
  Cz Qz #[.int .i64 q,.int .i64 (n:Int)] w fun e w'=>∃p:MG,e=.returned (.tuple #[.agg (QT (XC q n) p).toArray,.bool true])/\QR w.heap.size w' (XC q n) p/\Q0 [] w w':=by
 refine(NF q (n:Int) (R:=fun v w'=>∃p:MG,v=.tuple #[.agg (QT (XC q n) p).toArray,.bool true]/\QR w.heap.size w' (XC q n) p/\Q0 [] w w') ?_).mono fun e w' ⟨v,he,p,hv,h3⟩=>⟨p,by rw[he,hv],h3⟩
 have hm9:=Zb;have h4:=(Qo.1 hn).2;intro b hb;have s0:Sc w [b] w:=(Sc.start w).add hb;have k1:=Qj (n:=q) (a:=1) (b:=10000) (w:=w) (bs:=[]);have k2:=Qj (n:=(n:Int)) (a:=1) (b:=4) (w:=w) (bs:=[]);rw[hq] at k1;rw[hn] at k2;refine⟨true,k1,true,fun _=>k2,fun g=>by simp at g,fun _=>⟨fun wr1 hx1 hs1=>⟨_,_,_,_,Pz ZW TB n (by omega) (by omega) wr1,Qd (QV _ _) hs1,fun wr2 hx2 hs2=>⟨_,_,_,_,Pz Ys M4 n (by omega) (by omega) wr2,Qd (QV _ _) hs2,fun wr3 hx3=>?_⟩⟩,fun wr1 hx1 hs1=>⟨_,_,_,_,Pz Ys M4 n (by omega) (by omega) wr1,Qd (QV _ _) hs1,fun wr2 hx2 hs2=>⟨_,_,_,_,Pz ZW TB n (by omega) (by omega) wr2,Qd (QV _ _) hs2,fun wr3 hx3=>?_⟩⟩⟩⟩
 ·exact⟨_,by simp[QT,XC],zuh (bs:=[]) (s0.call0 hx1) hx2 hs1 hs2 hx3 rfl⟩
 ·exact⟨_,by simp[QT,XC],zse (s0.call0 hx1) hx2 hs1 hs2 hx3⟩
theorem zue{base:Nat}(h:Y1 8 base w W m){g:Int}(u0:0<=g)(u1:g<8){G:ZA}{p:MG}(hp:QR base w G.band p)(hb:∀x∈Zt p,x∉QB 8 m)(es:G.shelves=(gi W.groups g).shelves){j:Nat}{vs:List Va}(he:Yc G (VH (m.ms g.toNat) p)=(Yc (gi W.groups g) (m.ms g.toNat)).take j++vs++(Yc (gi W.groups g) (m.ms g.toNat)).drop (j+vs.length))(hj:j+vs.length<=14) :
  Y1 8 base (sto w m.gO (Int.toNat g*14+j) vs) (setGr W g G) (Oc m g.toNat (VH (m.ms g.toNat) p)):=
 h.stoG u0 u1 (g:=G) (p:=VH (m.ms g.toNat) p) ⟨hp.loc,hp.dry,by rw[es]; exact(h.each u0 u1).shl⟩ (fun x hx=>by
  rcases T9 x hx with h1 | h1
  ·exact .inl (hb x h1)
  ·exact .inr h1) he hj
theorem Wk.gr{bs:List Nat}{w0:Wo}(h:Wk 8 bs w0 w W m){g:Int}(u0:0<=g)(u1:g<8){G:ZA}{p:MG}(hp:QR w0.heap.size w G.band p)(hb:∀x∈Zt p,x∉QB 8 m/\x∉bs)(es:G.shelves=(gi W.groups g).shelves){j:Nat}{vs:List Va}(he:Yc G (VH (m.ms g.toNat) p)=(Yc (gi W.groups g) (m.ms g.toNat)).take j++vs++(Yc (gi W.groups g) (m.ms g.toNat)).drop (j+vs.length))(hj:j+vs.length<=14) :
  Wk 8 bs w0 (YtnclplgaicdapaaGreatDoor.sto w m.gO (Int.toNat g*14+j) vs) (setGr W g G) (Oc m g.toNat (VH (m.ms g.toNat) p)):=
 ⟨h.s.call EE fun x hx=>(h.own.lt x hx).1,⟨zue h.own u0 u1 hp (fun x hx=>(hb x hx).1) es he hj,fun x hx=>by
  rcases Ta x hx with h1 | h1
  ·exact h.nb x h1
  ·rcases T9 x h1 with h2 | h2
   ·exact(hb x h2).2
   ·exact h.nb x (JB (by omega) h2)⟩⟩
theorem Um{g:Int}{ok:Bool}(h:YZ [] w W m)(hl:Xc W) :
  Cz YV #[.agg (Qa W m).toArray,.int .i64 g,.bool ok] w fun e w'=>(Qv W=false/\e=.returned (.tuple #[.agg (Qa Pi zqq).toArray,.int .i64 1])/\Q0 [] w w')\/(Qv W=true/\∃m',e=.returned (.tuple #[.agg (Qa W m').toArray,.int .i64 (Pr W g ok)])/\Y1 8 w.heap.size w' W m'/\Q0 [] w w'):=by
 refine(FU W.now m.cO W.cpus.length m.cC m.tO W.tasks.length m.tC m.gO W.groups.length m.gC g ok (R:=fun v w'=>(Qv W=false/\v=.tuple #[.agg (Qa Pi zqq).toArray,.int .i64 1]/\Q0 [] w w')\/(Qv W=true/\∃m',v=.tuple #[.agg (Qa W m').toArray,.int .i64 (Pr W g ok)]/\Y1 8 w.heap.size w' W m'/\Q0 [] w w')) ?_).mono fun e w' ⟨v,he,h3⟩=>by
  rw[he];rcases h3 with ⟨a,b,c⟩ | ⟨a,m',b,c⟩
  ·exact .inl ⟨a,by rw[b],c⟩
  ·exact .inr ⟨a,m',by rw[b],c⟩
 intro x hx x1 hx1 wr hx2 hs2;refine Calls.mono (Z5 (h.ext hx2) hl) ?_;rintro e wv (⟨hW,he,hy⟩ | ⟨hW,m',he,hM,hy⟩)
 ·exact⟨_,_,_,_,_,_,_,_,_,_,_,he,Qd hy hs2,fun _ wr1 hx3=>.inl ⟨hW,rfl,(hx2.trans hy).fresh hx3 fun y hm=>.inl (Yr hx hx1 y hm)⟩,fun g=>by simp at g⟩
 have hK:=Wk.begin hx hx1 hx2 hs2 hM hy;have hc1:((if QK W=true then 0 else 10:Int)==1)=false:=by split <;> rfl
 refine⟨_,_,_,_,_,_,_,_,_,_,_,he,Qd hy hs2,fun g1 wr1 hx3=>.inr ⟨hW,m',?_,(hK.step hx3).fin⟩,fun g1=>⟨_,YR hK.rd.g,fun g2 wr2 hx3=>.inr ⟨hW,m',?_,(hK.step hx3).fin⟩,fun g2 wr3 hx3=>.inr ⟨hW,m',?_,(hK.step hx3).fin⟩⟩⟩
 ·have hb:Pr W g ok=1:=by
   unfold Pr;rw[if_pos];rw[hc1] at g1
   simpa using g1
  rw[hb]; rfl
 ·rw[hc1] at g1;have g1:¬(ok=false\/g=0):=by simpa using g1
  have hb:Pr W g ok=2:=by unfold Pr; rw[if_neg g1,if_pos (by simpa using g2)]
  rw[hb]; rfl
 ·rw[hc1] at g1;have g1:¬(ok=false\/g=0):=by simpa using g1
  have hb:Pr W g ok=if QK W=true then 0 else 10:=by
   unfold Pr; rw[if_neg g1,if_neg (by simpa using g2)]
   cases QK W <;> rfl
  rw[hb]; rfl
theorem Hz{g q p:Int}(h:YZ [] w W m)(hl:Xc W) :
  Cz UD #[.agg (Qa W m).toArray,.int .i64 g,.int .i64 q,.int .i64 p] w fun e w'=>∃v,e=.returned v/\QG (YG W (zga W g q p) (zr5 W g q p)) w v w':=by
 refine Hg W.now m.cO W.cpus.length m.cC m.tO W.tasks.length m.tC m.gO W.groups.length m.gC g q p (R:=fun v w'=>QG (YG W (zga W g q p) (zr5 W g q p)) w v w') ?_;intro x hx x1 hx1;refine⟨_,fun _=>Qj,_,fun _ _=>Qj,fun wr hx2 hs2=>?_⟩;refine Calls.mono (Um (g:=g) (ok:=zbs q p) (h.ext hx2) hl) ?_;rintro e wv (⟨hW,he,hy⟩ | ⟨hW,m',he,hM,hy⟩)
 ·exact⟨_,_,_,_,_,_,_,_,_,_,_,he,Qd hy hs2,fun _ wr1 hx3=>QG.bad hW ((hx2.trans hy).fresh hx3 fun y hm=>.inl (Yr hx hx1 y hm)),fun g=>by simp at g⟩
 have hK:=Wk.begin hx hx1 hx2 hs2 hM hy;refine⟨_,_,_,_,_,_,_,_,_,_,_,he,Qd hy hs2,fun g1 wr1 hx3=>QG.no hW (by simpa[zga] using g1) (hK.step hx3) rfl,fun g1=>?_⟩;have hb:zga W g q p=0:=by simpa[zga] using g1
 have hr:=hK.rd;obtain⟨hu,hz,hok,hroom,sw,s1⟩:=zo0 hW hb;obtain⟨u0,u1,_⟩:=Q5.1 hu;have hgl:=sw.a.gl;have hc1:=sw.a.c1;have hc2:=sw.a.c2;have hn1:=sw.a.n1;have hn2:=sw.a.n2;have hix:=hr.g.ix (i:=g) u0 u1;have e5:∀G mm,mm={ m' with ms:=mm.ms }->Qa (setGr W g G) mm=Qa W m':=fun G mm hm=>by rw[hm]; simp[Qa,setGr]
 have eb:Qa W m'=Qa W m':=rfl;refine⟨hix,_,_,_,_,_,_,_,_,_,_,_,_,_,_,_,_,_,_,_,_,hr.g.cells g u0 u1,fun b2 hb2=>⟨fun g2 wr2 hx3 hs3=>?_,fun g2=>?_⟩⟩
 ·have g2:LN q p=false:=by unfold LN; simpa only[Bool.not_eq_true'] using g2
  have hlm:Yo q 1 10000=true/\Yo p 1 1000=true:=by unfold zbs at hok; rw[g2,Bool.false_or,Bool.and_eq_true] at hok; exact hok
  have hp:=Qo.1 hlm.2;have hK2:=(hK.add hb2).step (hx3.mono fun y hy=>List.mem_append_left _ hy);refine Calls.mono (Kl (n:=W.cpus.length) hlm.1 (Qo.2 ⟨by omega,by omega⟩)) ?_;rintro e1 wv1 ⟨pb,he1,hO,hy1⟩;refine⟨_,_,_,_,_,_,_,_,_,_,he1,Qd hy1 hs3,fun b3 hb3=>⟨⟨by omega,by omega⟩,hix,?_,fun wr3 hx4 hs4=>?_⟩⟩
  ·exact zbc (hK2.call0 hy1).own (hK2.call0 hy1).nb u0 (by omega) (j:=0) (by decide)
  have hK3:=(hK2.call0 hy1).add hb3
  have hK4:=(hK3.gr u0 (by omega) (G:=Pw W g q p) (p:=pb) (j:=0) (vs:=Yc (Pw W g q p) (VH (m'.ms g.toNat) pb)) (by rw[zgb g2]; exact hO.mono hK2.base) (fun y hy=>?_) zd8.2.2.2.1 (by simp[Yc]) (by simp[Yc])).step (w':=wr3) (by
   rw[zgb g2];exact hx4.mono fun y hy=>List.mem_append_left _ hy)
  ·have hcall:=Qq hK4.own s1 (by decide) (by decide) hK4.base;rw[e5 _ _ rfl] at hcall;refine Calls.mono hcall ?_;rintro e2 wv2 ⟨m2,he2,hy2⟩;exact⟨_,_,_,_,_,_,_,_,_,_,he2,hK4.kept hy2 hs4,fun wr4 hx5=>QG.ok hW hb ((hK4.deed hy2 hs4).step hx5)⟩
  ·have:=hO.lt y hy;refine⟨fun hm=>?_,fun hm=>?_⟩
   ·have:=(hK2.own.lt y hm).2; omega
   ·rcases List.mem_append.1 hm with h1 | h1
    ·have:=hs3 y h1; omega
    ·have:y=b3:=by simpa using h1
     omega
 ·have g2:LN q p=true:=by unfold LN; simpa only[Bool.not_eq_false'] using g2
  refine⟨hix,?_,fun wr3 hx4 hs4=>?_⟩
  ·exact zbc hK.own hK.nb u0 (by omega) (j:=0) (by decide)
  have hK3:=hK.add hb2
  have hK4:=(hK3.gr u0 (by omega) (G:=Pw W g q p) (p:=Bi) (j:=0) (vs:=Yc (Pw W g q p) (VH (m'.ms g.toNat) Bi)) (by rw[zke g2]; exact zsf _ _) (fun y hy=>(zmm y hy).elim) zd8.2.2.2.1 (by simp[Yc]) (by simp[Yc])).step (w':=wr3) (by
   rw[zke g2];exact hx4.mono fun y hy=>List.mem_append_left _ hy)
  have hcall:=Qq hK4.own s1 (by decide) (by decide) hK4.base;rw[e5 _ _ rfl] at hcall;refine Calls.mono hcall ?_;rintro e2 wv2 ⟨m2,he2,hy2⟩;exact⟨_,_,_,_,_,_,_,_,_,_,he2,hK4.kept hy2 hs4,fun wr4 hx5=>QG.ok hW hb ((hK4.deed hy2 hs4).step hx5)⟩
theorem BX.pre{base pb:Nat}{ex:List Nat}{w0 w w':Wo}{W':Q7}{m m':MW}(hx:Q0 [] w0 w)(h:BX base pb ex w m w' W' m'):BX base pb ex w0 m w' W' m':=
 ⟨h.own,h.pt,hx.of_nil.trans h.ext,fun x hy=>(h.sub x hy).imp id fun hz=>Nat.le_trans hx.size hz⟩
theorem BX.post{base pb:Nat}{ex:List Nat}{w w' w1:Wo}{W':Q7}{m m':MW}(h:BX base pb ex w m w' W' m')(hx:Q0 [] w' w1):BX base pb ex w m w1 W' m':=
 ⟨h.own.ext0 hx,ZP h.pt hx (by simp),h.ext.trans hx.of_nil,h.sub⟩
end
def E7(W:Q7)(t:Int):Int:=X3 ((Q8 W t).v-(Qc W (Q8 W t).group (Q8 W t).cpu).floor) (Qe (Q8 W t).nice)
def Py(W:Q7)(t g c:Int):P5:={ Q8 W t with group:=g,cpu:=c,v:=(Qc W g c).floor+E7 W t }
def UJ(W:Q7)(t g c:Int):Q7:=if (Q8 W t).state=1 then endW (setTk W t (Py W t g c)) c else setTk W t (Py W t g c)
theorem Ag(W:Q7)(t:Int):0<=E7 W t/\E7 W t<=Qk:=by
 have lc:=ZQ ((Q8 W t).v-(Qc W (Q8 W t).group (Q8 W t).cpu).floor) (Qe (Q8 W t).nice);have lm:=ZN (Qe (Q8 W t).nice);unfold E7;simp only[Qk];omega
theorem SF.setTk{F K:Int}{W:Q7}(h:SF F K W){t:Int}(t0:0<=t)(t1:t<12){x:P5}(hx:x.state≠0->Q6 W.groups x.group=true/\0<=x.cpu/\x.cpu<(W.cpus.length:Int))(v0:0<=x.v)(v1:x.v<=K):SF F K (setTk W t x):=⟨h.w.setTk t0 t1 hx v0 v1,h.f⟩
theorem SF.endW{F K:Int}{W:Q7}(h:SF F K W){c:Int}(c0:0<=c)(c1:c<(W.cpus.length:Int)):SF F K (endW W c):=
 ⟨h.w.endW c0 c1,fun k d u a b=>h.f k d u a (by
  have b:d<(((W.cpus.set c.toNat (Xd (gi W.cpus c))).length:Nat):Int):=b
  rwa[List.length_set] at b)⟩
theorem zku{F K:Int}{W:Q7}(h:SF F K W)(hk:F+Qk<=K){t g c:Int}(hg:Q6 W.groups g=true)(c0:0<=c)(c1:c<(W.cpus.length:Int)):0<=(Py W t g c).v/\(Py W t g c).v<=K:=by
 have hf:=h.f g c hg c0 c1;have hs:=h.w.s g c hg c0 c1;have hl:=Ag W t;show 0<=(Qc W g c).floor+E7 W t/\(Qc W g c).floor+E7 W t<=K;omega
theorem BS{F K:Int}{W:Q7}(h:SF F K W)(hk:F+Qk<=K){t g c:Int}(t0:0<=t)(t1:t<12)(hg:Q6 W.groups g=true)(c0:0<=c)(c1:c<(W.cpus.length:Int)):SF F K (setTk W t (Py W t g c))/\SF F K (UJ W t g c):=by
 have hv:=zku h hk (t:=t) hg c0 c1;have h1:=h.setTk t0 t1 (x:=Py W t g c) (fun _=>⟨hg,c0,c1⟩) hv.1 hv.2;refine⟨h1,?_⟩;unfold UJ;split
 ·exact h1.endW c0 c1
 ·exact h1
theorem zps(W:Q7)(t g c:Int):(UJ W t g c).now=W.now/\(UJ W t g c).cpus.length=W.cpus.length/\(UJ W t g c).tasks.length=W.tasks.length/\(UJ W t g c).groups=W.groups:=by
 unfold UJ;split
 ·exact⟨rfl,by simp[endW,setCp,setTk],by simp[endW,setCp,setTk],rfl⟩
 ·exact⟨rfl,rfl,by simp[setTk],rfl⟩
def Lp(m:Int):Int:=if Z8 m 0=true then 0 else if Z8 m 1=true then 1 else if Z8 m 2=true then 2 else if Z8 m 3=true then 3 else -1
theorem zrd:∀a:Fin 16,a.val≠0->Z8 (a.val:Int) (Lp (a.val:Int))=true:=by decide +kernel
theorem HI{m:Int}(h:O9 m=true)(h0:m≠0):Z8 m (Lp m)=true:=by
 obtain⟨f,rfl⟩:=P8 h;exact zrd f fun e=>h0 (by rw[e]; rfl)
theorem zuo(gs:List ZA)(g u:Int):O9 (UW gs g u)=true:=by
 unfold UW;rw[List.foldl_append];exact BP _ _
theorem KM{W:Q7}(ha:WA W)(g mask:Int):O9 (Qs W g mask)=true/\Qs W g mask≠0:=by
 unfold Qs;split
 ·rename_i h; exact⟨BP _ _,h⟩
 ·split
  ·rename_i h;refine⟨?_,h⟩;exact zuo _ _ _
  ·exact⟨zsu ha.c2,ha.ups⟩
theorem Lc{W:Q7}(ha:WA W)(g mask:Int):0<=Lp (Qs W g mask)/\Lp (Qs W g mask)<(W.cpus.length:Int):=by
 have h:=KM ha g mask;exact Ka ha (HI h.1 h.2)
def Kt(W:Q7)(t:Int):Bool:=((Q8 W t).state != 0) && !Z8 (Qs W (Q8 W t).group (Q8 W t).mask) (Q8 W t).cpu
def JD(W:Q7):Nat->Q7
 | 0=>W
 | t+1=>if Kt (JD W t) (t:Int)=true then UJ (JD W t) (t:Int) (Q8 (JD W t) (t:Int)).group (Lp (Qs (JD W t) (Q8 (JD W t) (t:Int)).group (Q8 (JD W t) (t:Int)).mask)) else JD W t
def Lu(W:Q7):Q7:=JD W 12
structure F4 (W W':Q7):Prop where
 n:W'.now=W.now
 c:W'.cpus.length=W.cpus.length
 t:W'.tasks.length=W.tasks.length
 g:W'.groups=W.groups
theorem F4.refl(W:Q7):F4 W W:=⟨rfl,rfl,rfl,rfl⟩
theorem F4.trans{A B C:Q7}(h:F4 A B)(k:F4 B C):F4 A C:=⟨k.n.trans h.n,k.c.trans h.c,k.t.trans h.t,k.g.trans h.g⟩
theorem F4.put(W:Q7)(t g c:Int):F4 W (UJ W t g c):=by
 obtain⟨h1,h2,h3,h4⟩:=zps W t g c;exact⟨h1,h2,h3,h4⟩
theorem zer{F K:Int}{W:Q7}(h:SF F K W)(hk:F+Qk<=K):∀t:Nat,t<=12->SF F K (JD W t)/\F4 W (JD W t)
 | 0,_=>⟨h,F4.refl _⟩
 | t+1,ht=>by
  obtain⟨a,b⟩:=zer h hk t (by omega);simp only[JD];split
  ·rename_i hm;unfold Kt at hm;simp only[Bool.and_eq_true,bne_iff_ne,ne_eq] at hm;have hg:=a.w.t (t:Int) (by omega) (by omega) hm.1;have hf:=Lc a.w.a (Q8 (JD W t) (t:Int)).group (Q8 (JD W t) (t:Int)).mask;exact⟨(BS a hk (by omega) (by omega) hg.1 hf.1 hf.2).2,b.trans (F4.put _ _ _ _)⟩
  ·exact⟨a,b⟩
theorem L3{F K:Int}{W:Q7}(h:SF F K W)(hk:F+Qk<=K):SF F K (Lu W)/\F4 W (Lu W):=zer h hk 12 (Nat.le_refl _)
theorem zr9{m:Int}{k:Nat}(h4:k<4)(hno:∀j:Nat,j<k->Z8 m (j:Int)=false)(h:Z8 m (k:Int)=true):Lp m=(k:Int):=by
 have h0:=hno 0;have h1:=hno 1;have h2:=hno 2;have:k=0\/k=1\/k=2\/k=3:=by omega
 unfold Lp;rcases this with rfl | rfl | rfl | rfl
 ·rw[if_pos (show Z8 m 0=true from h)]; rfl
 ·rw[if_neg (by rw[show Z8 m 0=false from h0 (by decide)]; decide),if_pos (show Z8 m 1=true from h)]; rfl
 ·rw[if_neg (by rw[show Z8 m 0=false from h0 (by decide)]; decide),if_neg (by rw[show Z8 m 1=false from h1 (by decide)]; decide),if_pos (show Z8 m 2=true from h)]; rfl
 ·rw[if_neg (by rw[show Z8 m 0=false from h0 (by decide)]; decide),if_neg (by rw[show Z8 m 1=false from h1 (by decide)]; decide),if_neg (by rw[show Z8 m 2=false from h2 (by decide)]; decide),if_pos (show Z8 m 3=true from h)]; rfl
theorem zsa{m:Int}(hno:∀j:Nat,j<4->Z8 m (j:Int)=false):Lp m = -1:=by
 unfold Lp;rw[if_neg (by rw[show Z8 m 0=false from hno 0 (by decide)]; decide),if_neg (by rw[show Z8 m 1=false from hno 1 (by decide)]; decide),if_neg (by rw[show Z8 m 2=false from hno 2 (by decide)]; decide),if_neg (by rw[show Z8 m 3=false from hno 3 (by decide)]; decide)]
section
variable {base:Nat}{W W':Q7}{m:MW}{w:Wo}{bar:Int}
theorem PN{x:Int}{bs:List Nat}:PX bs Ji #[.int .i64 x] w (.int .i64 (Lp x)):=
 Er x fun wr hx=>by
  refine YE 4 0 rfl (fun k=>k<=4/\∀j:Nat,j<k->Z8 x (j:Int)=false) ⟨by decide,fun j hj=>absurd hj (Nat.not_lt_zero j)⟩ fun k ⟨hk,hno⟩=>⟨fun hlt=>?_,fun hge=>?_⟩
  ·have hlt:=Ot hlt;refine⟨_,ZM,fun g=>?_,fun g=>⟨⟨by omega,by omega⟩,Qr (by omega) ⟨by omega,fun j hj=>?_⟩⟩⟩
   ·rw[zr9 (by omega) hno g]
   ·by_cases e:j=k
    ·rw[e]; exact g
    ·exact hno j (by omega)
  ·have hge:=Ou hge;have:k=4:=by omega
   subst this;rw[zsa hno]
theorem Hq(W:Q7)(t:Int)(x:P5)(m:MW):Qa (setTk W t x) m=Qa W m:=by simp[Qa,setTk]
theorem U7{F K:Int}(h:Y1 8 base w W m)(hsw:SF F K W)(hk:F+Qk<=K)(hK:K<=1000000000000000000){t g c:Int}(t0:0<=t)(t1:t<12)(hs:(Q8 W t).state≠0)(hg:Q6 W.groups g=true)(c0:0<=c)(c1:c<(W.cpus.length:Int)) :
  Cz X0 #[.agg (Qa W m).toArray,.int .i64 t,.int .i64 g,.int .i64 c] w fun e w'=>e=.returned (.agg (Qa W m).toArray)/\Mv 8 base [] w m w' (UJ W t g c) m:=by
 refine(q7 W.now m.cO W.cpus.length m.cC m.tO W.tasks.length m.tC m.gO W.groups.length m.gC t g c (R:=fun v w'=>v=.agg (Qa W m).toArray/\Mv 8 base [] w m w' (UJ W t g c) m) ?_).mono fun e w' ⟨v,he,hv,h3⟩=>⟨by rw[he,hv],h3⟩
 intro y hy y1 hy1;obtain⟨g0,g1,_⟩:=Q5.1 hg;have htl:=hsw.w.a.t;have hgl:=hsw.w.a.gl;have hsl:=hsw.w.a.sl hg;have hl1:t<(W.tasks.length:Int):=by omega
 obtain⟨hu,d0,d1⟩:=hsw.w.t t t0 t1 hs;obtain⟨q0,q1,_⟩:=Q5.1 hu;have hql:=hsw.w.a.sl hu;have s1:=hsw.w.s g c hg c0 c1;have s2:=hsw.w.s _ _ hu d0 d1;have hv:=hsw.w.tv t t0 t1;have hlr:=Ag W t;simp only[Qk] at hlr;have hM:=Mv.two h hy hy1;have hr:=(Mv.start h).rd;have hix:=hr.t.ix QI t0 hl1;have hset:=h.stoT t0 hl1 (j:=0) (vs:=YM (Py W t g c)) (x:=Py W t g c) (by simp[YM]) (by simp[YM]);have e5:Qa (setTk W t (Py W t g c)) m=Qa W m:=Hq _ _ _ _;have e6:Qa (endW (setTk W t (Py W t g c)) c) m=Qa W m:=(O4 (NU _ _)).trans e5;refine⟨E7 W t,LL hr t0 hl1 q0 q1 d0 (by omega) ⟨by show _<=(Q8 W t).v-(Qc W (Q8 W t).group (Q8 W t).cpu).floor; omega,by show (Q8 W t).v-(Qc W (Q8 W t).group (Q8 W t).cpu).floor<=_; omega⟩,hix,_,_,_,_,_,_,_,_,_,hr.t t t0 hl1,fun b2 hb2=>⟨hr.g.ix g0 g1,_,_,_,hr.g.shelf g0 g1,(hr.g.shelves g g0 g1).ix ZD c0 (by omega),(Qc W g c).floor,ze8.f (hr.g.shelves g g0 g1) c0 (by omega) (j:=0) rfl,⟨by omega,by omega⟩,hix,ze9 h (by simp) t0 hl1 (j:=0) (by decide),fun g4 wr hx hs4=>?_,fun g4 wr hx=>⟨rfl,?_⟩⟩⟩
 ·have g4:(Q8 W t).state=1:=eq_of_beq g4;have hM2:=((hM.add hb2).deed hset Lv).step (hx.of_nil);have hcall:=Zp hM2.own (W:=setTk W t (Py W t g c)) c0 c1;rw[e5,e6] at hcall;refine Calls.mono hcall ?_;rintro e wv ⟨he1,hy2⟩;refine⟨_,_,_,_,_,_,_,_,_,_,he1,hM2.kept hy2 hs4,fun wr2 hx4=>⟨rfl,?_⟩⟩;unfold UJ;rw[if_pos g4];exact((hM2.call hy2 hs4).step hx4).close
 ·have g4:¬(Q8 W t).state=1:=ne_of_beq_false g4;unfold UJ;rw[if_neg g4];exact((Mv.start h).deed hset Lv).call0 hx
theorem XR{F K:Int}(h:Y1 8 base w W m)(hsw:SF F K W)(hk:F+Qk<=K)(hK:K<=1000000000000000000) :
  Cz Y4 #[.agg (Qa W m).toArray] w fun e w'=>e=.returned (.agg (Qa W m).toArray)/\Mv 8 base [] w m w' (Lu W) m:=by
 refine(G8 W.now m.cO W.cpus.length m.cC m.tO W.tasks.length m.tC m.gO W.groups.length m.gC (R:=fun v w'=>v=.agg (Qa W m).toArray/\Mv 8 base [] w m w' (Lu W) m) ?_).mono fun e w' ⟨v,he,hv,h3⟩=>⟨by rw[he,hv],h3⟩
 intro y hy y1 hy1;have htl:=hsw.w.a.t;refine⟨fun vs w1=>∃(k:Nat),vs=.int .i64 (k:Int)::Qa W m/\k<=12/\Mv 8 base [y,y1] w m w1 (JD W k) m,Zu 12 0,fun w1 hx0 _=>⟨0,rfl,by decide,(Mv.two h hy hy1).call0 hx0⟩,?_⟩;rintro c1 l l1O l1L l1C l2O l2L l2C l3O l3L l3C wv2 hs2 ⟨k,he,hk12,hM⟩;obtain⟨hS,hF⟩:=zer hsw hk k hk12;have hdef:JD W (k+1)=if Kt (JD W k) (k:Int)=true then UJ (JD W k) (k:Int) (Q8 (JD W k) (k:Int)).group (Lp (Qs (JD W k) (Q8 (JD W k) (k:Int)).group (Q8 (JD W k) (k:Int)).mask)) else JD W k:=rfl;have hend:k=12->Lu W=JD W k:=fun e=>by rw[e]; rfl
 have e0:Qa (JD W k) m=Qa W m:=by simp only[Qa,hF.n,hF.c,hF.t,hF.g]
 have eC:=hF.c;have eT:=hF.t;simp only[Qa,List.cons.injEq,Value.int.injEq,Value.slice.injEq,true_and,and_true] at he;obtain⟨rfl,rfl,⟨rfl,rfl,rfl⟩,⟨rfl,rfl,rfl⟩,rfl,rfl,rfl⟩:=he;generalize JD W k=V at hM hS hF hdef hend e0 eC eT;have hr:=hM.rd;refine⟨fun hlt=>?_,fun hge w3 hx3=>⟨rfl,?_⟩⟩
 ·have hlt:=Ot hlt;have t1:(k:Int)<(V.tasks.length:Int):=by omega
  have hix:Ix m.tO W.tasks.length (k:Int):=by have:=hr.t.ix QI (i:=(k:Int)) (by omega) t1; rwa[eT] at this
  have next:∀{w9 w8:Wo},Q0 [y,y1] wv2 w9->Kt V (k:Int)=false->(∃(k':Nat),[Value.int .i64 ((k:Int)+1),.int .i64 W.now,.slice m.cO W.cpus.length m.cC,.slice m.tO W.tasks.length m.tC,.slice m.gO W.groups.length m.gC]=.int .i64 (k':Int)::Qa W m/\k'<=12/\Mv 8 base [y,y1] w m w9 (JD W k') m)/\Zu 12 0 [.int .i64 ((k:Int)+1),.int .i64 W.now,.slice m.cO W.cpus.length m.cC,.slice m.tO W.tasks.length m.tC,.slice m.gO W.groups.length m.gC] w9<Zu 12 0 [.int .i64 (k:Int),.int .i64 W.now,.slice m.cO W.cpus.length m.cC,.slice m.tO W.tasks.length m.tC,.slice m.gO W.groups.length m.gC] w8:=fun {w9 w8} hx hm=>by
   refine⟨⟨k+1,rfl,by omega,?_⟩,?_⟩
   ·rw[hdef,if_neg (by rw[hm]; decide)];exact hM.step hx
   ·simp only[Zu,XK,Y5,List.getElem?_cons_zero]; omega
  refine⟨hix,_,zqo.f hr.t (by omega) t1 (j:=0) rfl,fun g=>⟨⟨by omega,by omega⟩,fun wr4 hx4 _=>next hx4 (by unfold Kt; rw[show (Q8 V (k:Int)).state=0 from eq_of_beq g]; rfl)⟩,fun g=>?_⟩;have hst:(Q8 V (k:Int)).state≠0:=ne_of_beq_false g;obtain⟨hu,d0,d1⟩:=hS.w.t (k:Int) (by omega) (by omega) hst;have hwh:=XA (g:=(Q8 V (k:Int)).group) (mask:=(Q8 V (k:Int)).mask) hr hS.w.a.c2 hS.w.a.tree hu;rw[e0] at hwh;have hf:=Lc hS.w.a (Q8 V (k:Int)).group (Q8 V (k:Int)).mask;refine⟨hix,_,zqo.f hr.t (by omega) t1 (j:=1) rfl,hix,_,zqo.f hr.t (by omega) t1 (j:=4) rfl,_,hwh,hix,_,zqo.f hr.t (by omega) t1 (j:=2) rfl,_,ZM,fun g2=>⟨hix,_,zqo.f hr.t (by omega) t1 (j:=1) rfl,_,PN,fun wr5 hx5 hs5=>?_⟩,fun g2=>⟨⟨by omega,by omega⟩,fun wr4 hx4 _=>next hx4 (by unfold Kt; rw[show Z8 (Qs V (Q8 V (k:Int)).group (Q8 V (k:Int)).mask) (Q8 V (k:Int)).cpu=true from (by have h:=g2; rw[Bool.not_eq_false'] at h; exact h)]; simp)⟩⟩;have hM5:=hM.step hx5;have hcall:=U7 hM5.own hS hk hK (t:=(k:Int)) (g:=(Q8 V (k:Int)).group) (c:=Lp (Qs V (Q8 V (k:Int)).group (Q8 V (k:Int)).mask)) (by omega) (by omega) hst hu hf.1 hf.2;rw[e0] at hcall;refine Calls.mono hcall ?_;rintro e1 wv3 ⟨he1,hy3⟩;refine⟨_,_,_,_,_,_,_,_,_,_,he1,hM5.kept hy3 hs5,⟨by omega,by omega⟩,fun wr6 hx6 _=>⟨⟨k+1,rfl,by omega,?_⟩,?_⟩⟩
  ·have hm:Kt V (k:Int)=true:=by
    unfold Kt;rw[Bool.and_eq_true];exact⟨by simpa using hst,g2⟩
   rw[hdef,if_pos hm];exact(hM5.call hy3 hs5).step hx6
  ·simp only[Zu,XK,Y5,List.getElem?_cons_zero]; omega
 ·have hge:=Ou hge;rw[hend (by omega)];exact(hM.step hx3).close
section
variable {pb:Nat}
end
end
theorem M3{W:Q7}(sw:SW Qp W):SF Qp (Qp+Qk) W:=sw.sf.mono (Int.le_refl _) (by simp only[Qk]; decide)
noncomputable def Gz(W:Q7)(t x:Int):Int:=if O9 x=false\/x=0 then 1 else if ZT W t=false then 2 else if QK W=false then 10 else 0
def ziv(W:Q7)(t x:Int):P5:={ Q8 W t with mask:=x }
def zpq(W:Q7)(t x:Int):Q7:=Qg (Lu (setTk W t (ziv W t x)))
theorem zpr{W:Q7}{t x:Int}(hW:Qv W=true)(hb:Gz W t x=0):ZT W t=true/\SF Qp (Qp+Qk) W/\SF Qp (Qp+Qk) (setTk W t (ziv W t x)):=by
 have wp:=Qh.1 hW;unfold Gz at hb
 split at hb
 ·cases hb
 ·split at hb
  ·cases hb
  ·rename_i h2
   split at hb
   ·cases hb
   ·rename_i h3;have h1:ZT W t=true:=by simpa using h2
    have h3:QK W=true:=by simpa using h3
    have sw:=OT wp (Qh.1 h3);obtain⟨t0,t1,n⟩:=YB h1;have hl:=wp.a.t;have hv:=sw.tv t t0 (by omega);exact⟨h1,M3 sw,M3 (sw.setTk t0 (by omega) (fun _=>sw.t t t0 (by omega) n) hv.1 hv.2)⟩
theorem Hp{W:Q7}{m:MW}{F K:Int}(sf:SF F K W)(hk:F+Qk<=K):Qa (Lu W) m=Qa W m:=by
 have hF:=(L3 sf hk).2;simp only[Qa,hF.n,hF.c,hF.t,hF.g]
section
variable {base pb:Nat}{W W':Q7}{m:MW}{w:Wo}{bar:Int}
theorem Ac{t x:Int}(h:YZ [] w W m)(hl:Xc W) :
  Cz TM #[.agg (Qa W m).toArray,.int .i64 t,.int .i64 x] w fun e w'=>∃v,e=.returned v/\QG (YG W (Gz W t x) (zpq W t x)) w v w':=by
 refine NG W.now m.cO W.cpus.length m.cC m.tO W.tasks.length m.tC m.gO W.groups.length m.gC t x (R:=fun v w'=>QG (YG W (Gz W t x) (zpq W t x)) w v w') ?_;intro y hy y1 hy1 wr hx2 hs2;refine Calls.mono (Z5 (h.ext hx2) hl) ?_;rintro e wv (⟨hW,he,hy2⟩ | ⟨hW,m',he,hM,hy2⟩)
 ·exact⟨_,_,_,_,_,_,_,_,_,_,_,he,Qd hy2 hs2,false,fun g=>by simp at g,fun _ wr1 hx3=>QG.bad hW ((hx2.trans hy2).fresh hx3 fun z hm=>.inl (Yr hy hy1 z hm)),fun g=>by simp at g⟩
 have hK:=Wk.begin hy hy1 hx2 hs2 hM hy2;have hr:=hK.rd;have hc1:((if QK W=true then 0 else 10:Int)==1)=false:=by split <;> rfl
 refine⟨_,_,_,_,_,_,_,_,_,_,_,he,Qd hy2 hs2,_,fun _=>YQ,fun g wr1 hx3=>?_,fun g0=>⟨_,J5 hr hl.t,fun g wr2 hx3=>?_,fun g=>⟨fun g3 wr4 hx3=>?_,fun g3=>?_⟩⟩⟩
 ·rw[hc1] at g;have g:O9 x=false\/x=0:=by simpa using g
  have hb:Gz W t x=1:=by unfold Gz; rw[if_pos g]
  exact QG.no hW (by rw[hb]; decide) (hK.step hx3) hb
 ·rw[hc1] at g0;have g0:¬(O9 x=false\/x=0):=by simpa using g0
  have g:ZT W t=false:=by simpa using g
  have hb:Gz W t x=2:=by unfold Gz; rw[if_neg g0,if_pos g]
  exact QG.no hW (by rw[hb]; decide) (hK.step hx3) hb
 ·rw[hc1] at g0;have g0:¬(O9 x=false\/x=0):=by simpa using g0
  have g:ZT W t=true:=by simpa using g
  have hr0:¬QK W=true:=fun hr=>by rw[if_pos hr] at g3; simp at g3
  have hb:Gz W t x=10:=by unfold Gz; rw[if_neg g0,if_neg (by rw[g]; decide),if_pos (by simpa using hr0)]
  rw[if_neg hr0];exact QG.no hW (by rw[hb]; decide) (hK.step hx3) hb
 rw[hc1] at g0;have g0:¬(O9 x=false\/x=0):=by simpa using g0
 have g:ZT W t=true:=by simpa using g
 have hr0:QK W=true:=Decidable.byContradiction fun hr=>by rw[if_neg hr] at g3; simp at g3
 have hb:Gz W t x=0:=by unfold Gz; rw[if_neg g0,if_neg (by rw[g]; decide),if_neg (by rw[hr0]; decide)]
 obtain⟨_,sf0,sf⟩:=zpr hW hb;obtain⟨t0,t1,tn⟩:=YB g;have hset:Wk 8 [y,y1] w (sto wv m'.tO (Int.toNat t*9+4) [.int .i64 x]) (setTk W t (ziv W t x)) m':=hK.sto (hK.own.stoT t0 t1 (j:=4) (vs:=[.int .i64 x]) (x:=ziv W t x) rfl (by simp)) Lv;refine⟨hr.t.ix QI t0 t1,ze9 hK.own hK.nb t0 t1 (j:=4) (by decide),fun wr4 hx4 hs4=>?_⟩;have e5:Qa (setTk W t (ziv W t x)) m'=Qa W m':=Hq _ _ _ _;have hE:zpq W t x=Qg (Lu (setTk W t (ziv W t x))):=rfl;rw[hE];generalize setTk W t (ziv W t x)=V at hset sf e5;have hK4:=hset.step hx4;have hcall:=XR hK4.own sf (Int.le_refl _) (by simp only[Qk]; decide);rw[e5] at hcall;refine Calls.mono hcall ?_;rintro e1 wv1 ⟨he1,hy3⟩;refine⟨_,_,_,_,_,_,_,_,_,_,he1,hK4.kept hy3 hs4,fun wr5 hx5 hs5=>?_⟩;have hK5:=(hK4.deed hy3 hs4).step hx5;have hcall2:=Qq hK5.own (L3 sf (Int.le_refl _)).1.w (by simp only[Qk]; decide) (by simp only[Qk]; decide) hK5.base;rw[Hp sf (Int.le_refl _),e5] at hcall2;refine Calls.mono hcall2 ?_;rintro e2 wv2 ⟨m2,he2,hy4⟩;exact⟨_,_,_,_,_,_,_,_,_,_,he2,hK5.kept hy4 hs5,fun wr6 hx6=>QG.ok hW hb ((hK5.deed hy4 hs5).step hx6)⟩
def zd1(W:Q7)(g x:Int):ZA:={ gi W.groups g with cpus:=x }
noncomputable def zf0(W:Q7)(g x:Int):Int:=Pr W g (O9 x&&(x != 0))
def zoj(W:Q7)(g x:Int):Q7:=Qg (Lu (setGr W g (zd1 W g x)))
theorem zok{W:Q7}{g x:Int}(hW:Qv W=true)(hb:zf0 W g x=0):Q6 W.groups g=true/\QK W=true/\SF Qp (Qp+Qk) W/\SF Qp (Qp+Qk) (setGr W g (zd1 W g x))/\QS W.groups (setGr W g (zd1 W g x)).groups:=by
 obtain⟨h1,h2,h3,h4⟩:=zd2 hb;have wp:=Qh.1 hW;have sw:=OT wp (Qh.1 h4);obtain⟨u0,u1,hg⟩:=wp.a.u h3;have hl:=wp.a.gl;simp only[Bool.and_eq_true,bne_iff_ne,ne_eq] at h1;exact⟨h3,h4,M3 sw,M3 (sw.setGr (x:=zd1 W g x) h3 rfl rfl rfl rfl ⟨hg.w1,hg.w2,h1.1,h1.2,hg.s,hg.len,fun h=>absurd h h2,hg.none,hg.band⟩),Ja u0 (by omega) rfl rfl rfl⟩
theorem B4{g x:Int}(h:YZ [] w W m)(hl:Xc W) :
  Cz VQ #[.agg (Qa W m).toArray,.int .i64 g,.int .i64 x] w fun e w'=>∃v,e=.returned v/\QG (YG W (zf0 W g x) (zoj W g x)) w v w':=by
 refine FK W.now m.cO W.cpus.length m.cC m.tO W.tasks.length m.tC m.gO W.groups.length m.gC g x (R:=fun v w'=>QG (YG W (zf0 W g x) (zoj W g x)) w v w') ?_;intro y hy y1 hy1;refine⟨_,YQ,fun wr hx2 hs2=>?_⟩;refine Calls.mono (Um (g:=g) (ok:=O9 x&&(x != 0)) (h.ext hx2) hl) ?_;rintro e wv (⟨hW,he,hy2⟩ | ⟨hW,m',he,hM,hy2⟩)
 ·exact⟨_,_,_,_,_,_,_,_,_,_,_,he,Qd hy2 hs2,fun _ wr1 hx3=>QG.bad hW ((hx2.trans hy2).fresh hx3 fun z hm=>.inl (Yr hy hy1 z hm)),fun g=>by simp at g⟩
 have hK:=Wk.begin hy hy1 hx2 hs2 hM hy2;refine⟨_,_,_,_,_,_,_,_,_,_,_,he,Qd hy2 hs2,fun g1 wr1 hx3=>QG.no hW (by simpa[zf0] using g1) (hK.step hx3) rfl,fun g1=>?_⟩;have hb:zf0 W g x=0:=by simpa[zf0] using g1
 have hr:=hK.rd;obtain⟨hu,hroom,sf0,sf,hT⟩:=zok hW hb;obtain⟨u0,u1,_⟩:=Q5.1 hu;have hgl:=sf0.w.a.gl;have hset:Wk 8 [y,y1] w (sto wv m'.gO (Int.toNat g*14+4) [.int .i64 x]) (setGr W g (zd1 W g x)) m':=hK.sto (hK.own.stoG0 u0 (by omega) (g:=zd1 W g x) rfl rfl rfl (j:=4) (vs:=[.int .i64 x]) rfl (by simp)) EE;refine⟨hr.g.ix (i:=g) u0 u1,zbc hK.own hK.nb (i:=g) u0 (by omega) (j:=4) (k:=1) (by decide),fun wr4 hx4 hs4=>?_⟩;have e5:Qa (setGr W g (zd1 W g x)) m'=Qa W m':=by simp[Qa,setGr]
 have hE:zoj W g x=Qg (Lu (setGr W g (zd1 W g x))):=rfl;rw[hE];generalize setGr W g (zd1 W g x)=V at hset sf e5;have hK4:=hset.step hx4;have hcall:=XR hK4.own sf (Int.le_refl _) (by simp only[Qk]; decide);rw[e5] at hcall;refine Calls.mono hcall ?_;rintro e1 wv1 ⟨he1,hy3⟩;refine⟨_,_,_,_,_,_,_,_,_,_,he1,hK4.kept hy3 hs4,fun wr5 hx5 hs5=>?_⟩;have hK5:=(hK4.deed hy3 hs4).step hx5;have hcall2:=Qq hK5.own (L3 sf (Int.le_refl _)).1.w (by simp only[Qk]; decide) (by simp only[Qk]; decide) hK5.base;rw[Hp sf (Int.le_refl _),e5] at hcall2;refine Calls.mono hcall2 ?_;rintro e2 wv2 ⟨m2,he2,hy4⟩;exact⟨_,_,_,_,_,_,_,_,_,_,he2,hK5.kept hy4 hs5,fun wr6 hx6=>QG.ok hW hb ((hK5.deed hy4 hs5).step hx6)⟩
end
def zu0(W:Q7)(c:Int)(j:Nat):Bool:=((Q8 W (j:Int)).state==1)&&((Q8 W (j:Int)).cpu==c)
def zeq(W:Q7)(c:Int)(j:Nat):Int:=if zu0 W c j=true then 1 else 0
def zd6(W:Q7)(c:Int)(j:Nat):Int:=if zu0 W c j=true then (Q8 W (j:Int)).load else 0
def zgs(W:Q7)(c:Int):Int:=XH (zeq W c) W.tasks.length
def zd7(W:Q7)(c:Int):Int:=XH (zd6 W c) W.tasks.length
def zr7(W:Q7)(a b:Int):Bool:=decide (zd7 W a<zd7 W b)||((zd7 W a==zd7 W b)&&decide (zgs W a<zgs W b))
def OQ(W:Q7)(m:Int):Nat->Int
 | 0 => -1
 | k+1=>if (Z8 m (k:Int)&&(decide (OQ W m k<0)||zr7 W (k:Int) (OQ W m k)))=true then (k:Int) else OQ W m k
def P2(W:Q7)(m:Int):Int:=OQ W m W.cpus.length
theorem zgq{W:Q7}{m:Int}{k:Nat}(h:(Z8 m (k:Int)&&(decide (OQ W m k<0)||zr7 W (k:Int) (OQ W m k)))=true):OQ W m (k+1)=(k:Int):=if_pos h
theorem zkt{W:Q7}{m:Int}{k:Nat}(h:(Z8 m (k:Int)&&(decide (OQ W m k<0)||zr7 W (k:Int) (OQ W m k)))=false):OQ W m (k+1)=OQ W m k:=if_neg (by rw[h]; decide)
theorem AQ(W:Q7)(m:Int):∀k:Nat,-1<=OQ W m k/\OQ W m k<(k:Int)/\(0<=OQ W m k->Z8 m (OQ W m k)=true)
 | 0=>⟨Int.le_refl _,by show (-1:Int)<0; decide,fun h=>by have:(0:Int)<=-1:=h; omega⟩
 | k+1=>by
  have ih:=AQ W m k;simp only[OQ];split
  ·rename_i h;simp only[Bool.and_eq_true] at h;exact⟨by omega,by omega,fun _=>h.1⟩
  ·exact⟨ih.1,by omega,ih.2.2⟩
theorem zb5{W:Q7}{m:Int}{j:Nat}(h:Z8 m (j:Int)=true):∀k:Nat,j<k->0<=OQ W m k
 | 0,hk=>absurd hk (Nat.not_lt_zero j)
 | k+1,hk=>by
  by_cases e:j=k
  ·subst e
   by_cases hn:OQ W m j<0
   ·rw[zgq (by rw[h,decide_eq_true hn]; rfl)]; omega
   ·simp only[OQ]; split <;> omega
  ·have:=zb5 (W:=W) h k (by omega);simp only[OQ]
   split <;> omega
theorem zup{W:Q7}(ha:WA W){m:Int}(hm:O9 m=true)(h0:m≠0)(hs:∀c:Int,Z8 m c=true->0<=c/\c<(W.cpus.length:Int)):0<=P2 W m/\P2 W m<(W.cpus.length:Int)/\Z8 m (P2 W m)=true:=by
 have hf:=HI hm h0;have hr:=hs _ hf;have e:((Lp m).toNat:Int)=Lp m:=by omega
 have h1:=zb5 (W:=W) (m:=m) (j:=(Lp m).toNat) (by rw[e]; exact hf) W.cpus.length (by omega);have h2:=AQ W m W.cpus.length;exact⟨h1,h2.2.1,h2.2.2 h1⟩
theorem L1{W:Q7}(ha:WA W)(g mask:Int):0<=P2 W (Qs W g mask)/\P2 W (Qs W g mask)<(W.cpus.length:Int)/\Z8 (Qs W g mask) (P2 W (Qs W g mask))=true:=
 zup ha (KM ha g mask).1 (KM ha g mask).2 fun _ h=>Ka ha h
def Gl(m:Int):Nat->Int
 | 0=>0
 | k+1=>if Z8 m (k:Int)=true then Gl m k+1 else Gl m k
theorem Am(m:Int):∀k:Nat,0<=Gl m k/\Gl m k<=(k:Int)
 | 0=>by simp[Gl]
 | k+1=>by
  have:=Am m k;simp only[Gl]
  split <;> omega
def zv2(W:Q7):Prop:=∀t:Int,0<=t->t<12->0<=(Q8 W t).load/\(Q8 W t).load<=8000000
theorem zoz{W:Q7}(wp:Xs W):zv2 W:=fun t t0 t1=>by
 rcases wp.t t t0 t1 with h | ⟨_,h⟩
 ·rw[h.2]; decide
 ·exact⟨h.l1,h.l2⟩
theorem zi2(W:Q7)(c:Int)(j:Nat):0<=zeq W c j/\zeq W c j<=1:=by unfold zeq; split <;> omega
theorem zi3{W:Q7}(c:Int)(k:Nat):0<=XH (zeq W c) k/\XH (zeq W c) k<=(k:Int)*1:=UN (zi2 W c) k
theorem Ah{W:Q7}(hl:zv2 W)(c:Int):∀k:Nat,k<=12->0<=XH (zd6 W c) k/\XH (zd6 W c) k<=(k:Int)*8000000
 | 0,_=>by simp[XH]
 | k+1,hk=>by
  have ih:=Ah hl c k (by omega);have h1:=hl (k:Int) (by omega) (by omega);simp only[XH];have h2:0<=zd6 W c k/\zd6 W c k<=8000000:=by unfold zd6; split <;> omega
  omega
section
variable {W:Q7}{m:MW}{w:Wo}{bs:List Nat}{p:OA}
theorem TV{c:Int}(h:YZ bs w W m)(htl:W.tasks.length=12):PX bs Xy #[.agg (Qa W m).toArray,.int .i64 c] w (.int .i64 (zgs W c)):=
 Bs W.now m.cO W.cpus.length m.cC m.tO W.tasks.length m.tC m.gO W.groups.length m.gC c fun wr hx=>by
  have h:=(h.ext hx).less (cs:=[]) (by simp);intro _ _;refine Tx W.tasks.length 0 rfl (fun x k=>k<=W.tasks.length/\x=XH (zeq W c) k) ⟨Nat.zero_le _,rfl⟩ fun x k ⟨hk,hx2⟩=>⟨fun hlt=>?_,fun hge=>?_⟩
  ·have hlt:=Ot hlt;have hr:=zi3 (W:=W) c k;refine⟨h.t.ix QI (by omega) hlt,_,h.t.f (by omega) hlt (j:=0) rfl,fun _=>h.t.ix QI (by omega) hlt,_,fun _=>h.t.f (by omega) hlt (j:=2) rfl,fun g2=>⟨⟨by omega,by omega⟩,⟨by omega,by omega⟩,QA (by omega) ⟨by omega,?_⟩⟩,fun g2=>⟨⟨by omega,by omega⟩,QA (by omega) ⟨by omega,?_⟩⟩⟩
   ·have g2:zu0 W c k=true:=g2;simp only[XH,zeq]; rw[if_pos g2,hx2]
   ·have g2:zu0 W c k=false:=g2;simp only[XH,zeq]; rw[if_neg (by rw[g2]; decide),hx2,Int.add_zero]
  ·have hge:=Ou hge;have:k=W.tasks.length:=by omega
   subst this;rw[hx2]; rfl
theorem Ul{c:Int}(h:YZ bs w W m)(htl:W.tasks.length=12)(hl:zv2 W):PX bs YU #[.agg (Qa W m).toArray,.int .i64 c] w (.int .i64 (zd7 W c)):=
 Bq W.now m.cO W.cpus.length m.cC m.tO W.tasks.length m.tC m.gO W.groups.length m.gC c fun wr hx=>by
  have h:=(h.ext hx).less (cs:=[]) (by simp);intro _ _;refine Tx W.tasks.length 0 rfl (fun x k=>k<=W.tasks.length/\x=XH (zd6 W c) k) ⟨Nat.zero_le _,rfl⟩ fun x k ⟨hk,hx2⟩=>⟨fun hlt=>?_,fun hge=>?_⟩
  ·have hlt:=Ot hlt;have hr:=Ah hl c k (by omega);have hl1:=hl (k:Int) (by omega) (by omega);refine⟨h.t.ix QI (by omega) hlt,_,h.t.f (by omega) hlt (j:=0) rfl,fun _=>h.t.ix QI (by omega) hlt,_,fun _=>h.t.f (by omega) hlt (j:=2) rfl,fun g2=>⟨h.t.ix QI (by omega) hlt,(Q8 W (k:Int)).load,h.t.f (by omega) hlt (j:=8) rfl,⟨by omega,by omega⟩,⟨by omega,by omega⟩,QA (by omega) ⟨by omega,?_⟩⟩,fun g2=>⟨⟨by omega,by omega⟩,QA (by omega) ⟨by omega,?_⟩⟩⟩
   ·have g2:zu0 W c k=true:=g2;simp only[XH,zd6]; rw[if_pos g2,hx2]
   ·have g2:zu0 W c k=false:=g2;simp only[XH,zd6]; rw[if_neg (by rw[g2]; decide),hx2,Int.add_zero]
  ·have hge:=Ou hge;have:k=W.tasks.length:=by omega
   subst this;rw[hx2]; rfl
theorem MH{x:Int}(h:YZ bs w W m)(ha:WA W)(hl:zv2 W):PX bs JM #[.agg (Qa W m).toArray,.int .i64 x] w (.int .i64 (P2 W x)):=
 Br W.now m.cO W.cpus.length m.cC m.tO W.tasks.length m.tC m.gO W.groups.length m.gC x fun wr hx=>by
  have h:=(h.ext hx).less (cs:=[]) (by simp);have hcl:=ha.c2;have htl:=ha.t;intro _ _;refine Tx W.cpus.length 0 rfl (fun b k=>k<=W.cpus.length/\b=OQ W x k) ⟨Nat.zero_le _,rfl⟩ fun b k ⟨hk,hb⟩=>⟨fun hlt=>?_,fun hge=>?_⟩
  ·have hlt:=Ot hlt;have key:(((decide (b<0))||(decide (zd7 W (k:Int)<zd7 W b)))||((zd7 W (k:Int)==zd7 W b)&&(decide (zgs W (k:Int)<zgs W b))))=(decide (OQ W x k<0)||zr7 W (k:Int) (OQ W x k)):=by rw[hb,Bool.or_assoc]; rfl
   refine⟨_,ZM,fun g=>⟨⟨by omega,by omega⟩,QA (by omega) ⟨by omega,?_⟩⟩,fun g=>⟨_,fun _=>Ul h htl hl,_,fun _=>Ul h htl hl,_,fun _=>Ul h htl hl,_,fun _=>Ul h htl hl,_,fun _ _=>TV h htl,_,fun _ _=>TV h htl,fun g2=>⟨⟨by omega,by omega⟩,QA (by omega) ⟨by omega,?_⟩⟩,fun g2=>⟨⟨by omega,by omega⟩,QA (by omega) ⟨by omega,?_⟩⟩⟩⟩
   ·have g:Z8 x (k:Int)=false:=by simpa using g
    rw[hb,zkt (by rw[g]; rfl)]
   ·have g:Z8 x (k:Int)=true:=by simpa using g
    rw[zgq (by rw[g,<-key,g2]; rfl)]
   ·have g:Z8 x (k:Int)=true:=by simpa using g
    rw[hb,zkt (by rw[g,<-key,g2]; rfl)]
  ·have hge:=Ou hge;have:k=W.cpus.length:=by omega
   subst this;rw[hb]; rfl
theorem E1{x:Int}:PX bs Vd #[.int .i64 x] w (.int .i64 (Gl x 4)):=
 Ep x fun wr hx=>by
  refine Tx 4 0 rfl (fun n k=>k<=4/\n=Gl x k) ⟨by decide,rfl⟩ fun n k ⟨hk,hn⟩=>⟨fun hlt=>?_,fun hge=>?_⟩
  ·have hlt:=Ot hlt;have hr:=Am x k;refine⟨_,ZM,fun g=>⟨⟨by omega,by omega⟩,⟨by omega,by omega⟩,QA (by omega) ⟨by omega,?_⟩⟩,fun g=>⟨⟨by omega,by omega⟩,QA (by omega) ⟨by omega,?_⟩⟩⟩
   ·simp only[Gl]; rw[if_pos g,hn]
   ·simp only[Gl]; rw[if_neg (by rw[g]; decide),hn]
  ·have hge:=Ou hge;have:k=4:=by omega
   subst this;rw[hn]
end
def BO(n:Int):Int:=if Yo n 1 4=true then (if n=1 then 0 else if n=2 then 1 else 2) else 0
theorem zmh{n:Int}(h:Yo n 1 4=true):(n=1/\BO n=0)\/(n=2/\BO n=1)\/(n=3/\BO n=2)\/(n=4/\BO n=2):=by
 have:=Qo.1 h;have:n=1\/n=2\/n=3\/n=4:=by omega
 rcases this with rfl | rfl | rfl | rfl
 ·exact .inl ⟨rfl,by decide⟩
 ·exact .inr (.inl ⟨rfl,by decide⟩)
 ·exact .inr (.inr (.inl ⟨rfl,by decide⟩))
 ·exact .inr (.inr (.inr ⟨rfl,by decide⟩))
def zpb(c lv j:Int):Bool:=Int.fdiv j (2 ^ (min (Int.toNat (lv+1)) 64))==Int.fdiv c (2 ^ (min (Int.toNat (lv+1)) 64))
def zpz(c lv:Int):Nat->Int
 | 0=>0
 | k+1=>if zpb c lv (k:Int)=true then zpz c lv k+Jq k else zpz c lv k
theorem zp0(c lv:Int):∀k:Nat,k<=4->0<=zpz c lv k/\zpz c lv k<Jq k
 | 0,_=>by simp[zpz,Jq]
 | k+1,h=>by
  have ih:=zp0 c lv k (by omega)
  have hb:Jq (k+1)=2*Jq k/\0<=Jq k:=by
   have:k=0\/k=1\/k=2\/k=3:=by omega
   rcases this with rfl | rfl | rfl | rfl <;> decide
  simp only[zpz]
  split <;> omega
def EA(n c lv:Int):Bool:=(Yo n 1 4&&Yo c 0 (n-1))&&Yo lv 0 (BO n-1)
def zvv(n c lv:Int):Int:=if EA n c lv=true then zpz c lv n.toNat else 0
section
variable {w:Wo}{bs:List Nat}{n c lv:Int}
theorem zr8{n:Int}{k:Nat}(h:Yo n 1 4=true)(hk:(k:Int)<=BO n):(decide ((1*2 ^ (min (Int.toNat (k:Int)) 64):Int)<n)=true->(k:Int)+1<=BO n)/\(decide ((1*2 ^ (min (Int.toNat (k:Int)) 64):Int)<n)=false->(k:Int)=BO n):=by
 rcases zmh h with ⟨rfl,e⟩ | ⟨rfl,e⟩ | ⟨rfl,e⟩ | ⟨rfl,e⟩ <;> rw[e] at hk ⊢
 ·have:k=0:=by omega
  subst this; decide
 ·have:k=0\/k=1:=by omega
  rcases this with rfl | rfl <;> decide
 ·have:k=0\/k=1\/k=2:=by omega
  rcases this with rfl | rfl | rfl <;> decide
 ·have:k=0\/k=1\/k=2:=by omega
  rcases this with rfl | rfl | rfl <;> decide
theorem zkg(n:Int):0<=BO n/\BO n<=2:=by
 unfold BO;split
 ·split
  ·omega
  ·split <;> omega
 ·omega
theorem O1:PX bs Xg #[.int .i64 n] w (.int .i64 (BO n)):=
 Ls n fun wr hx=>by
  refine⟨_,Qj,fun q=>?_,fun q=>?_⟩
  ·have q:Yo n 1 4=false:=by simpa using q
   have:BO n=0:=if_neg (by rw[q]; decide);rw[this]
  ·have q:Yo n 1 4=true:=by simpa using q
   have hl:=zkg n;refine⟨fun vs=>∃k:Nat,vs=[.int .i64 (k:Int)]/\(k:Int)<=BO n,fun vs=>(2-Y5 0 vs).toNat,⟨0,rfl,hl.1⟩,?_⟩;rintro k' ⟨k,he,hk⟩;simp only[List.cons.injEq,Value.int.injEq,true_and,and_true] at he;subst he;have hb:=DD (k:=k) (by omega);have hbd:(1*2 ^ (min (Int.toNat (k:Int)) 64):Int)=Jq k:=rfl;obtain⟨s1,s2⟩:=zr8 q hk;refine⟨⟨by omega,by omega⟩,⟨by omega,by rw[hbd]; exact⟨by omega,by omega⟩⟩,fun g=>⟨⟨by omega,by omega⟩,⟨k+1,by simp,by have:=s1 g; omega⟩,?_⟩,fun g=>by rw[<-s2 g]⟩;have:=s1 g;show (2-((k:Int)+1)).toNat<(2-(k:Int)).toNat;omega
theorem zm1(h:EA n c lv=true):Yo n 1 4=true/\0<=c/\c<n/\0<=lv/\lv<=1:=by
 unfold EA at h;simp only[Bool.and_eq_true] at h;have h1:=Qo.1 h.1.2;have h2:=Qo.1 h.2;have:=zkg n;exact⟨h.1.1,h1.1,by omega,h2.1,by omega⟩
theorem Hy:PX bs UC #[.int .i64 n,.int .i64 c,.int .i64 lv] w (.int .i64 (zvv n c lv)):=
 HR n c lv fun wr hx=>by
  have hl:=zkg n
  have e:(((!Yo n 1 4)||(!Yo c 0 (n-1)))||(!Yo lv 0 (BO n-1))) = !EA n c lv:=by
   unfold EA; rw[Bool.not_and,Bool.not_and]
  refine⟨_,Qj,fun q=>?_,_,fun _=>Qj,_,fun _=>O1,fun _=>⟨by omega,by omega⟩,_,fun _=>Qj,fun q=>?_,fun q=>?_⟩
  ·have q:=Qo.1 (by simpa using q:Yo n 1 4=true);exact⟨by omega,by omega⟩
  ·rw[e] at q;have:zvv n c lv=0:=if_neg (by simpa using q);rw[this]
  ·rw[e] at q;have q:EA n c lv=true:=by simpa using q
   obtain⟨h1,c0,c1,l0,l1⟩:=zm1 q;have hn:=Qo.1 h1;obtain⟨N,rfl⟩:∃N:Nat,n=(N:Int):=⟨n.toNat,by omega⟩;have hD:zvv (N:Int) c lv=zpz c lv N:=by unfold zvv; rw[if_pos q,Int.toNat_natCast]
   rw[hD];refine Tx N 0 rfl (fun x k=>k<=N/\x=zpz c lv k) ⟨Nat.zero_le _,rfl⟩ fun x k ⟨hk,hx2⟩=>⟨fun hlt=>?_,fun hge=>?_⟩
   ·have hlt:=Ot hlt;have hb:=DD (k:=k) (by omega);have hs:=zp0 c lv k (by omega);have hbd:(1*2 ^ (min (Int.toNat (k:Int)) 64):Int)=Jq k:=rfl;refine⟨⟨by omega,by omega⟩,⟨by omega,by omega⟩,by omega,⟨by omega,by omega⟩,⟨by omega,by omega⟩,by omega,fun hu=>?_,fun hu=>?_⟩
    ·rw[hbd,hx2];refine⟨⟨by omega,by omega⟩,⟨by omega,by omega,by omega⟩,⟨by omega,by omega⟩,⟨by omega,by omega⟩,QA (by omega) ⟨by omega,?_⟩⟩;simp only[zpz]; rw[if_pos (show zpb c lv (k:Int)=true from hu)]
    ·refine⟨⟨by omega,by omega⟩,QA (by omega) ⟨by omega,?_⟩⟩;rw[hx2]; simp only[zpz]; rw[if_neg (by rw[show zpb c lv (k:Int)=false from hu]; decide)]
   ·have hge:=Ou hge;have:k=N:=by omega
    subst this;rw[hx2]
end
def BF(W:Q7)(g:Int):List Int:=QX W.groups g++[0]
def zn8(W:Q7)(g c:Int):Bool:=(BF W g).any fun x=>UU W x c
theorem zhg(W:Q7):BF W 0=[0]:=by unfold BF; rw[show QX W.groups 0=[] from Zc W.groups 3]; rfl
theorem zhh{W:Q7}(ht:ZU W.groups){g:Int}(hu:Q6 W.groups g=true)(hz:g≠0):BF W g=g::BF W (gi W.groups g).parent:=by
 unfold BF;rw[Yi ht hu hz,List.cons_append]
theorem zqh{W:Q7}(ht:ZU W.groups){g:Int}(hu:Q6 W.groups g=true):∀x∈BF W g,Q6 W.groups x=true:=by
 have hr:Q6 W.groups 0=true:=Q5.2 ⟨by decide,by have:=ht.len; omega,ht.ru⟩;refine OO ht (Q:=fun h=>∀x∈BF W h,Q6 W.groups x=true) ?_ (fun h hu hz ih=>?_) g hu
 ·rw[zhg];intro x hx;have:x=0:=by simpa using hx
  rw[this]; exact hr
 ·rw[zhh ht hu hz];intro x hx;rcases List.mem_cons.1 hx with rfl | hx
  ·exact hu
  ·exact ih x hx
theorem AN(gs:List ZA):∀(f:Nat) (g:Int),(JS f gs g).length<=f
 | 0,_=>Nat.le_refl _
 | f+1,g=>by
  simp only[JS];split
  ·simp
  ·have:=AN gs f (gi gs g).parent;simp; omega
theorem zlb(W:Q7)(g:Int):(BF W g).length<=4:=by
 unfold BF;have:=AN W.groups 3 g;simp; omega
def JV(W:Q7)(t c:Int):Bool:=
 (!(((((((Q8 W t).state != 1)||((Q8 W t).cpu==c))||((gi W.cpus (Q8 W t).cpu).cur==t))||(!Zy W t))||(!Z8 (Qs W (Q8 W t).group (Q8 W t).mask) c)))) && !zn8 W (Q8 W t).group c
def zlk(W:Q7)(b c:Int):Bool:=VC (fun t=>((Q8 W (t:Int)).cpu==b)&&JV W (t:Int) c) 12
theorem ER{W:Q7}{t c:Int}(h:JV W t c=true):(Q8 W t).state=1/\(Q8 W t).cpu≠c:=by
 unfold JV at h;simp only[Bool.and_eq_true,Bool.not_eq_true',Bool.or_eq_false_iff,bne_eq_false_iff_eq,beq_eq_false_iff_ne] at h;exact⟨h.1.1.1.1.1,h.1.1.1.1.2⟩
section
variable {W:Q7}{m:MW}{w:Wo}{bs:List Nat}{p:OA}
def zgu(W:Q7)(g:Int):List Int:=if g=0 then [] else BF W (gi W.groups g).parent
theorem zb8{W:Q7}(ht:ZU W.groups){g:Int}(hu:Q6 W.groups g=true):g::zgu W g=BF W g:=by
 unfold zgu
 by_cases hz:g=0
 ·subst hz; rw[if_pos rfl,zhg]
 ·rw[if_neg hz,zhh ht hu hz]
theorem MK{t:Int}(h:YZ [] w W m)(ht:ZU W.groups)(t0:0<=t)(t1:t<(W.tasks.length:Int))(hu:Q6 W.groups (Q8 W t).group=true) :
  Cz JP #[.agg (Qa W m).toArray,.int .i64 t] w fun e w'=>∃o c',e=.returned (.slice o (BF W (Q8 W t).group).length c')/\Jp Xu 1 Qb w.heap.size w' o c' (BF W (Q8 W t).group)/\Q0 [] w w':=by
 refine(FZ W.now m.cO W.cpus.length m.cC m.tO W.tasks.length m.tC m.gO W.groups.length m.gC t (R:=fun v w'=>∃o c',v=.slice o (BF W (Q8 W t).group).length c'/\Jp Xu 1 Qb w.heap.size w' o c' (BF W (Q8 W t).group)/\Q0 [] w w') ?_).mono fun e w' ⟨v,he,o,c',hv,h1⟩=>⟨o,c',by rw[he,hv],h1⟩
 intro b hb;refine⟨h.t.ix QI t0 t1,_,h.t.f t0 t1 (j:=1) rfl,fun b1 wb hx1 hb1 hcell hn=>?_⟩;have hlen:=zlb W (Q8 W t).group;have hO0:Jp Xu 1 Qb w.heap.size wb (some ⟨b1,0,none⟩) 1 [(Q8 W t).group]:=.inr ⟨b1,[],rfl,hb1,hcell,by simp[Xu],by simp⟩;have hbn:∀x∈[b],w.heap.size<=x:=by simpa using hb
 refine⟨fun vs w1=>∃(g:Int) (l:List Int) (o:OA) (c':Nat),vs=[.int .i64 g,.slice o l.length c']/\Q6 W.groups g=true/\l++zgu W g=BF W (Q8 W t).group/\Sc w [b] w1/\Ob Xu 1 Qb w.heap.size [b] w1 o c' l,fun vs _=>(dep 3 W.groups (Y5 0 vs)).toNat,
  fun wr hx _=>⟨_,[(Q8 W t).group],_,1,rfl,hu,zb8 ht hu,(Sc.mk hx1 hbn).step hx,⟨hO0.ext hx (by simp[Qy]; exact fun e=>hn (by simp[e])),by simp[Qy]; exact fun e=>hn (by simp[e])⟩⟩,?_⟩
 rintro g oO oL oC w1 hs1 ⟨g',l,o',c',he,hug,hI,s1,hO⟩;simp only[List.cons.injEq,Value.int.injEq,Value.slice.injEq,true_and,and_true] at he;obtain⟨rfl,rfl,rfl,rfl⟩:=he;have hg:=((h.wide (cs:=[b]) fun x hm=>.inr (hbn x hm)).ext s1.ext.of_nil).g
 have hll:l.length<=4:=by
  have:=congrArg List.length hI;simp at this;omega
 refine⟨fun hz=>?_,fun hz wr hx=>?_⟩
 ·have hz:g≠0:=by simpa using hz
  obtain⟨hp,a,b',d,e,e2,hd⟩:=ZZ ht hug hz;refine⟨hg.ix a b',_,hg.parent a b',fun b2 hb2 wr1 hx2 hs2 hcell2=>?_⟩;have s2:=s1.put hx2 hb2;have hO2:=hO.put hx2 hb2;obtain⟨o2,c2,w2,hrun,hk2,hO3,hx3⟩:=hO2.app1 ZW TB (x:=(gi W.groups g).parent) hs2 s2.ext.size hcell2 (zuj _) (by omega) (by decide) ZE #[false,false];have s3:=s2.call hx3 fun x hm=>(hO2.own.lt x hm).1
  refine⟨_,_,_,w2,hrun,hk2,fun wr2 hx4 _=>⟨⟨_,l++[(gi W.groups g).parent],o2,c2,rfl,hp,?_,(s3.step hx4).sub (by simp),(hO3.step hx4).sub (by simp)⟩,?_⟩⟩
  ·rw[List.append_assoc,List.singleton_append,zb8 ht hp,<-hI];unfold zgu;rw[if_neg hz]
  ·show (dep 3 W.groups (gi W.groups g).parent).toNat<(dep 3 W.groups g).toNat;omega
 ·have hz:g=0:=by simpa using hz
  subst hz
  have hl:l=BF W (Q8 W t).group:=by
   rw[<-hI];unfold zgu;rw[if_pos rfl,List.append_nil]
  subst hl;exact⟨oO,oC,rfl,(hO.step hx).own,(s1.step hx).ext⟩
theorem MI{t c:Int}(h:YZ bs w W m)(wp:Xs W)(t0:0<=t)(t1:t<(W.tasks.length:Int))(c0:0<=c)(c1:c<(W.cpus.length:Int)):PX bs JN #[.agg (Qa W m).toArray,.int .i64 t,.int .i64 c] w (.bool (JV W t c)):=by
 refine HU fun wr0 hx0=>FV W.now m.cO W.cpus.length m.cC m.tO W.tasks.length m.tC m.gO W.groups.length m.gC t c (R:=fun v w'=>v=.bool (JV W t c)/\Q0 [] wr0 w') ?_
 have h:=(h.ext hx0).less (cs:=[]) (by simp);have li:((Q8 W t).state != 1)=false->Q6 W.groups (Q8 W t).group=true/\0<=(Q8 W t).cpu/\(Q8 W t).cpu<(W.cpus.length:Int):=fun hs=>wp.li t0 t1 (by simpa using hs)
 intro b hb;refine⟨h.t.ix QI t0 t1,_,_,_,_,_,_,_,_,_,h.t t t0 t1,fun b1 hb1=>?_⟩;refine⟨fun g=>?_,(gi W.cpus (Q8 W t).cpu).cur,fun g=>?_,Zy W t,fun g=>?_,Qs W (Q8 W t).group (Q8 W t).mask,fun g=>?_,_,fun g=>ZM,fun g wr hx=>?_,fun g wr1 hx1 hs1=>?_⟩
 ·have g:(((Q8 W t).state != 1)||((Q8 W t).cpu==c))=false:=g;simp only[Bool.or_eq_false_iff] at g;have:=li g.1;exact h.c.ix Zh this.2.1 this.2.2
 ·have g:(((Q8 W t).state != 1)||((Q8 W t).cpu==c))=false:=g;simp only[Bool.or_eq_false_iff] at g;have:=li g.1;exact(h.c _ this.2.1 this.2.2).get 1 _ rfl
 ·exact Uo h wp.a t0 t1 fun hs=>wp.li t0 t1 hs
 ·have g:(((((Q8 W t).state != 1)||((Q8 W t).cpu==c))||((gi W.cpus (Q8 W t).cpu).cur==t))||(!Zy W t))=false:=g;simp only[Bool.or_eq_false_iff] at g;exact XA h wp.a.c2 wp.a.tree (li g.1.1.1).1
 ·have:JV W t c=false:=by
   unfold JV;rw[show ((((((Q8 W t).state != 1)||((Q8 W t).cpu==c))||((gi W.cpus (Q8 W t).cpu).cur==t))||(!Zy W t))||(!Z8 (Qs W (Q8 W t).group (Q8 W t).mask) c))=true from g];rfl
  rw[this]; exact⟨rfl,hx⟩
 have g:((((((Q8 W t).state != 1)||((Q8 W t).cpu==c))||((gi W.cpus (Q8 W t).cpu).cur==t))||(!Zy W t))||(!Z8 (Qs W (Q8 W t).group (Q8 W t).mask) c))=false:=g;have eC:JV W t c = !zn8 W (Q8 W t).group c:=by unfold JV; rw[g]; rfl
 simp only[Bool.or_eq_false_iff] at g;obtain⟨hu,_,_⟩:=li g.1.1.1.1;rw[eC]
 have hbn:∀x∈[b,b1],wr0.heap.size<=x:=by
  intro x hm;simp only[List.mem_cons,List.not_mem_nil,or_false] at hm;rcases hm with rfl | rfl
  ·exact hb
  ·exact hb1
 refine(MK (h.ext hx1) wp.a.tree t0 t1 hu).mono fun e w2 ⟨o,c',he,hO,hx2⟩=>⟨_,_,_,he,Qd hx2 hs1,?_⟩
 have hplen:=zlb W (Q8 W t).group;have s2:Sc wr0 [b,b1] w2:=⟨hx1.trans hx2,hbn⟩;have hO2:Ob Xu 1 Qb wr1.heap.size [b,b1] w2 o c' (BF W (Q8 W t).group):=Ob.of hO hs1
 refine OM (BF W (Q8 W t).group).length 0 rfl (fun k w3=>k<=(BF W (Q8 W t).group).length/\Sc wr0 [b,b1] w3/\Ob Xu 1 Qb wr1.heap.size [b,b1] w3 o c' (BF W (Q8 W t).group)/\∀j:Nat,j<k->UU W (gi (BF W (Q8 W t).group) (j:Int)) c=false)
  (fun w3 hx3 _=>⟨Nat.zero_le _,s2.step hx3,hO2.step hx3,fun j hj=>absurd hj (Nat.not_lt_zero j)⟩) fun k w3 _ ⟨hk,s3,hO3,hI⟩=>⟨fun hlt=>?_,fun hge wr hx=>?_⟩
 ·have hlt:=Ot hlt;have hR:=hO3.rd ZW.len;have hgm:=zib (l:=BF W (Q8 W t).group) (i:=(k:Int)) (by omega) hlt;have hW3:=(h.wide (cs:=[b,b1]) fun x hm=>.inr (hbn x hm)).ext s3.ext.of_nil;refine⟨hR.ix Uv (by omega) hlt,_,hR (k:Int) (by omega) hlt,_,Mh hW3 wp.a (zqh wp.a.tree hu _ hgm) c0 c1,fun gd wr hx=>⟨?_,(s3.step hx).ext⟩,fun gd=>⟨⟨by omega,by omega⟩,fun wr hx _=>Z0 (by omega) ⟨by omega,s3.step hx,hO3.step hx,fun j hj=>?_⟩⟩⟩
  ·have:zn8 W (Q8 W t).group c=true:=List.any_eq_true.2 ⟨_,hgm,gd⟩;rw[this]; rfl
  ·by_cases hjk:j<k
   ·exact hI j hjk
   ·have:j=k:=by omega
    subst this; exact gd
 ·have hge:=Ou hge;have hkn:k=(BF W (Q8 W t).group).length:=by omega
  have:zn8 W (Q8 W t).group c=false:=by
   cases hd:zn8 W (Q8 W t).group c with
   | false=>rfl
   | true=>
    obtain⟨x,hx,hdx⟩:=List.any_eq_true.1 hd;obtain⟨j,hj,hjx⟩:=List.getElem_of_mem hx;have:=hI j (by omega);rw[J0 hj,hjx,hdx] at this;cases this
  rw[this]; exact⟨rfl,(s3.step hx).ext⟩
end
end Go.Proofs.YtnclplgaicdapaaGreatDoor
