/- Part 14 of what the law FnTree needs: the engine, the functions' propositions, the contracts. -/
import Derived.Test.YtclpmgfpjeaibaaGreatFnTreePm
namespace Go.Proofs.YtclpmgfpjeaibaaGreat
open Go.RowKit
set_option linter.unusedVariables false
set_option linter.unusedSimpArgs false
set_option maxRecDepth 10000
def zoy (W:Q7) (t b c:Int):Bool:=(Lx W c==0)||decide (Lx W c+Qd (Q8 W t).nice<=Lx W b - Qd (Q8 W t).nice)
def NA (W:Q7) (b c:Int) (t:Nat):Bool:=(((Q8 W (t:Int)).cpu==b)&&Jk W (t:Int) c)&&zoy W (t:Int) b c
def Vx (W:Q7) (b c:Int):Nat->Nat->Int
 | 0,_ => -1
 | f+1,j=>if NA W b c j=true then (j:Int) else Vx W b c f (j+1)
theorem zfq {W:Q7} {b c:Int} {f j:Nat} (h:NA W b c j=true):Vx W b c (f+1) j=(j:Int):=if_pos h
theorem zb8 {W:Q7} {b c:Int} {f j:Nat} (h:NA W b c j=false):Vx W b c (f+1) j=Vx W b c f (j+1):=if_neg (by rw [h]; decide)
noncomputable def zar (W:Q7) (c:Int):Nat->Nat->Int
 | 0,_ => -1
 | f+1,k=>if Vt W c (k:Int)<0 then zar W c f (k+1) else if Vx W (Vt W c (k:Int)) c 12 0<0 then zar W c f (k+1) else Vx W (Vt W c (k:Int)) c 12 0
noncomputable def OI (W:Q7) (c:Int):Int:=zar W c (Ee (W.cpus.length:Int)).toNat 0
theorem zat {W:Q7} {c:Int} {f k:Nat} (h:Vt W c (k:Int)<0):zar W c (f+1) k=zar W c f (k+1):=if_pos h
theorem zas {W:Q7} {c:Int} {f k:Nat} (h:Vx W (Vt W c (k:Int)) c 12 0<0):zar W c (f+1) k=zar W c f (k+1):=by
 simp only [zar]
 by_cases h0:Vt W c (k:Int)<0
 ·rw [if_pos h0]
 ·rw [if_neg h0,if_pos h]
theorem zau {W:Q7} {c:Int} {f k:Nat} (h0:¬Vt W c (k:Int)<0) (h:¬Vx W (Vt W c (k:Int)) c 12 0<0):zar W c (f+1) k=Vx W (Vt W c (k:Int)) c 12 0:=by
 simp only [zar];rw [if_neg h0,if_neg h]
theorem Fv {W:Q7} (wp:XG W) (c:Int):0<=Lx W c/\Lx W c<=240:=by
 have:=U3 (Hu W c) W.tasks.length;have ht:=wp.a.t;unfold Lx;omega
section
variable {W:Q7} {m:MW} {w:World} {bs:List Nat} {p:OA}
theorem Fk {t b c:Int} (h:Xo bs w W m) (wp:XG W) (t0:0<=t) (t1:t<(W.tasks.length:Int)):PX bs VK #[.agg (Qa W m).toArray,.int .i64 t,.int .i64 b,.int .i64 c] w (.bool (zoy W t b c)):=
 FJ W.now m.cO W.cpus.length m.cC m.tO W.tasks.length m.tC m.gO W.groups.length m.gC t b c fun wr hx=>by
  have h:=(h.ext hx).less (cs:=[]) (by simp);have r1:=Fv wp c;have r2:=Fv wp b;have r3:0<=Qd (gi W.tasks t).nice/\Qd (gi W.tasks t).nice<=20:=Xg _;exact fun _ _=>⟨_,Ut h wp,h.t.ix QJ t0 t1,_,h.t.f t0 t1 (j:=3) rfl,_,Zq,fun _=>⟨by omega,by omega⟩,_,fun _=>Ut h wp,fun _=>⟨by omega,by omega⟩,rfl⟩
theorem Fl {c:Int} (h:Xo bs w W m) (wp:XG W) (c0:0<=c) (c1:c<(W.cpus.length:Int)):PX bs VL #[.agg (Qa W m).toArray,.int .i64 c] w (.int .i64 (OI W c)):=
 FL W.now m.cO W.cpus.length m.cC m.tO W.tasks.length m.tC m.gO W.groups.length m.gC c fun wr hx=>by
  have h:=(h.ext hx).less (cs:=[]) (by simp);have hlv:=zed (W.cpus.length:Int);have htl:=wp.a.t;intro _ _;refine Uv 2 0 rfl (fun k=>(k:Int)<=Ee (W.cpus.length:Int)/\zar W c ((Ee (W.cpus.length:Int)).toNat - k) k=OI W c) ⟨hlv.1,rfl⟩ fun k ⟨hk,hI⟩=>⟨_,VT,fun hlt => ?_,fun hge => ?_⟩
  ·have hlt:=of_decide_eq_true hlt;have ek:(Ee (W.cpus.length:Int)).toNat - k=((Ee (W.cpus.length:Int)).toNat - (k+1))+1:=by omega
   rw [ek] at hI;have nxt:zar W c ((Ee (W.cpus.length:Int)).toNat - (k+1)) (k+1)=OI W c->((k+1:Nat):Int)<=Ee (W.cpus.length:Int)/\zar W c ((Ee (W.cpus.length:Int)).toNat - (k+1)) (k+1)=OI W c:=fun hp=>⟨by omega,hp⟩
   refine ⟨_,Lm,_,Lr h wp c0 c1,fun g=>⟨⟨by omega,by omega⟩,QY (by omega) (nxt ?_)⟩,fun g => ?_⟩
   ·rw [<-hI,zat (show Vt W c (k:Int)<0 from of_decide_eq_true g)]
   ·have g:¬Vt W c (k:Int)<0:=of_decide_eq_false g;refine Uv 12 0 rfl (fun j=>j<=12/\Vx W (Vt W c (k:Int)) c (12 - j) j=Vx W (Vt W c (k:Int)) c 12 0) ⟨Nat.zero_le _,rfl⟩ fun j ⟨hj,hF⟩=>⟨fun hlt2 => ?_,fun hge2 => ?_⟩
    ·have hlt2:=of_decide_eq_true hlt2;have hj12:j<12:=by omega
     rw [show 12 - j=(12 - (j+1))+1 by omega] at hF;refine ⟨h.t.ix QJ (by omega) hlt2,_,h.t.f (by omega) hlt2 (j:=2) rfl,_,fun _=>Pa h wp (by omega) hlt2 c0 c1,_,fun _=>Fk h wp (by omega) hlt2,fun g2 => ?_,fun g2=>⟨⟨by omega,by omega⟩,QY hj12 ⟨by omega,?_⟩⟩⟩
     ·have g2:NA W (Vt W c (k:Int)) c j=true:=g2;rw [zfq g2] at hF;rw [<-hI,zau g (by rw [<-hF]; omega),<-hF]
     ·have g2:NA W (Vt W c (k:Int)) c j=false:=g2;rw [<-hF,zb8 g2]
    ·have hge2:=of_decide_eq_false hge2;have:j=12:=by omega
     subst this;refine ⟨⟨by omega,by omega⟩,QY (by omega) (nxt ?_)⟩;rw [<-hI,zas (by rw [<-hF]; show (-1:Int)<0; decide)]
  ·have hge:=of_decide_eq_false hge;have:(Ee (W.cpus.length:Int)).toNat - k=0:=by omega
   rw [this] at hI;rw [<-hI]; rfl
theorem zcu (W:Q7) (c:Int) : -1<=OI W c:=by
 have hf:∀(b:Int) (f j:Nat),-1<=Vx W b c f j:=fun b f=>by
  induction f with
  | zero=>intro j; exact Int.le_refl _
  | succ f ih=>
   intro j;simp only [Vx];split
   ·omega
   ·exact ih _
 have hp:∀(f k:Nat),-1<=zar W c f k:=fun f=>by
  induction f with
  | zero=>intro k; exact Int.le_refl _
  | succ f ih=>
   intro k;simp only [zar];split
   ·exact ih _
   ·split
    ·exact ih _
    ·exact hf _ _ _
 exact hp _ _
end
def BO (W:Q7) (g:Int) (j:Nat):Int:=Fh W g (j:Int)
theorem Tr (W:Q7) (g c:Int) (h:W.tasks.length=12):0<=Fh W g c/\Fh W g c<=240:=by
 have:=U3 (Fg W g c) W.tasks.length;unfold Fh;omega
def zn1 (a b:Int):Int:=if a>b then a else b
def TG (W:Q7) (g c:Int):Int:=
 if Xi (BO W g) W.cpus.length=0 then (gi W.groups g).weight else zn1 1 (Int.tdiv ((gi W.groups g).weight*Fh W g c) (Xi (BO W g) W.cpus.length))
theorem znb {a b:Int} (ha:0<=a) (ha2:a<=100000) (hb:0<b):Qo .i64 (Int.tdiv a b):=by
 have h1:=Int.tdiv_nonneg ha (Int.le_of_lt hb);have h2:Int.tdiv a b<=a:=by rw [Int.tdiv_eq_ediv_of_nonneg ha]; exact Int.ediv_le_self _ ha
 exact ⟨by omega,by omega⟩
theorem N3 {a b:Int} {w:World} {bs:List Nat}:PX bs Y9 #[.int .i64 a,.int .i64 b] w (.int .i64 (zn1 a b)):=Uu
section
variable {W:Q7} {m:MW} {w:World} {bs:List Nat} {p:OA}
theorem zc4 {g c:Int} (wp:TU W) (hu:Q6 W.groups g=true):0<=(gi W.groups g).weight*Fh W g c/\(gi W.groups g).weight*Fh W g c<=4800:=by
 have hw:=(wp.a.u hu).2.2;have hi:=Tr W g c wp.a.t;have w1:=hw.w1;have w2:=hw.w2;refine ⟨Int.mul_nonneg (by omega) hi.1,?_⟩;have:=Int.mul_le_mul w2 hi.2 hi.1 (show (0:Int)<=20 by decide);omega
theorem Gh {g:Int} (wp:TU W) (k:Nat):0<=Xi (BO W g) k/\Xi (BO W g) k<=(k:Int)*240:=U3 (fun j=>Tr W g (j:Int) wp.a.t) k
theorem DI {g c:Int} (h:Xo bs w W m) (wp:TU W) (hl:X4 W) (hu:Q6 W.groups g=true):PX bs V0 #[.agg (Qa W m).toArray,.int .i64 g,.int .i64 c] w (.int .i64 (TG W g c)):=
 DV W.now m.cO W.cpus.length m.cC m.tO W.tasks.length m.tC m.gO W.groups.length m.gC g c fun wr hx=>by
  have h:=(h.ext hx).less (cs:=[]) (by simp);have hcl:=wp.a.c2;obtain ⟨u1,u2,_⟩:=Q4.1 hu;intro _ _;refine Tx W.cpus.length 0 rfl (fun x k=>k<=W.cpus.length/\x=Xi (BO W g) k) ⟨Nat.zero_le _,rfl⟩ fun x k ⟨hk,hx2⟩=>⟨fun hlt => ?_,fun hge=>⟨fun g2=>⟨h.g.ix u1 u2,_,(h.g.cells g u1 u2).get 3 _ rfl,?_⟩,fun g2 => ?_⟩⟩
  ·have hlt:=of_decide_eq_true hlt;have hr:=Gh (g:=g) wp k;have hi:=Tr W g (k:Int) wp.a.t;exact ⟨_,Oz h wp hl hu,⟨by omega,by omega⟩,⟨by omega,by omega⟩,QA (by omega) ⟨by omega,by simp only [Xi]; rw [hx2]; rfl⟩⟩
  ·have hge:=of_decide_eq_false hge;have:k=W.cpus.length:=by omega
   subst this;unfold TG;rw [if_pos (by rw [<-hx2]; simpa using g2)]
  ·have hge:=of_decide_eq_false hge;have:k=W.cpus.length:=by omega
   subst this;have hr:=Gh (g:=g) wp W.cpus.length;have hp:=zc4 (c:=c) wp hu;have hne:x≠0:=by simpa using g2
   refine ⟨h.g.ix u1 u2,_,(h.g.cells g u1 u2).get 3 _ rfl,Fh W g c,Oz h wp hl hu,⟨by omega,by omega⟩,⟨hne,znb hp.1 (by omega) (by omega)⟩,_,N3,?_⟩;unfold TG;rw [if_neg (by rw [<-hx2]; exact hne),hx2]
end
theorem zh8 {gs:List Z0} (ht:Z6 gs) {g:Int}:∀h:Int,Q6 gs h=true->g∈QT gs h->YJ 3 gs g h=true:=
 Jx ht (fun hx=>by rw [show QT gs 0=[] from Zh _ _] at hx; cases hx) fun h hu hz ih hx=>by
  by_cases e:h=g
  ·subst e; simp [YJ]
  ·rw [T4 ht hu hz e];rw [YN ht hu hz] at hx;rcases List.mem_cons.1 hx with e2 | e2
   ·exact absurd e2.symm e
   ·exact ih e2
theorem ze1 (W:Q7) (g c x:Int):UF W (P3 W g c x):=by
 unfold P3;split
 ·exact UF.refl _
 ·split
  ·exact (B7 _ _ _ _).trans (Mm _ _)
  ·exact B7 _ _ _ _
theorem UE.wei {W:Q7} (p:UE W) {g c x:Int} (hu:Q6 W.groups g=true) (hz:g≠0) (c0:0<=c) (c1:c<(W.cpus.length:Int)):UE (P3 W g c x):=by
 obtain ⟨u0,u1,_⟩:=Q4.1 hu;have hl:=p.a.gl;have hsl:=p.a.sl hu;have c1':c<((gi W.groups g).shelves.length:Int):=by omega
 have e:∀{i j:Int},0<=i->0<=j->Qc (XQ W g c x) i j=if g=i/\c=j then Be W g c x else Qc W i j:=fun hi hj=>XE u0 u1 c0 c1' hi hj
 have hT:QM W.groups (XQ W g c x).groups:=YX u0 u1
 have ef:∀{i j:Int},0<=i->0<=j->(Qc (XQ W g c x) i j).floor=(Qc W i j).floor:=fun {i j} hi hj=>by
  rw [e hi hj]; split
  ·rename_i h; obtain ⟨rfl,rfl⟩:=h; rfl
  ·rfl
 have hpu:=p.a.up hu hz;have p0:=(Q4.1 hpu).1
 have same:∀{i j:Int},Q6 W.groups i=true->i≠0->0<=j->¬(g=i/\c=j)->U2 W i j->U2 (XQ W g c x) i j:=fun {i j} iu iz j0 hn h=>by
  unfold U2 at h ⊢;rw [hT.p,ef (Q4.1 (p.a.up iu iz)).1 j0,e (Q4.1 iu).1 j0,if_neg hn];exact h
 have hA:PreA (XQ W g c x):=by
  refine ⟨p.a.setSh u0 (by omega),fun t t0 t1 => ?_,fun t t0 t1 n=>p.l t t0 t1 n,fun i j iu j0 j1 => ?_⟩
  ·rcases p.t t t0 t1 with h | ⟨n,h⟩
   ·exact .inl h
   ·exact .inr ⟨n,h.st,by rw [hT.usd]; exact h.g,h.n,h.m,h.m0,h.s,h.u,h.l1,h.l2,fun h1=>by
     show (Qc (XQ W g c x) (Q8 W t).group (Q8 W t).cpu).floor<=(Q8 W t).v/\(Q8 W t).v - (Qc (XQ W g c x) (Q8 W t).group (Q8 W t).cpu).floor<=_;rw [ef (Q4.1 h.g).1 (p.l t t0 t1 n).1]; exact h.f h1⟩
  ·rw [hT.usd] at iu;have hs:=p.s i j iu j0 j1;have i0:=(Q4.1 iu).1
   by_cases h:g=i/\c=j
   ·obtain ⟨rfl,rfl⟩:=h;refine ⟨by rw [e i0 j0,if_pos ⟨rfl,rfl⟩]; exact hs.s,fun h0=>absurd h0 hz,fun _ ho => ?_⟩;rw [e i0 j0,if_pos ⟨rfl,rfl⟩] at ho;have ho:(Qc W g c).on=true:=ho;unfold U2;rw [hT.p,ef p0 j0,e i0 j0,if_pos ⟨rfl,rfl⟩];simp only [Be];rw [if_pos ho];have:=ZF ((Qc W g c).v - (Qc W (gi W.groups g).parent c).floor) x;omega
   ·refine ⟨by rw [e i0 j0,if_neg h]; exact hs.s,by rw [e i0 j0,if_neg h]; exact hs.root,fun iz ho => ?_⟩;rw [e i0 j0,if_neg h] at ho;exact same iu iz j0 h (hs.st iz ho)
 have hC:∀d:Int,0<=d->d<(W.cpus.length:Int)->(d=c->CO (XQ W g c x) g c=false)->zm4 (XQ W g c x) d:=fun d d0 d1 hd=>by
  have h:=p.c d d0 d1;refine ⟨h.b,h.i,h.c1,h.c2,h.no,h.yes,fun h0 h1 h2 => ?_⟩;obtain ⟨q1,q2⟩:=h.q h0 h1 h2
  have hcu:Q6 W.groups (Q8 W (gi W.cpus d).cur).group=true:=by
   rcases p.t _ h0 h.c2 with hz | ⟨_,hx⟩
   ·have h1:(Q8 W (gi W.cpus d).cur).state=1:=h1;have h3:(Q8 W (gi W.cpus d).cur).state=0:=hz.1;rw [h3] at h1; cases h1
   ·exact hx.g
  refine ⟨by show (Q8 W (gi W.cpus d).cur).v - (Qc (XQ W g c x) (Q8 W (gi W.cpus d).cur).group d).floor<=_; rw [ef (Q4.1 hcu).1 d0]; exact q1,fun y hy => ?_⟩;have hy:y∈QT W.groups (Q8 W (gi W.cpus d).cur).group:=by rw [<-Uy hT]; exact hy
  obtain ⟨yu,yz⟩:=Yc p.a.tree _ hcu y hy;have y0:=(Q4.1 yu).1
  have hn:¬(g=y/\c=d):=by
   rintro ⟨rfl,rfl⟩;have h3:=hd rfl;unfold CO at h3;have h4:=zh8 (hT.tree p.a.tree) (g:=g) (Q8 W (gi W.cpus c).cur).group (by rw [hT.usd]; exact hcu) (by rw [Uy hT]; exact hy);rw [show (gi (XQ W g c x).cpus c).cur=(gi W.cpus c).cur from rfl,decide_eq_true (show (gi W.cpus c).cur>=0 from h0),Bool.true_and] at h3;rw [show (Q8 (XQ W g c x) (gi W.cpus c).cur).group=(Q8 W (gi W.cpus c).cur).group from rfl,h4] at h3;cases h3
  obtain ⟨s1,s2⟩:=q2 y hy;refine ⟨same yu yz d0 hn s1,?_⟩;rw [hT.p,ef (Q4.1 (p.a.up yu yz)).1 d0,e y0 d0,if_neg hn];exact s2
 unfold P3;split
 ·exact p
 ·split
  ·refine ⟨hA.endW c0 c1,fun d d0 d1 => ?_⟩;have hlen:(Go.Proofs.YtclpmgfpjeaibaaGreat.endW (XQ W g c x) c).cpus.length=W.cpus.length:=List.length_set;have hcp:gi (Go.Proofs.YtclpmgfpjeaibaaGreat.endW (XQ W g c x) c).cpus d=if c=d then X0 (gi W.cpus c) else gi W.cpus d:=Qt _ _ c0 c1 d0;rw [hlen] at d1
   by_cases ed:c=d
   ·subst ed;have h:=p.c c c0 c1;rw [if_pos rfl] at hcp;have n1:(X0 (gi W.cpus c)).cur = -1:=rfl;exact ⟨by rw [hcp]; exact h.b,by rw [hcp]; exact h.i,by rw [hcp,n1]; exact Int.le_refl _,by rw [hcp,n1]; decide,fun _=>by rw [hcp]; rfl,fun h=>by rw [hcp,n1] at h; omega,fun h=>by rw [hcp,n1] at h; omega⟩
   ·have h:=hC d d0 d1 fun hd=>absurd hd.symm ed
    rw [if_neg ed] at hcp;exact ⟨by rw [hcp]; exact h.b,by rw [hcp]; exact h.i,by rw [hcp]; exact h.c1,by rw [hcp]; exact h.c2,by rw [hcp]; exact h.no,by rw [hcp]; exact h.yes,by rw [hcp]; exact h.q⟩
  ·rename_i he;exact ⟨hA,fun d d0 d1=>hC d d0 d1 fun _=>by simpa using he⟩
theorem SW.tu {K:Int} {W:Q7} (h:SW K W):TU W:=⟨h.a,fun t0 t1 hs=>h.li t0 t1 hs⟩
theorem ze3 {f:Nat->Int} (h:∀j,0<=f j):∀m:Nat,0<=Xi f m
 | 0=>Int.le_refl _
 | m+1=>by
  have ih:=ze3 h m;have:=h m;simp only [Xi];omega
theorem ze2 {f:Nat->Int} (h:∀j,0<=f j) {k:Nat}:∀n:Nat,k<n->f k<=Xi f n
 | 0,hk=>absurd hk (Nat.not_lt_zero k)
 | n+1,hk=>by
  simp only [Xi];have hn:=ze3 h
  by_cases e:k=n
  ·subst e; have:=hn k; omega
  ·have:=ze2 h (k:=k) n (by omega);have:=h n;omega
theorem za9 {W:Q7} (wp:TU W) {g c:Int} (hu:Q6 W.groups g=true) (c0:0<=c) (c1:c<(W.cpus.length:Int)):1<=TG W g c/\TG W g c<=(gi W.groups g).weight:=by
 have hg:=(wp.a.u hu).2.2;have w1:=hg.w1;have hi:=Tr W g c wp.a.t
 have hall:Fh W g c<=Xi (BO W g) W.cpus.length:=by
  have:=ze2 (f:=BO W g) (fun j=>(Tr W g (j:Int) wp.a.t).1) (k:=c.toNat) W.cpus.length (by omega);unfold BO at this
  rwa [show ((c.toNat:Nat):Int)=c by omega] at this
 unfold TG;split
 ·omega
 ·rename_i hn
  have hp:0<Xi (BO W g) W.cpus.length:=by
   have:=(Gh (g:=g) wp W.cpus.length).1;omega
  have hq:Int.tdiv ((gi W.groups g).weight*Fh W g c) (Xi (BO W g) W.cpus.length)<=(gi W.groups g).weight:=by
   rw [Int.tdiv_eq_ediv_of_nonneg (Int.mul_nonneg (by omega) hi.1)];refine Int.ediv_le_of_le_mul hp ?_;exact Int.mul_le_mul_of_nonneg_left hall (by omega)
  unfold zn1
  split <;> omega
theorem za8 {W:Q7} (wp:TU W) {g c:Int} (hu:Q6 W.groups g=true) (c0:0<=c) (c1:c<(W.cpus.length:Int)):1<=TG W g c/\TG W g c<=20:=by
 have h:=za9 wp hu c0 c1;have:=(wp.a.u hu).2.2.w2;omega
def O6 (W:Q7) (c:Int):Nat->Q7
 | 0=>W
 | k+1=>if k≠0/\(gi (O6 W c k).groups (k:Int)).used=true then P3 (O6 W c k) (k:Int) c (TG (O6 W c k) (k:Int) c) else O6 W c k
def JO (W:Q7) (c:Int):Q7:=Qg (O6 W c 8)
noncomputable def UH (W:Q7) (c:Int):Int:=OI (JO W c) c
noncomputable def CT (W:Q7) (c:Int):Q7:=if UH W c<0 then JO W c else Qg (JZ (JO W c) (UH W c) (Q8 (JO W c) (UH W c)).group c)
noncomputable abbrev Gi (W:Q7) (c:Int):Int:=Ue W c true 0
structure zmn (W V:Q7):Prop where
 sf:SF Ql (Ql+Qj) V
 fr:Fr W V
 cu:K0 V
 pre:UE V
 sta:UF W V
theorem AA {W:Q7} (wp:XG W) (hr:MF W) {c:Int} (c0:0<=c) (c1:c<(W.cpus.length:Int)):∀k:Nat,k<=8->zmn W (O6 W c k)
 | 0,_=>⟨OL (TI wp hr),Fr.refl _,zdx wp,YI wp,UF.refl _⟩
 | k+1,hk=>by
  have ih:=AA wp hr c0 c1 k (by omega);simp only [O6];split
  ·rename_i h;have hl:=ih.sf.w.a.gl;have hu:Q6 (O6 W c k).groups (k:Int)=true:=Q4.2 ⟨by omega,by omega,h.2⟩;have c1':c<((O6 W c k).cpus.length:Int):=by rw [ih.fr.c]; exact c1
   have hs:=za8 ih.sf.w.tu hu c0 c1';obtain ⟨a,b,d⟩:=zfa ih.sf (Int.le_refl _) ih.cu hu (by omega) c0 c1' hs.1 hs.2;exact ⟨a,ih.fr.trans b,d,ih.pre.wei hu (by omega) c0 c1',ih.sta.trans (ze1 _ _ _ _)⟩
  ·exact ih
theorem AB {W:Q7} {c:Int} (hW:QG W=true) (hb:Gi W c=0):0<=c/\c<(W.cpus.length:Int)/\zmn W (O6 W c 8)/\XG (JO W c)/\SW (Ql+Qj+U1) (JO W c)/\Fr W (JO W c):=by
 obtain ⟨h1,_,_,h4⟩:=AK hb;have wp:=Qn.1 hW;obtain ⟨c0,c1⟩:=Vj h1;have hB:=AA wp (Qn.1 h4) c0 c1 8 (Nat.le_refl _);have hs:=Vg hB.sf.w (by simp only [Qj]; decide);exact ⟨c0,c1,hB,(B2 hB.sf.w (by simp only [Qj]; decide) (by simp only [Qj,U1]; decide) hB.pre (hB.sta.loc hB.fr.t (Jm wp))).1,hs.1,hB.fr.trans hs.2⟩
theorem F6 {W:Q7} {b c:Int}:∀f j:Nat,0<=Vx W b c f j->∃i:Nat,Vx W b c f j=(i:Int)/\j<=i/\i<j+f/\NA W b c i=true
 | 0,j,h=>by
  have:(0:Int)<=-1:=h;omega
 | f+1,j,h=>by
  simp only [Vx] at h ⊢;split
  ·rename_i hp;exact ⟨j,rfl,Nat.le_refl _,by omega,hp⟩
  ·rename_i hp;rw [if_neg hp] at h;obtain ⟨i,a,b',c',d⟩:=F6 f (j+1) h;exact ⟨i,a,by omega,by omega,d⟩
theorem A4 {W:Q7} {c:Int} (h:¬OI W c<0):∃(i:Nat) (b:Int),OI W c=(i:Int)/\i<12/\NA W b c i=true:=by
 have key:∀f k:Nat,0<=zar W c f k->∃(i:Nat) (b:Int),zar W c f k=(i:Int)/\i<12/\NA W b c i=true:=fun f=>by
  induction f with
  | zero=>intro k h; have:(0:Int)<=-1:=h; omega
  | succ f ih=>
   intro k h
   by_cases h0:Vt W c (k:Int)<0
   ·rw [zat h0] at h ⊢; exact ih _ h
   ·by_cases h1:Vx W (Vt W c (k:Int)) c 12 0<0
    ·rw [zas h1] at h ⊢; exact ih _ h
    ·rw [zau h0 h1] at h ⊢;obtain ⟨i,a,_,b,d⟩:=F6 12 0 h;exact ⟨i,_,a,by omega,d⟩
 exact key _ _ (by have:=zcu W c; unfold OI at *; omega)
theorem zl4 {W:Q7} {c:Int} (h:¬OI W c<0):0<=OI W c/\OI W c<12/\(Q8 W (OI W c)).state=1:=by
 obtain ⟨i,b,e,hi,hp⟩:=A4 h;unfold NA at hp;simp only [Bool.and_eq_true] at hp;rw [e];exact ⟨by omega,by omega,(Hr hp.1.2).1⟩
theorem zli {W V:Q7} (hl:X4 W) (ha:WA V) (hT:QM W.groups V.groups):X4 V:=by
 have h1:=ha.c2;have h2:=ha.t;have h3:=ha.gl;have hm:=Zp;have hn1:=ha.n1;have hn2:=ha.n2;refine ⟨by omega,by omega,by omega,fun i a b => ?_⟩;have hb:=L2 ha a (by omega);have hg:=ha.grp i a (by omega);refine ⟨by rw [hT.n]; exact (hl.f i a (by rw [<-hT.len]; exact b)).nm,?_,by omega,by omega,by omega⟩
 cases hu:(gi V.groups i).used with
 | false=>rw [(hg.1 hu).ne]; exact ⟨by decide,by decide⟩
 | true=>
  have hg:=hg.2 hu
  by_cases hq:(gi V.groups i).band.quota=0
  ·rw [(hg.none hq).2.2]; exact ⟨by decide,by decide⟩
  ·have:=hg.band hq;exact ⟨by omega,by omega⟩
theorem zdp {W:Q7} {c:Int} (hW:QG W=true) (hb:Gi W c=0) (hp:¬UH W c<0):0<=UH W c/\UH W c<12/\(Q8 (JO W c) (UH W c)).state=1/\Q6 (JO W c).groups (Q8 (JO W c) (UH W c)).group=true/\SF (Ql+Qj+U1) (Ql+Qj+U1+Qj) (JO W c)/\
  SF (Ql+Qj+U1) (Ql+Qj+U1+Qj) (JZ (JO W c) (UH W c) (Q8 (JO W c) (UH W c)).group c):=by
 obtain ⟨c0,c1,_,wp,sw,fr⟩:=AB hW hb;obtain ⟨p0,p1,ps⟩:=zl4 hp;have sf:SF (Ql+Qj+U1) (Ql+Qj+U1+Qj) (JO W c):=sw.sf.mono (Int.le_refl _) (by simp only [Qj]; omega);have hu:=(sw.t _ p0 p1 (show (Q8 (JO W c) (UH W c)).state≠0 by unfold UH; rw [ps]; decide)).1;exact ⟨p0,p1,ps,hu,sf,(Ei sf (Int.le_refl _) p0 p1 hu c0 (by rw [fr.c]; exact c1)).2⟩
section
variable {base pb:Nat} {W W':Q7} {m:MW} {w:World}
set_option maxHeartbeats 1000000 in
theorem Ll {c:Int} (h:Xo [] w W m) (hl:X4 W) :
  Cz JP #[.agg (Qa W m).toArray,.int .i64 c] w fun e w'=>∃v,e = .returned v/\Qy (YZ W (Gi W c) (CT W c)) w v w':=by
 refine L4 W.now m.cO W.cpus.length m.cC m.tO W.tasks.length m.tC m.gO W.groups.length m.gC c (R:=fun v w'=>Qy (YZ W (Gi W c) (CT W c)) w v w') ?_;intro y hy y1 hy1 wr hx2 hs2;have hm0:=Je;have hlc:=hl.c;refine Calls.mono (QW (h.ext hx2) hl) ?_;rintro e wv (⟨hW,he,hy2⟩ | ⟨hW,m',he,hM,hy2⟩)
 ·exact ⟨_,_,_,_,_,_,_,_,_,_,_,he,Qf hy2 hs2,fun g=>by simp at g,true,fun g=>by simp at g,fun _ wr1 hx3=>Qy.bad hW ((hx2.trans hy2).fresh hx3 fun z hm=>.inl (Yd hy hy1 z hm)),fun g=>by simp at g⟩
 have hK:=Wk.begin hy hy1 hx2 hs2 hM hy2;have hr:=hK.rd;have wp:=Qn.1 hW;refine ⟨_,_,_,_,_,_,_,_,_,_,_,he,Qf hy2 hs2,fun _=>⟨by omega,by omega⟩,YK W c,fun _=>Qi,fun g wr1 hx3 => ?_,fun g => ?_⟩
 ·have g:YK W c=false:=by
   cases hc:YK W c with
   | false=>rfl
   | true=>rw [hc] at g; split at g <;> simp at g
  have hb:Gi W c=1:=by unfold Gi Ue; rw [if_pos g]
  exact Qy.no hW (by rw [hb]; decide) (hK.step hx3) hb
 have g:YK W c=true:=by
  cases hc:YK W c with
  | true=>rfl
  | false=>rw [hc] at g; simp at g
 obtain ⟨c0,c1⟩:=Vj g;refine ⟨hr.c.ix ZZ c0 c1,_,hr.c.f c0 c1 (j:=0) rfl,fun g2 wr2 hx3 => ?_,fun g2=>⟨fun g3 wr3 hx3 => ?_,fun g3 => ?_⟩⟩
 ·have g2:(gi W.cpus c).up=false:=by simpa using g2
  have hb:Gi W c=6:=by unfold Gi Ue; rw [if_neg (by rw [g]; decide),if_pos (by rw [g2]; decide)]
  exact Qy.no hW (by rw [hb]; decide) (hK.step hx3) hb
 ·have g2:(gi W.cpus c).up=true:=by simpa using g2
  have hr0:¬QB W=true:=fun hr=>by rw [if_pos hr] at g3; simp at g3
  have hb:Gi W c=10:=by unfold Gi; rw [M8 g g2 rfl,if_pos (by simpa using hr0)]
  rw [if_neg hr0];exact Qy.no hW (by rw [hb]; decide) (hK.step hx3) hb
 have g2:(gi W.cpus c).up=true:=by simpa using g2
 have hr0:QB W=true:=Decidable.byContradiction fun hr=>by rw [if_neg hr] at g3; simp at g3
 have hb:Gi W c=0:=by unfold Gi; rw [M8 g g2 rfl,if_neg (by rw [hr0]; decide)]
 obtain ⟨_,_,hB8,wpS,swS,frS⟩:=AB hW hb;refine ⟨fun vs w1=>∃k:Nat,vs = .int .i64 (k:Int)::Qa W m'/\1<=k/\k<=8/\Wk 8 [y,y1] w w1 (O6 W c k) m',Zm 8 0,fun w1 hx0 _=>⟨1,rfl,by decide,by decide,hK.step hx0⟩,?_⟩;rintro g1 l l1O l1L l1C l2O l2L l2C l3O l3L l3C wv2 hs3 ⟨k,he2,hk1,hk8,hKk⟩;have hOk:=AA wp (Qn.1 hr0) c0 c1 k hk8;have e0:Qa (O6 W c k) m'=Qa W m':=VV hOk.fr;have hdef:O6 W c (k+1)=if k≠0/\(gi (O6 W c k).groups (k:Int)).used=true then P3 (O6 W c k) (k:Int) c (TG (O6 W c k) (k:Int) c) else O6 W c k:=rfl;have hgl:=hOk.sf.w.a.gl;have hWgl:=wp.a.gl;simp only [Qa,List.cons.injEq,Value.int.injEq,Value.slice.injEq,true_and,and_true] at he2;obtain ⟨rfl,rfl,⟨rfl,rfl,rfl⟩,⟨rfl,rfl,rfl⟩,rfl,rfl,rfl⟩:=he2;refine ⟨fun hlt => ?_,fun hge wr10 hx10 hs10 => ?_⟩
 ·have hlt:=of_decide_eq_true hlt;have hrk:=hKk.rd;have hix:=hrk.g.ix (i:=(k:Int)) (by omega) (by omega);rw [hgl] at hix;rw [hWgl] at hlt ⊢;refine ⟨hix,_,Tb ((hrk.g.cells (k:Int) (by omega) (by omega)).get 0 _ rfl),fun gu => ?_,fun gu=>⟨⟨by omega,by omega⟩,fun wr9 hx9 _=>⟨⟨k+1,by rw [<-hWgl]; rfl,by omega,by omega,?_⟩,?_⟩⟩⟩
  ·have hu:Q6 (O6 W c k).groups (k:Int)=true:=Q4.2 ⟨by omega,by omega,gu⟩;have c1':c<((O6 W c k).cpus.length:Int):=by rw [hOk.fr.c]; exact c1
   have hsh:=za8 hOk.sf.w.tu hu c0 c1';have hshare:=DI (c:=c) hrk hOk.sf.w.tu (zli hl hOk.sf.w.a hOk.fr.g) hu;rw [e0] at hshare;simp only [Qa] at hshare;rw [hWgl] at hshare;refine ⟨_,hshare,fun wr7 hx7 hs7 => ?_⟩;have hK7:=hKk.step hx7;have hcall:=Oy hK7.own hOk.sf (Int.le_refl _) (by simp only [Qj]; decide) hOk.cu (x:=TG (O6 W c k) (k:Int) c) hu (by omega) c0 c1';rw [e0] at hcall;simp only [Qa] at hcall;rw [hWgl] at hcall;refine Calls.mono hcall ?_;rintro e1 wv3 ⟨he1,hy3⟩;refine ⟨_,_,_,_,_,_,_,_,_,_,he1,hK7.kept hy3 hs7,⟨by omega,by omega⟩,fun wr8 hx8 _=>⟨⟨k+1,by rw [<-hWgl]; rfl,by omega,by omega,?_⟩,?_⟩⟩
   ·rw [hdef,if_pos ⟨by omega,gu⟩];exact (hK7.deed hy3 hs7).step hx8
   ·simp only [Zm,Jq,Yf,List.getElem?_cons_zero]; omega
  ·rw [hdef,if_neg (by rintro ⟨_,h⟩; rw [show (gi (O6 W c k).groups (k:Int)).used=false from gu] at h; cases h)];exact hKk.step hx9
  ·simp only [Zm,Jq,Yf,List.getElem?_cons_zero]; omega
 ·have hge:=of_decide_eq_false hge;have:k=8:=by omega
  subst this;have hK10:=hKk.step hx10;have hcall:=Qm hK10.own hB8.sf.w (by simp only [Qj]; decide) (by simp only [Qj]; decide) hK10.base;rw [e0] at hcall;refine Calls.mono hcall ?_;rintro e3 wv5 ⟨m2,he3,hy5⟩;have hK11:Wk 8 [y,y1] w wv5 (JO W c) m2:=hK10.deed hy5 hs10;have hr11:=hK11.rd;have hpull:=Fl hr11 wpS c0 (by rw [frS.c]; exact c1);refine ⟨_,_,_,_,_,_,_,_,_,_,he3,hK10.kept hy5 hs10,_,hpull,fun g5 => ?_,fun g5 wr14 hx14 => ?_⟩
  ·have g5:¬UH W c<0:=by have:=of_decide_eq_true g5; unfold UH; omega
   obtain ⟨p0,p1,ps,hu,sf,sfP⟩:=zdp hW hb g5;have htl:=wpS.a.t;refine ⟨hr11.t.ix QJ p0 (by rw [htl]; exact p1),_,hr11.t.f p0 (by rw [htl]; exact p1) (j:=1) rfl,fun wr11 hx11 hs11 => ?_⟩;have hK12:=hK11.step hx11;refine Calls.mono (Jv hK12.own sf (Int.le_refl _) (by simp only [Qj,U1]; decide) (t:=UH W c) (g:=(Q8 (JO W c) (UH W c)).group) (c:=c) p0 p1 (by rw [ps]; decide) hu c0 (by rw [frS.c]; exact c1)) ?_;rintro e4 wv6 ⟨he4,hy6⟩;refine ⟨_,_,_,_,_,_,_,_,_,_,he4,hK12.kept hy6 hs11,fun wr12 hx12 hs12 => ?_⟩;have hK13:=(hK12.deed hy6 hs11).step hx12
   have ePut:Qa (JZ (JO W c) (UH W c) (Q8 (JO W c) (UH W c)).group c) m2=Qa (JO W c) m2:=by
    obtain ⟨q1,q2,q3,q4⟩:=zje (JO W c) (UH W c) (Q8 (JO W c) (UH W c)).group c;simp only [Qa,q1,q2,q3,q4]
   have hcall2:=Qm hK13.own sfP.w (by simp only [Qj,U1]; decide) (by simp only [Qj,U1]; decide) hK13.base;rw [ePut] at hcall2;refine Calls.mono hcall2 ?_;rintro e5 wv7 ⟨m3,he5,hy7⟩;refine ⟨_,_,_,_,_,_,_,_,_,_,he5,hK13.kept hy7 hs12,fun wr13 hx13 => ?_⟩;have hE:CT W c=Qg (JZ (JO W c) (UH W c) (Q8 (JO W c) (UH W c)).group c):=by unfold CT; rw [if_neg g5]
   rw [hE];exact Qy.ok hW hb ((hK13.deed hy7 hs12).step hx13)
  ·have g5:UH W c<0:=by have:=of_decide_eq_false g5; unfold UH; omega
   have hE:CT W c=JO W c:=by unfold CT; rw [if_pos g5]
   rw [hE];exact Qy.ok hW hb (hK11.step hx14)
end
theorem zab {W:Q7} {g n x:Int} (hW:QG W=true) (hb:Tq W g n x=0):Xn (zh0 W g n x):=by
 have wp:=Qn.1 hW;have h:=zd2 hW hb;have p:=YI wp
 have hT:KI W (Py W g n x):=⟨.inl rfl,h.u,h.w,h.m,h.m0,by show XH 0=true; decide,by show XH 0=true; decide,Int.le_refl _,by show (0:Int)<=8000000; decide,fun _=>by
  have:=(ZD (Qd n)).1;show (Qc W g (P5 W g x)).floor<=(Qc W g (P5 W g x)).floor/\(Qc W g (P5 W g x)).floor - (Qc W g (P5 W g x)).floor<=Zs (Qd n);omega⟩
 exact Ze (h.sw2.endW h.c0 h.c1) (by decide) (by decide) (Eg p h.f0 h.f1 (show (1:Int)≠0 by decide) hT rfl h.c0 h.c1) (((Jm wp).setTk wp.a h.f0 h.f1 (x:=Py W g n x) fun _=>h.ch).endW _)
theorem zlb {W:Q7} {g x:Int} (hW:QG W=true) (hb:zdg W g x=0):Xn (zmj W g x):=by
 have wp:=Qn.1 hW;obtain ⟨h1,hz,hu,_,_,sf,cu,hT⟩:=zj3 hW hb;have hx:=Qx.1 h1;have hu':Q6 (setGr W g (OO W g x)).groups g=true:=by rw [hT.usd]; exact hu
 have p1:UE (setGr W g (OO W g x)):=(YI wp).same sf.w.a rfl rfl hT (zc5 rfl);have l1:En (setGr W g (OO W g x)):=(Jm wp).same rfl hT (fun i=>Yh (f:=Z0.cpus) W.groups g (x:=OO W g x) rfl i) rfl;have hlen:(setGr W g (OO W g x)).cpus.length=W.cpus.length:=rfl;show Xn (Qg (M2 (setGr W g (OO W g x)) g x W.cpus.length));rw [<-hlen];generalize setGr W g (OO W g x)=V at sf cu hu' p1 l1
 have all:∀k:Nat,k<=V.cpus.length->UE (M2 V g x k)/\UF V (M2 V g x k):=by
  intro k
  induction k with
  | zero=>exact fun _=>⟨p1,UF.refl _⟩
  | succ k ih=>
   intro hk;obtain ⟨a,b⟩:=ih (by omega);exact ⟨a.wei (by rw [b.g.usd]; exact hu') hz (by omega) (by rw [b.len]; omega),b.trans (ze1 _ _ _ _)⟩
 obtain ⟨a,b⟩:=all _ (Nat.le_refl _);obtain ⟨sf2,fr,_⟩:=CP sf (Int.le_refl _) cu hu' hz hx.1 hx.2 V.cpus.length (Nat.le_refl _);exact Ze sf2.w (by simp only [Qj]; decide) (by simp only [Qj,U1]; decide) a (b.loc fr.t l1)
theorem zfi {W:Q7} {t c:Int} (h:Jk W t c=true):Z5 (Qq W (Q8 W t).group (Q8 W t).mask) c=true:=by
 unfold Jk at h;simp only [Bool.and_eq_true,Bool.not_eq_true',Bool.or_eq_false_iff,Bool.not_eq_false'] at h;exact h.1.2
theorem zk2 {W:Q7} {c:Int} (hW:QG W=true) (hb:Gi W c=0):Xn (CT W c):=by
 have wp:=Qn.1 hW;obtain ⟨c0,c1,hB,wpS,swS,frS⟩:=AB hW hb;have iS:Xn (JO W c):=Ze hB.sf.w (by simp only [Qj]; decide) (by simp only [Qj,U1]; decide) hB.pre (hB.sta.loc hB.fr.t (Jm wp));unfold CT;split
 ·exact iS
 ·rename_i hp;obtain ⟨p0,p1,ps,pu,_,sf⟩:=zdp hW hb hp;obtain ⟨i,b,e,hi,ht⟩:=A4 hp;have e:UH W c=(i:Int):=e;unfold NA at ht;simp only [Bool.and_eq_true] at ht;have hcd:=zfi ht.1.2;rw [<-e] at hcd;have cS:c<((JO W c).cpus.length:Int):=by rw [frS.c]; exact c1
  clear hp iS swS frS hB ht e;have hK0:0<=Ql+Qj+U1+Qj:=by decide
  have hK1:Ql+Qj+U1+Qj+U1<=100000000000000000:=by decide
  have hcd:Z5 (Qq (JO W c) (Q8 (JO W c) (UH W c)).group (Q8 (JO W c) (UH W c)).mask) c=true:=hcd;generalize UH W c=q at *;generalize JO W c=V at *;refine Ze sf.w hK0 hK1 (FW (YI wpS) p0 p1 (by rw [ps]; decide) pu c0 cS) fun t t0 t1 n => ?_
  rw [(Ek V _ _ _).wh];rw [zcw wpS.a.t p0 p1 t0] at n ⊢
  split at n
  ·rename_i he;rw [if_pos he];exact hcd
  ·rename_i he;rw [if_neg he];exact Jm wpS t t0 t1 n
def Nc:Pi:=⟨0,false,0,10,0⟩
def T1 (n:Nat) (p:Int) (name:ByteArray):Z0:=⟨true,p,name,10,15,0,0,0,⟨0,0,0,[],[]⟩,List.replicate n Nc⟩
def Bh:Z0:=⟨false,0,⟨[].toArray⟩,0,0,0,0,0,⟨0,0,0,[],[]⟩,[]⟩
def J3 (n:Nat):Q7:=⟨0,List.replicate n ⟨true,-1,0,0,0⟩,List.replicate 12 TN,(List.replicate 8 Bh).set 0 (T1 n (-1) ⟨[].toArray⟩)⟩
section
variable {n:Nat}
theorem Kp (k:Int) (k0:0<=k) (k1:k<8):gi (J3 n).groups k=if k=0 then T1 n (-1) ⟨[].toArray⟩ else Bh:=by
 have:=Qt (List.replicate 8 Bh) (T1 n (-1) ⟨[].toArray⟩) (i:=0) (j:=k) (Int.le_refl _) (by decide) k0;show gi ((List.replicate 8 Bh).set (0:Int).toNat _) k=_;rw [this]
 by_cases h:k=0
 ·rw [if_pos h.symm,if_pos h]
 ·rw [if_neg fun e=>h e.symm,if_neg h,VO _ _ k0 (by omega)]
theorem zi2:(J3 n).groups.length=8:=by simp [J3]
theorem zi1 (c:Int) (c0:0<=c) (c1:c<(n:Int)):gi (J3 n).cpus c=⟨true,-1,0,0,0⟩:=VO _ _ c0 c1
theorem zi3 (t:Int) (t0:0<=t) (t1:t<12):Q8 (J3 n) t=TN:=VO 12 _ t0 (by omega)
theorem zn5 (c:Int) (c0:0<=c) (c1:c<(n:Int)):Qc (J3 n) 0 c=Nc:=by
 unfold Qc;rw [Kp 0 (Int.le_refl _) (by decide),if_pos rfl];exact VO _ _ c0 c1
theorem zgb:Z6 (J3 n).groups:=by
 have g0:gi (J3 n).groups 0=T1 n (-1) ⟨[].toArray⟩:=by rw [Kp 0 (Int.le_refl _) (by decide),if_pos rfl]
 have un:∀g:Int,1<=g->g<8->(gi (J3 n).groups g).used=true->False:=fun g a b h=>by
  rw [Kp g (by omega) b,if_neg (by omega)] at h; cases h
 exact ⟨zi2,by rw [g0]; rfl,by rw [g0]; rfl,by rw [g0]; rfl,fun g a b h=>(un g a b h).elim,fun g a b h=>(un g a b h).elim,fun g a b h=>(un g a b h).elim,fun g k a b d h=>(un g (by omega) d h).elim⟩
theorem zlt (n0:1<=n) (n1:n<=4):WA (J3 n):=by
 have hcl:(J3 n).cpus.length=n:=by simp [J3]
 refine ⟨Int.le_refl _,by show (0:Int)<=_; decide,by omega,by omega,by simp [J3],zgb,Hl (c:=0) (by omega) (Int.le_refl _) (by omega) (by rw [zi1 0 (Int.le_refl _) (by omega)]),fun k k0 k1 => ?_⟩;unfold HB;rw [Kp k k0 k1];split
 ·refine ⟨fun h=>(by cases h),fun _=>⟨show (1:Int)<=10 by decide,show (10:Int)<=20 by decide,show TZ 15=true by decide,show (15:Int)≠0 by decide,show XH 0=true by decide,by simp [T1,hcl],fun _=>⟨rfl,rfl,rfl⟩,fun _=>⟨show TB ⟨0,0,0,[],[]⟩=true by decide,rfl,rfl⟩,fun h=>absurd rfl h⟩⟩
 ·exact ⟨fun _=>⟨rfl,rfl,rfl,rfl,rfl,rfl,rfl,rfl,by decide⟩,fun h=>by cases h⟩
theorem zk7 (n0:1<=n) (n1:n<=4):Xn (J3 n):=by
 have ha:=zlt n0 n1;have hcl:(J3 n).cpus.length=n:=by simp [J3]
 have hmt:∀(k c:Int) (j:Nat),j<12->O5 (J3 n) k c j=false:=fun k c j hj=>by
  unfold O5;rw [show gi (J3 n).tasks (j:Int)=TN from zi3 (j:Int) (by omega) (by omega)];rfl
 have hmg:∀(k c:Int) (j:Nat),j<8->J6 (J3 n) k c j=false:=fun k c j hj=>by
  unfold J6;rw [Kp (j:Int) (by omega) (by omega)]
  by_cases h:(j:Int)=0
  ·rw [show decide (1<=j)=false from decide_eq_false (by omega)]; rfl
  ·rw [if_neg h];simp [Bh]
 refine ⟨⟨ha,fun t t0 t1=>.inl ?_,fun k c k0 k1 c0 c1 => ?_,fun c c0 c1 => ?_⟩,fun k c hu c0 c1 hb => ?_⟩
 ·rw [zi3 t t0 t1]; exact ⟨rfl,rfl⟩
 ·by_cases hk:k=0
  ·subst hk;rw [Kp 0 k0 k1,if_pos rfl] at c1;have c1:c<(n:Int):=by simpa [T1] using c1
   have e:=zn5 c c0 c1;refine ⟨?_,?_,?_,?_,?_,fun _ => ?_,fun h=>absurd rfl h,fun h=>absurd rfl h⟩ <;> rw [e]
   ·decide
   ·decide
   ·decide
   ·decide
   ·decide
   ·exact ⟨rfl,rfl,rfl⟩
  ·rw [Kp k k0 k1,if_neg hk] at c1;have c1:c<0:=c1;omega
 ·rw [hcl] at c1;have e:=zi1 c c0 c1;refine ⟨by rw [e]; decide,by rw [e]; decide,by rw [e]; decide,by rw [e]; show (-1:Int)<((J3 n).tasks.length:Int); simp [J3],fun _=>by rw [e],fun h => ?_⟩;rw [e] at h;have h:(0:Int)<=-1:=h;omega
 ·unfold Zw at hb;have hb:=of_decide_eq_true hb;rcases Z7 (Z9 (J3 n) k c) (Za (J3 n) c) 20 with ⟨a,_⟩ | ⟨_,h2,h3,_⟩
  ·rw [a] at hb; omega
  ·exfalso
   have hlt:(QD (Z9 (J3 n) k c) (Za (J3 n) c) 20).toNat<20:=by omega
   generalize (QD (Z9 (J3 n) k c) (Za (J3 n) c) 20).toNat=j at h3 hlt
   by_cases hj:j<12
   ·rw [Uw hj,hmt k c j hj] at h3; cases h3
   ·rw [show j=12+(j - 12) by omega,J0,hmg k c (j - 12) (by omega)] at h3; cases h3
end
theorem j8 {gs:List Z0} (ht:Z6 gs):∀(f:Nat) (h:Int),Q6 gs h=true->dep 3 gs h<=(f:Int)->dep f gs h=dep 3 gs h
 | 0,h,hu,hd=>by
  by_cases hz:h=0
  ·subst hz; rw [ZN,ZN]
  ·obtain ⟨_,_,_,d,e,_⟩:=Zl ht hu hz;omega
 | f+1,h,hu,hd=>by
  by_cases hz:h=0
  ·subst hz; rw [ZN,ZN]
  ·obtain ⟨hp,_,_,d,e,e2,_⟩:=Zl ht hu hz;have ih:=j8 ht f _ hp (by omega);show (if h=0 then 0 else if dep f gs (gi gs h).parent<0 then -1 else dep f gs (gi gs h).parent+1)=_;rw [if_neg hz,ih,e2,if_neg (by omega),e]
structure An (W:Q7) (a p:Int) (name:ByteArray):Prop where
 a1:1<=a
 a8:a<8
 fr:(gi W.groups a).used=false
 up:Q6 W.groups p=true
 nm:J2 name=true
 no:∀h:Int,1<=h->h<8->(gi W.groups h).used=true->¬((gi W.groups h).parent=p/\(gi W.groups h).name=name)
 dp:dep 3 W.groups p≠3
def VU (W:Q7) (a p:Int) (name:ByteArray):Q7:=setGr W a (T1 W.cpus.length p name)
section
variable {W:Q7} {a p:Int} {name:ByteArray}
theorem Hv (ha:WA W) (h:An W a p name) {i:Int} (hi:0<=i):gi (VU W a p name).groups i=if a=i then T1 W.cpus.length p name else gi W.groups i:=Y4 (by have:=h.a1; omega) (by have:=ha.gl; have:=h.a8; omega) hi
theorem ziz (h:An W a p name) {k:Int} (hu:Q6 W.groups k=true):a≠k:=fun e=>by
 have:=(Q4.1 hu).2.2;rw [<-e,h.fr] at this;cases this
theorem Ko (ha:WA W) (h:An W a p name) {k:Int} (hu:Q6 W.groups k=true):gi (VU W a p name).groups k=gi W.groups k:=by
 rw [Hv ha h (Q4.1 hu).1,if_neg (ziz h hu)]
theorem PH (ha:WA W) (h:An W a p name):gi (VU W a p name).groups a=T1 W.cpus.length p name:=by
 rw [Hv ha h (by have:=h.a1; omega),if_pos rfl]
theorem Ch (ha:WA W):(VU W a p name).groups.length=8:=by
 have:=ha.gl;simp [VU,setGr]; omega
theorem Lz (ha:WA W) (h:An W a p name) {k:Int}:Q6 (VU W a p name).groups k=true↔Q6 W.groups k=true\/k=a:=by
 have hgl:=ha.gl;have a1:=h.a1;have a8:=h.a8;rw [Q4,Q4,Ch ha,hgl];constructor
 ·rintro ⟨x,y,z⟩;rw [Hv ha h x] at z
  by_cases e:a=k
  ·exact .inr e.symm
  ·rw [if_neg e] at z;exact .inl ⟨x,y,z⟩
 ·rintro (⟨x,y,z⟩ | rfl)
  ·refine ⟨x,y,?_⟩;rw [Hv ha h x,if_neg fun e=>by rw [<-e,h.fr] at z; cases z];exact z
  ·refine ⟨by omega,by omega,?_⟩;rw [PH ha h]; rfl
theorem zcl (ha:WA W) (h:An W a p name):∀(f:Nat) (k:Int),Q6 W.groups k=true->dep f (VU W a p name).groups k=dep f W.groups k
 | 0,_,_=>rfl
 | f+1,k,hu=>by
  by_cases hz:k=0
  ·subst hz; rw [ZN,ZN]
  ·have ih:=zcl ha h f _ (Zl ha.tree hu hz).1;simp only [dep];rw [Ko ha h hu,ih]
theorem Cj (ha:WA W) (h:An W a p name):∀(f:Nat) (k:Int),Q6 W.groups k=true->Jh f (VU W a p name).groups k=Jh f W.groups k
 | 0,_,_=>rfl
 | f+1,k,hu=>by
  by_cases hz:k=0
  ·subst hz; rw [Zh,Zh]
  ·have ih:=Cj ha h f _ (Zl ha.tree hu hz).1;simp only [Jh];rw [Ko ha h hu,ih]
theorem zo0 (ha:WA W) (h:An W a p name):dep 3 (VU W a p name).groups a=dep 3 W.groups p+1/\0<=dep 3 W.groups p:=by
 have hr:=Ps ha h.up;have hd:=h.dp;have e:=j8 ha.tree 2 p h.up (by omega);refine ⟨?_,hr.1⟩;show (if a=0 then 0 else if dep 2 (VU W a p name).groups (gi (VU W a p name).groups a).parent<0 then -1 else dep 2 (VU W a p name).groups (gi (VU W a p name).groups a).parent+1)=_;rw [if_neg (by have:=h.a1; omega),PH ha h];show (if dep 2 (VU W a p name).groups p<0 then -1 else dep 2 (VU W a p name).groups p+1)=_;rw [zcl ha h 2 p h.up,e,if_neg (by omega)]
theorem zls (ha:WA W) (h:An W a p name):Z6 (VU W a p name).groups:=by
 have ht:=ha.tree;have hgl:=ha.gl;have a1:=h.a1;have r:=Ko ha h ha.root
 have sp:∀{g:Int},1<=g->g<8->(gi (VU W a p name).groups g).used=true->g=a\/(Q6 W.groups g=true/\gi (VU W a p name).groups g=gi W.groups g):=fun {g} b d hh=>by
  rcases (Lz ha h).1 (Q4.2 ⟨by omega,by rw [Ch ha]; omega,hh⟩) with e | e
  ·exact .inr ⟨e,Ko ha h e⟩
  ·exact .inl e
 refine ⟨Ch ha,by rw [r]; exact ht.ru,by rw [r]; exact ht.rp,by rw [r]; exact ht.rn,fun g b d hh => ?_,fun g b d hh => ?_,fun g b d hh => ?_,fun g k b d e hg hk => ?_⟩
 ·rcases sp b d hh with rfl | ⟨hu,e⟩
  ·rw [PH ha h]; exact h.nm
  ·rw [e] at hh ⊢; exact ht.nm g b d hh
 ·rcases sp b d hh with rfl | ⟨hu,e⟩
  ·rw [PH ha h]; exact (Lz ha h).2 (.inl h.up)
  ·rw [e] at hh ⊢; exact (Lz ha h).2 (.inl (ht.par g b d hh))
 ·rcases sp b d hh with rfl | ⟨hu,e⟩
  ·have:=zo0 ha h; omega
  ·rw [zcl ha h 3 g hu]; exact ht.dp g b d (Q4.1 hu).2.2
 ·rintro ⟨q1,q2⟩;rcases sp (by omega) e hg with hga | ⟨hu,eg⟩
  ·rcases sp b (by omega) hk with hka | ⟨hu2,ek⟩
   ·omega
   ·rw [hga,PH ha h,ek] at q1 q2;exact h.no k b (by omega) (Q4.1 hu2).2.2 ⟨q1,q2⟩
  ·rcases sp b (by omega) hk with hka | ⟨hu2,ek⟩
   ·rw [hka,PH ha h,eg] at q1 q2;exact h.no g (by omega) e (Q4.1 hu).2.2 ⟨q1.symm,q2.symm⟩
   ·rw [eg,ek] at q1 q2;exact ht.uniq g k b d e (Q4.1 hu).2.2 (Q4.1 hu2).2.2 ⟨q1,q2⟩
end
section
variable {W:Q7} {a p:Int} {name:ByteArray}
theorem OZ (ha:WA W) (h:An W a p name) {k c:Int} (hu:Q6 W.groups k=true):Qc (VU W a p name) k c=Qc W k c:=by
 unfold Qc;rw [Ko ha h hu]
theorem zeg (ha:WA W) (h:An W a p name) {c:Int} (c0:0<=c) (c1:c<(W.cpus.length:Int)):Qc (VU W a p name) a c=Nc:=by
 unfold Qc;rw [PH ha h];exact VO _ _ c0 c1
theorem zef (ha:WA W) (h:An W a p name) {k c:Int} (c0:0<=c) (c1:c<(W.cpus.length:Int)) (j:Nat) (hj:j<8):J6 (VU W a p name) k c j=J6 W k c j:=by
 have a1:=h.a1;unfold J6
 by_cases e:a=(j:Int)
 ·rw [<-e,zeg ha h c0 c1,h.fr];show (_&&_&&Nc.on)=_;simp [Nc]
 ·rw [Hv ha h (by omega),if_neg e]
  have:Qc (VU W a p name) (j:Int) c=Qc W (j:Int) c:=by
   unfold Qc;rw [Hv ha h (by omega),if_neg e]
  rw [this]
theorem ziy (ha:WA W) (h:An W a p name) {k c:Int} (c0:0<=c) (c1:c<(W.cpus.length:Int)):QU (VU W a p name) k c=QU W k c:=by
 unfold QU;rw [show Vs (O5 (VU W a p name) k c) (VU W a p name).tasks.length=Vs (O5 W k c) W.tasks.length from rfl,Ch ha,ha.gl];rw [Oj fun j hj=>zef ha h c0 c1 j hj]
theorem Ci (wp:XG W) (h:An W a p name) {c:Int} (j:Nat) (hj:j<20):Z9 W a c j=false:=by
 by_cases hj12:j<12
 ·rw [Uw hj12];unfold O5;rcases wp.t (j:Int) (by omega) (by omega) with hz | ⟨_,hx⟩
  ·have:(gi W.tasks (j:Int)).state=0:=hz.1;rw [this]; rfl
  ·have hg:(gi W.tasks (j:Int)).group≠a:=fun e=>ziz h hx.g e.symm
   rw [show ((gi W.tasks (j:Int)).group==a)=false by simpa using hg];simp
 ·rw [show j=12+(j - 12) by omega,J0];unfold J6
  cases hu:(gi W.groups ((j - 12:Nat):Int)).used with
  | false=>simp
  | true=>
   have hl:=wp.a.gl;have huu:Q6 W.groups ((j - 12:Nat):Int)=true:=Q4.2 ⟨by omega,by omega,hu⟩
   by_cases h1:1<=j - 12
   ·have hpu:=(Zl wp.a.tree huu (by omega)).1;have hg:(gi W.groups ((j - 12:Nat):Int)).parent≠a:=fun e=>ziz h hpu e.symm
    rw [show ((gi W.groups ((j - 12:Nat):Int)).parent==a)=false by simpa using hg];simp
   ·rw [show decide (1<=j - 12)=false from decide_eq_false h1]; simp
theorem Ok {p:Nat->Bool}:∀{n:Nat},(∀j,j<n->p j=false)->Vs p n=false
 | 0,_=>rfl
 | n+1,h=>by simp only [Vs]; rw [Ok fun j hj=>h j (by omega),h n (by omega)]; rfl
theorem zlr (wp:XG W) (h:An W a p name) {c:Int}:QU W a c=false:=by
 have hl:=wp.a.gl;have ht:=wp.a.t;unfold QU;rw [Ok fun j hj=>by have:=Ci wp h (c:=c) j (by omega); rwa [Uw (by omega)] at this,Ok fun j hj=>by have:=Ci wp h (c:=c) (12+j) (by omega); rwa [J0] at this];rfl
theorem Gx {α β:Type} {f g:β->α->β}:∀(l:List α) (s:β),(∀(s:β) (x:α),x∈l->f s x=g s x)->l.foldl f s=l.foldl g s
 | [],_,_=>rfl
 | y::l,s,hl=>by
  rw [List.foldl_cons,List.foldl_cons,hl s y List.mem_cons_self];exact Gx l _ fun s x hx=>hl s x (List.mem_cons_of_mem _ hx)
theorem zn2 (ha:WA W) (h:An W a p name) {k:Int} (hu:Q6 W.groups k=true) (u:Int):T2 (VU W a p name).groups k u=T2 W.groups k u:=by
 have e:QT (VU W a p name).groups k=QT W.groups k:=Cj ha h 3 k hu;unfold T2;rw [e];refine Gx _ _ fun s x hx => ?_
 have hxu:Q6 W.groups x=true:=by
  rcases List.mem_append.1 hx with hx | hx
  ·exact (Yc ha.tree k hu x hx).1
  ·rw [List.mem_singleton.1 hx]; exact ha.root
 rw [Ko ha h hxu]
theorem zj4 {W W':Q7} (e:W'.cpus=W.cpus) {k:Int} (hp:∀u:Int,T2 W'.groups k u=T2 W.groups k u) (m:Int):Qq W' k m=Qq W k m:=by
 unfold Qq;rw [e,hp]
theorem zo1 (ha:WA W) (h:An W a p name) {k:Int} (hu:Q6 W.groups k=true) (m:Int):Qq (VU W a p name) k m=Qq W k m:=zj4 (W:=W) (W':=VU W a p name) rfl (zn2 ha h hu) m
theorem zic (iv:Xn W) (h:An W a p name):Xn (VU W a p name):=by
 have wp:=iv.wp;have ha:=wp.a;have a1:=h.a1;have a8:=h.a8;have hgl:=ha.gl;have hpu:∀{k:Int},Q6 W.groups k=true->k≠0->Q6 W.groups (gi W.groups k).parent=true:=fun hu hz=>(Zl ha.tree hu hz).1
 have hA:WA (VU W a p name):=by
  refine ⟨ha.n1,ha.n2,ha.c1,ha.c2,ha.t,zls ha h,ha.ups,fun k k0 k1 => ?_⟩;unfold HB;rw [Hv ha h k0];split
  ·refine ⟨fun hh=>(by cases hh),fun _=>⟨show (1:Int)<=10 by decide,show (10:Int)<=20 by decide,show TZ 15=true by decide,show (15:Int)≠0 by decide,show XH 0=true by decide,by simp [T1]; rfl,fun _=>⟨rfl,rfl,rfl⟩,fun _=>⟨show TB ⟨0,0,0,[],[]⟩=true by decide,rfl,rfl⟩,fun hh=>absurd rfl hh⟩⟩
  ·have:=ha.grp k k0 k1;exact ⟨this.1,fun hu=>by have:=this.2 hu; exact ⟨this.w1,this.w2,this.m,this.m0,this.s,this.len,this.root,this.none,this.band⟩⟩
 refine ⟨⟨hA,fun t t0 t1 => ?_,fun k c k0 k1 c0 c1 => ?_,fun c c0 c1 => ?_⟩,fun k c hu c0 c1 hb => ?_⟩
 ·rcases wp.t t t0 t1 with hz | ⟨n,hx⟩
  ·exact .inl hz
  ·refine .inr ⟨n,hx.st,(Lz ha h).2 (.inl hx.g),hx.n,hx.m,hx.m0,hx.v,hx.s,hx.u,hx.l1,hx.l2,?_,fun hs => ?_⟩
   ·rw [show (Q8 (VU W a p name) t)=Q8 W t from rfl,zo1 ha h hx.g]; exact hx.c
   ·rw [show (Q8 (VU W a p name) t)=Q8 W t from rfl,OZ ha h hx.g]; exact hx.f hs
 ·by_cases e:a=k
  ·subst e;rw [PH ha h] at c1;have c1:c<(W.cpus.length:Int):=by simpa [T1] using c1
   have es:=zeg ha h c0 c1;refine ⟨by rw [es]; decide,by rw [es]; decide,by rw [es]; decide,by rw [es]; decide,by rw [es]; decide,fun hz=>by omega,fun _ => ?_,fun _ ho => ?_⟩
   ·rw [es,ziy ha h c0 c1,zlr wp h]; rfl
   ·rw [es] at ho; cases ho
  ·have hg:gi (VU W a p name).groups k=gi W.groups k:=by rw [Hv ha h k0,if_neg e]
   rw [hg] at c1
   have hu:Q6 W.groups k=true:=by
    cases hh:(gi W.groups k).used with
    | true=>exact Q4.2 ⟨k0,by omega,hh⟩
    | false=>
     have:=((ha.grp k k0 k1).1 hh).l;omega
   have cl:c<(W.cpus.length:Int):=by rw [<-ha.sl hu]; exact c1
   have hs:=wp.s k c k0 k1 c0 c1;have es:=OZ ha h (c:=c) hu;refine ⟨by rw [es]; exact hs.f,by rw [es]; exact hs.v,by rw [es]; exact hs.s,by rw [es]; exact hs.w1,by rw [es]; exact hs.w2,fun hz=>by rw [es]; exact hs.root hz,fun hz => ?_,fun hz ho => ?_⟩
   ·rw [es,ziy ha h c0 cl,show Uf (VU W a p name) k c=Uf W k c by unfold Uf; rw [hg]];exact hs.on hz
   ·rw [es] at ho;rw [es,hg,OZ ha h (hpu hu hz)];exact hs.st hz ho
 ·have hc:=wp.c c c0 c1;refine ⟨hc.b,hc.i,hc.c1,hc.c2,hc.no,fun h0 => ?_⟩;have h0:0<=(gi W.cpus c).cur:=h0;obtain ⟨y1,y2,y3,y4,y5,y6⟩:=hc.yes h0;have hl:=ha.t
  have hgu:Q6 W.groups (Q8 W (gi W.cpus c).cur).group=true:=by
   have hc2:=hc.c2;rcases wp.t _ h0 (by omega) with hz | ⟨_,hx⟩
   ·unfold ZH at y5;rw [hz.1] at y5;simp at y5
   ·exact hx.g
  have hpt:QT (VU W a p name).groups (Q8 W (gi W.cpus c).cur).group=QT W.groups (Q8 W (gi W.cpus c).cur).group:=Cj ha h 3 _ hgu;refine ⟨y1,y2,y3,y4,?_,?_⟩
  ·unfold ZH TY at y5 ⊢;rw [show (gi (VU W a p name).cpus c).cur=(gi W.cpus c).cur from rfl,show Q8 (VU W a p name) (gi W.cpus c).cur=Q8 W (gi W.cpus c).cur from rfl,hpt];rw [Bool.and_eq_true,List.all_eq_true] at y5 ⊢;exact ⟨y5.1,fun x hx=>by rw [OZ ha h (Yc ha.tree _ hgu x hx).1]; exact y5.2 x hx⟩
  ·unfold PO Pe at y6 ⊢;rw [show (gi (VU W a p name).cpus c).cur=(gi W.cpus c).cur from rfl,show (gi (VU W a p name).cpus c).ran=(gi W.cpus c).ran from rfl,show Q8 (VU W a p name) (gi W.cpus c).cur=Q8 W (gi W.cpus c).cur from rfl,hpt,OZ ha h hgu];rw [Bool.and_eq_true,List.all_eq_true] at y6 ⊢;refine ⟨y6.1,fun x hx => ?_⟩;obtain ⟨xu,xz⟩:=Yc ha.tree _ hgu x hx;rw [OZ ha h xu,Ko ha h xu,OZ ha h (hpu xu xz)];exact y6.2 x hx
 ·have cl:c<(W.cpus.length:Int):=c1
  have hmem:∀j,j<20->Z9 (VU W a p name) k c j=Z9 W k c j:=fun j hj=>by
   by_cases hj12:j<12
   ·rw [Uw hj12,Uw hj12]; rfl
   ·rw [show j=12+(j - 12) by omega,J0,J0,zef ha h c0 cl (j - 12) (by omega)]
  rcases (Lz ha h).1 hu with hk | rfl
  ·have hv:∀j,j<20->Z9 (VU W a p name) k c j=true->Za (VU W a p name) c j=Za W c j:=fun j hj hm=>by
    unfold Za;split
    ·rfl
    ·rename_i hj12;rw [hmem j hj,show j=12+(j - 12) by omega,J0] at hm;unfold J6 at hm;simp only [Bool.and_eq_true] at hm;rw [OZ ha h (Q4.2 ⟨by omega,by omega,hm.1.2.1⟩)]
   have e:QD (Z9 (VU W a p name) k c) (Za (VU W a p name) c) 20=QD (Z9 W k c) (Za W c) 20:=TX hmem hv;have hfl:=iv.fl k c hk c0 cl (by unfold Zw at hb ⊢; rwa [e] at hb);rw [OZ ha h hk];refine Int.le_trans (Int.le_of_eq ?_) hfl;unfold Zw at hb;have hb:=of_decide_eq_true hb;rw [e] at hb;unfold QZ;rw [e,if_neg (by omega),if_neg (by omega)];rcases Z7 (Z9 W k c) (Za W c) 20 with ⟨q,_⟩ | ⟨_,q2,q3,_⟩
   ·omega
   ·have hlt:(QD (Z9 W k c) (Za W c) 20).toNat<20:=by omega
    exact hv _ hlt (by rw [hmem _ hlt]; exact q3)
  ·exfalso
   unfold Zw at hb;have hb:=of_decide_eq_true hb;rcases Z7 (Z9 (VU W k p name) k c) (Za (VU W k p name) c) 20 with ⟨q,_⟩ | ⟨_,q2,q3,_⟩
   ·omega
   ·rw [hmem _ (by omega),Ci wp h _ (by omega)] at q3;cases q3
end
theorem zis {W:Q7} (ha:WA W) {k c d:Int} (hu:Q6 W.groups k=true) (hd:dep 3 W.groups k=d) (d1:1<=d) (c0:0<=c) (c1:c<(W.cpus.length:Int)) :
  WA (setSh W k c (Y7 W k c))/\Ua (setSh W k c (Y7 W k c)) c k/\∀g:Int,Q6 W.groups g=true->g≠k->(gi W.groups k).parent≠g->Ua W c g->Ua (setSh W k c (Y7 W k c)) c g:=by
 have hz:k≠0:=fun e=>by subst e; rw [ZN] at hd; omega
 obtain ⟨u0,u1,_⟩:=Q4.1 hu;have hl:=ha.gl;have hsl:=ha.sl hu;have c1':c<((gi W.groups k).shelves.length:Int):=by omega
 have hpk:(gi W.groups k).parent≠k:=fun e=>by
  obtain ⟨_,_,_,n,e1,e2,_⟩:=Zl ha.tree hu hz;rw [e] at e2; omega
 have e:∀{i j:Int},0<=i->0<=j->Qc (setSh W k c (Y7 W k c)) i j=if k=i/\c=j then Y7 W k c else Qc W i j:=fun hi hj=>XE u0 u1 c0 c1' hi hj
 have hT:=YX (W:=W) (g:=k) (c:=c) (s:=Y7 W k c) u0 u1
 have act:∀g:Int,(gi W.groups k).parent≠g->QU (setSh W k c (Y7 W k c)) g c=QU W g c:=fun g hg=>by
  refine Vr (W:=W) (W':=setSh W k c (Y7 W k c)) rfl hT fun j hj _ _ hp => ?_
  rw [e (by omega) c0,if_neg];rintro ⟨h,_⟩;exact hg (by rw [h]; exact hp)
 refine ⟨ha.setSh u0 (by omega),?_,fun g gu gk hg h => ?_⟩
 ·unfold Ua;rw [e u0 c0,if_pos ⟨rfl,rfl⟩,act k hpk,M9 u0 u1 u0];rfl
 ·unfold Ua;have g0:=(Q4.1 gu).1;rw [e g0 c0,if_neg fun h=>gk h.1.symm,act g hg,M9 u0 u1 g0];exact h
theorem zag {W:Q7} (ha:WA W) {c d:Int} (d1:1<=d) (c0:0<=c) (c1:c<(W.cpus.length:Int)) (hI:∀g:Int,Q6 W.groups g=true->d<dep 3 W.groups g->Ua W c g):∀k:Nat,k<=8->
  WA (ZE W c d k)/\XT W (ZE W c d k)/\∀g:Int,Q6 W.groups g=true->d<dep 3 W.groups g\/dep 3 W.groups g=d/\g<(k:Int)->Ua (ZE W c d k) c g
 | 0,_=>⟨ha,XT.refl _,fun g gu h=>hI g gu (by
   rcases h with h | h
   ·exact h
   ·have:=(Q4.1 gu).1;have:=h.2;omega)⟩
 | k+1,hk=>by
  obtain ⟨a,b,ih⟩:=zag ha d1 c0 c1 hI k (by omega);have hl:=a.gl;have hT:=b.g;simp only [ZE];split
  ·rename_i hc;have hu:Q6 (ZE W c d k).groups (k:Int)=true:=Q4.2 ⟨by omega,by omega,hc.1⟩;obtain ⟨l1,l3,l4⟩:=zis a hu hc.2 d1 c0 (c:=c) (by rw [b.c]; exact c1);refine ⟨l1,b.trans (OF (by omega) (by omega)),fun g gu h => ?_⟩
   by_cases e:g=(k:Int)
   ·subst e; exact l3
   ·have hkz:(k:Int)≠0:=fun e=>by have:=hc.2; rw [e,ZN] at this; omega
    obtain ⟨_,_,_,n,e1,e2,_⟩:=Zl a.tree hu hkz;refine l4 g (by rw [hT.usd]; exact gu) e (fun hp => ?_) (ih g gu ?_)
    ·rw [hp,hT.dep] at e2;have:=hc.2;omega
    ·rcases h with h | h
     ·exact .inl h
     ·exact .inr ⟨h.1,by have:=h.2; omega⟩
  ·rename_i hc;refine ⟨a,b,fun g gu h=>ih g gu ?_⟩;rcases h with h | h
   ·exact .inl h
   ·refine .inr ⟨h.1,?_⟩
    by_cases e:g=(k:Int)
    ·subst e;exact absurd ⟨by rw [hT.u]; exact (Q4.1 gu).2.2,by rw [hT.dep]; exact h.1⟩ hc
    ·have:=h.2;omega
theorem zf5 {W:Q7} (ha:WA W) {c:Int} (c0:0<=c) (c1:c<(W.cpus.length:Int)):WA (QE W c)/\XT W (QE W c)/\∀g:Int,Q6 W.groups g=true->g≠0->Ua (QE W c) c g:=by
 have key:∀j:Nat,j<=3->WA (Xa W c j)/\XT W (Xa W c j)/\∀g:Int,Q6 W.groups g=true->3 - (j:Int)<dep 3 W.groups g->Ua (Xa W c j) c g:=by
  intro j
  induction j with
  | zero=>exact fun _=>⟨ha,XT.refl _,fun g gu h=>by have:=(Ps ha gu).2; omega⟩
  | succ j ih=>
   intro hj;obtain ⟨a,b,h⟩:=ih (by omega);have hT:=b.g;obtain ⟨a2,b2,h2⟩:=zag a (c:=c) (d:=3 - (j:Int)) (by omega) c0 (by rw [b.c]; exact c1) (fun g gu hd=>h g (by rwa [hT.usd] at gu) (by rwa [hT.dep] at hd)) 8 (Nat.le_refl _);refine ⟨a2,b.trans b2,fun g gu hd=>h2 g (by rw [hT.usd]; exact gu) ?_⟩;rw [hT.dep];have:=(Q4.1 gu).2.1;have:=ha.gl
   by_cases e:dep 3 W.groups g=3 - (j:Int)
   ·exact .inr ⟨e,by omega⟩
   ·exact .inl (by omega)
 obtain ⟨a,b,h⟩:=key 3 (Nat.le_refl _);refine ⟨a,b,fun g gu gz=>h g gu ?_⟩;obtain ⟨_,_,_,n,e1,_⟩:=Zl ha.tree gu gz;omega
theorem NY {W:Q7} (ha:WA W) {c d:Int} (d1:1<=d) (c0:0<=c) (c1:c<(W.cpus.length:Int)):∀k:Nat,k<=8->LZ c W (ZE W c d k)/\WA (ZE W c d k)
 | 0,_=>⟨LZ.refl _ _,ha⟩
 | k+1,hk=>by
  obtain ⟨o,a⟩:=NY ha d1 c0 c1 k (by omega);have hl:=a.gl;simp only [ZE];split
  ·rename_i hc;have hu:Q6 (ZE W c d k).groups (k:Int)=true:=Q4.2 ⟨by omega,by omega,hc.1⟩;exact ⟨o.trans (GS (by omega) (by omega) c0 (by rw [a.sl hu,o.len]; exact c1)),a.setSh (by omega) (by omega)⟩
  ·exact ⟨o,a⟩
theorem zco {W:Q7} (ha:WA W) {c:Int} (c0:0<=c) (c1:c<(W.cpus.length:Int)):LZ c W (QE W c):=by
 have key:∀j:Nat,j<=3->LZ c W (Xa W c j)/\WA (Xa W c j):=by
  intro j
  induction j with
  | zero=>exact fun _=>⟨LZ.refl _ _,ha⟩
  | succ j ih=>
   intro hj;obtain ⟨o,a⟩:=ih (by omega);obtain ⟨o2,a2⟩:=NY a (c:=c) (d:=3 - (j:Int)) (by omega) c0 (by rw [o.len]; exact c1) 8 (Nat.le_refl _);exact ⟨o.trans o2,a2⟩
 exact (key 3 (Nat.le_refl _)).1
structure Dm (W:Q7) (c:Int):Prop where
 on:∀k:Int,Q6 W.groups k=true->k≠0->Ua W c k
 cu:0<=(gi W.cpus c).cur->(Q8 W (gi W.cpus c).cur).cpu=c/\ZH W (gi W.cpus c).cur=true
theorem zot {W:Q7} (wp:XG W) {c:Int} (c0:0<=c) (c1:c<(W.cpus.length:Int)):Dm W c:=
 ⟨fun k hu hz=>(Kw wp hu c0 c1).on hz,fun h=>⟨((wp.c c c0 c1).yes h).2.2.2.1,((wp.c c c0 c1).yes h).2.2.2.2.1⟩⟩
theorem Dm.oth {K:Int} {c d:Int} {W W':Q7} (h:Dm W d) (sw:SW K W) (o:LZ c W W') (d0:0<=d) (d1:d<(W.cpus.length:Int)) (hd:d≠c):Dm W' d:=by
 refine ⟨fun k hu hz => ?_,fun h0 => ?_⟩
 ·rw [o.g.usd] at hu;have k0:=(Q4.1 hu).1;have:=h.on k hu hz;unfold Ua at this ⊢;rw [o.e k d k0 d0 hd,o.active d0 hd,AO (o.b k k0)];exact this
 ·rw [o.cp d d0 hd] at h0 ⊢;rw [Xf o.t];obtain ⟨h1,h2⟩:=h.cu h0;refine ⟨h1,?_⟩
  have hs:(Q8 W (gi W.cpus d).cur).state=1:=by
   unfold ZH at h2;rw [Bool.and_eq_true] at h2;exact eq_of_beq h2.1
  have hu:=(sw.t _ h0 (sw.cu d d0 d1).2 (by rw [hs]; decide)).1;rw [o.line sw.a.tree hu (by rw [h1]; exact d0) (by rw [h1]; exact hd)];exact h2
theorem zbe {K:Int} {W:Q7} (sw:SW K W) {c:Int} (c0:0<=c) (c1:c<(W.cpus.length:Int)):LZ c W (UA W c)/\Dm (UA W c) c:=by
 obtain ⟨p1,os,hon⟩:=zf5 sw.a c0 c1;have ol:=zco sw.a c0 c1;obtain ⟨f,hA,_⟩:=Gv p1 c0 (c:=c) (by rw [os.c]; exact c1) 8 (Nat.le_refl _);have f:FC c (QE W c) (Zf (QE W c) c):=f;have hon:∀g:Int,Q6 (QE W c).groups g=true->g≠0->Ua (QE W c) c g:=fun g gu gz=>hon g (by rwa [os.g.usd] at gu) gz
 have hdef:UA W c=if P6 (Zf (QE W c) c) c=true then endW (Zf (QE W c) c) c else Zf (QE W c) c:=rfl;have hO:LZ c W (Zf (QE W c) c):=ol.trans f.o;have hFc:(Zf (QE W c) c).cpus.length=W.cpus.length:=hO.len;have hT:=f.o.g
 have honF:∀k:Int,Q6 (Zf (QE W c) c).groups k=true->k≠0->Ua (Zf (QE W c) c) c k:=fun k hu hz=>by
  rw [hT.usd] at hu;have k0:=(Q4.1 hu).1;have:=hon k hu hz;unfold Ua at this ⊢;rw [f.on k c k0 c0,Vr f.o.t hT fun j _ _ _ _=>f.on _ c (by omega) c0,AO (f.o.b k k0)];exact this
 rw [hdef];clear hdef;generalize Zf (QE W c) c=F at honF hO hFc;have cF:c<(F.cpus.length:Int):=by rw [hFc]; exact c1
 split
 ·refine ⟨hO.trans (zan c0 cF),honF,fun h0 => ?_⟩;rw [show gi (endW F c).cpus c=X0 (gi F.cpus c) from (Qt _ _ c0 cF c0).trans (if_pos rfl)] at h0;have h0:(0:Int)<=-1:=h0;omega
 ·rename_i hg;have hg:P6 F c=false:=by simpa using hg
  refine ⟨hO,honF,fun h0 => ?_⟩;unfold P6 at hg;rw [decide_eq_true h0,Bool.true_and,Bool.or_eq_false_iff] at hg;exact ⟨by simpa using hg.1,by simpa using hg.2⟩
theorem zbc {K:Int} {W:Q7} (sw:SW K W) (hK:0<=K):∀c:Nat,c<=W.cpus.length->∀d:Int,0<=d->d<(c:Int)->Dm (J5 W c) d
 | 0,_=>fun d a b=>by omega
 | c+1,hc=>fun d d0 d1=>by
  obtain ⟨s1,f1⟩:=PP sw hK c (by omega);obtain ⟨o,dm⟩:=zbe s1 (c:=(c:Int)) (by omega) (by rw [f1.c]; omega)
  by_cases h:d=(c:Int)
  ·subst h; exact dm
  ·exact (zbc sw hK c (by omega) d d0 (by omega)).oth s1 o d0 (by rw [f1.c]; omega) h
theorem zgq {K:Int} {W:Q7} (sw:SW K W) (hK:0<=K) {d:Int} (d0:0<=d) (d1:d<(W.cpus.length:Int)):Dm (Qg W) d:=by
 obtain ⟨s1,o1⟩:=T5 (F:=K) (K:=K+Qj) (sw.sf.mono (Int.le_refl _) (by simp only [Qj]; omega)) (Int.le_refl _) W.cpus.length (Nat.le_refl _);obtain ⟨s2,b2⟩:=Vy s1 8 (Nat.le_refl _);exact zbc s2.w (by simp only [Qj]; omega) W.cpus.length (by show W.cpus.length<=(Yv (Ys W W.cpus.length) 8).cpus.length; rw [b2.c,o1.c]; exact Nat.le_refl _) d d0 d1
structure zdl (W:Q7) (t c:Int):Prop where
 t0:0<=t
 t1:t<12
 st:(Q8 W t).state=1
 cpu:(Q8 W t).cpu=c
 on:∀x∈QT W.groups (Q8 W t).group,(Qc W x c).on=true
theorem zgc {W:Q7} (ha:WA W) {c:Int} (f:Nat):∀g:Int,Q6 W.groups g=true->(4 - dep 3 W.groups g).toNat=f->(∀x∈QT W.groups g,(Qc W x c).on=true)->0<=OD W g c->zdl W (OD W g c) c:=by
 induction f with
 | zero=>
  intro g hu hf;have:=Ps ha hu;omega
 | succ f ih=>
  intro g hu hf hp h;rw [GQ ha hu] at h ⊢
  by_cases h1:Qz W g c<0
  ·rw [if_pos h1] at h; omega
  ·rw [if_neg h1] at h ⊢
   by_cases h2:Qz W g c<12
   ·rw [if_pos h2] at h ⊢
    have hm:Z9 W g c (Qz W g c).toNat=true:=by
     rcases Z7 (Z9 W g c) (Za W c) 20 with ⟨a,_⟩ | ⟨_,_,a,_⟩
     ·unfold Qz at h1; omega
     ·exact a
    rw [Uw (by omega)] at hm;unfold O5 at hm;rw [show (((Qz W g c).toNat:Nat):Int)=Qz W g c by omega] at hm;simp only [Bool.and_eq_true,beq_iff_eq] at hm;refine ⟨h,h2,hm.1.1,hm.2,?_⟩;rw [show (Q8 W (Qz W g c)).group=g from hm.1.2];exact hp
   ·rw [if_neg h2] at h ⊢;obtain ⟨k1,k2,k3,k4⟩:=Mb ha hu (g:=g) (c:=c) (by omega)
    have hm:Z9 W g c (Qz W g c).toNat=true:=by
     rcases Z7 (Z9 W g c) (Za W c) 20 with ⟨a,_⟩ | ⟨_,_,a,_⟩
     ·unfold Qz at h1; omega
     ·exact a
    rw [show (Qz W g c).toNat=12+(Qz W g c - 12).toNat by omega,J0] at hm;unfold J6 at hm;rw [show (((Qz W g c - 12).toNat:Nat):Int)=Qz W g c - 12 by omega] at hm;simp only [Bool.and_eq_true,beq_iff_eq] at hm;refine ih _ k1 (by omega) (fun x hx => ?_) h;rw [YN ha.tree k1 k2] at hx;rcases List.mem_cons.1 hx with e | e
    ·rw [e]; exact hm.2
    ·rw [hm.1.2.2] at e; exact hp x e
theorem zgk {W:Q7} (ha:WA W) {c:Int} (h12:(gi W.cpus c).cur<12) (hcu:0<=(gi W.cpus c).cur->(Q8 W (gi W.cpus c).cur).cpu=c/\ZH W (gi W.cpus c).cur=true) (h:¬Qk W c<0):zdl W (Qk W c) c:=by
 unfold Qk at h ⊢;split
 ·rename_i hc;obtain ⟨h1,h2⟩:=hcu hc.1;unfold ZH TY at h2;rw [Bool.and_eq_true,List.all_eq_true,h1] at h2;exact ⟨hc.1,h12,eq_of_beq h2.1,h1,h2.2⟩
 ·rename_i hc;rw [if_neg hc] at h;exact zgc ha _ 0 ha.root rfl (fun x hx=>by rw [show QT W.groups 0=[] from Zh _ _] at hx; cases hx) (by omega)
structure UG (W W':Q7):Prop where
 n:W'.now=W.now
 t:W'.tasks=W.tasks
 s:∀i d:Int,(Qc W' i d).sum=(Qc W i d).sum
 g:∀i:Int,(gi W'.groups i).sum=(gi W.groups i).sum
 b:∀i:Int,(gi W'.cpus i).busy=(gi W.cpus i).busy
 i:∀i:Int,(gi W'.cpus i).idle=(gi W.cpus i).idle
 u:∀i:Int,(gi W'.cpus i).up=(gi W.cpus i).up
 r:∀i:Int,(gi W'.cpus i).ran=(gi W.cpus i).ran\/(gi W'.cpus i).ran=0
theorem UG.refl (W:Q7):UG W W:=⟨rfl,rfl,fun _ _=>rfl,fun _=>rfl,fun _=>rfl,fun _=>rfl,fun _=>rfl,fun _=>.inl rfl⟩
theorem UG.trans {A B C:Q7} (h:UG A B) (k:UG B C):UG A C:=
 ⟨k.n.trans h.n,k.t.trans h.t,fun i d=>(k.s i d).trans (h.s i d),fun i=>(k.g i).trans (h.g i),fun i=>(k.b i).trans (h.b i),fun i=>(k.i i).trans (h.i i),fun i=>(k.u i).trans (h.u i),fun i=>by
  rcases k.r i with e | e
  ·rcases h.r i with e2 | e2
   ·exact .inl (e.trans e2)
   ·exact .inr (e.trans e2)
  ·exact .inr e⟩
theorem zjt (W:Q7) {g c:Int} {s:Pi} (h:s.sum=(Qc W g c).sum):UG W (setSh W g c s):=
 ⟨rfl,rfl,fun i d=>Yh (f:=fun G:Z0=>(gi G.shelves d).sum) W.groups g (x:={ gi W.groups g with shelves:=(gi W.groups g).shelves.set c.toNat s }) (Yh (f:=Pi.sum) (gi W.groups g).shelves c h d) i,fun i=>Yh (f:=Z0.sum) W.groups g (x:={ gi W.groups g with shelves:=(gi W.groups g).shelves.set c.toNat s }) rfl i,fun _=>rfl,fun _=>rfl,fun _=>rfl,fun _=>.inl rfl⟩
theorem zjs (W:Q7) (g:Int) (b:XS):UG W (setBd W g b):=
 ⟨rfl,rfl,fun i d=>Yh (f:=fun G:Z0=>(gi G.shelves d).sum) W.groups g (x:={ gi W.groups g with band:=b }) rfl i,fun i=>Yh (f:=Z0.sum) W.groups g (x:={ gi W.groups g with band:=b }) rfl i,fun _=>rfl,fun _=>rfl,fun _=>rfl,fun _=>.inl rfl⟩
theorem zft {α:Type} [Inhabited α] (l:List α) (k:Int) (x:α) (i:Int):gi (l.set k.toNat x) i=gi l i\/gi (l.set k.toNat x) i=x:=by
 unfold gi;simp only [List.getD_eq_getElem?_getD,List.getElem?_set];split
 ·split
  ·exact .inr rfl
  ·rename_i e hl;refine .inl ?_;rw [show l[i.toNat]? = none from List.getElem?_eq_none_iff.2 (by omega)]
 ·exact .inl rfl
theorem ze4 (W:Q7) (c:Int):UG W (endW W c):=
 ⟨rfl,rfl,fun _ _=>rfl,fun _=>rfl,fun i=>Yh (f:=TQ.busy) W.cpus c (x:=X0 (gi W.cpus c)) rfl i,fun i=>Yh (f:=TQ.idle) W.cpus c (x:=X0 (gi W.cpus c)) rfl i,fun i=>Yh (f:=TQ.up) W.cpus c (x:=X0 (gi W.cpus c)) rfl i,fun i=>by
  rcases zft W.cpus c (X0 (gi W.cpus c)) i with e | e
  ·exact .inl (by show (gi (W.cpus.set c.toNat (X0 (gi W.cpus c))) i).ran=_; rw [e])
  ·exact .inr (by show (gi (W.cpus.set c.toNat (X0 (gi W.cpus c))) i).ran=0; rw [e]; rfl)⟩
theorem Hh (W:Q7) (c d:Int):∀k:Nat,UG W (ZE W c d k)
 | 0=>UG.refl _
 | k+1=>by
  simp only [ZE];split
  ·exact (Hh W c d k).trans (zjt _ rfl)
  ·exact Hh W c d k
theorem KB (W:Q7) (c:Int):∀j:Nat,UG W (Xa W c j)
 | 0=>UG.refl _
 | j+1=>(KB W c j).trans (Hh _ _ _ _)
theorem B9 (W:Q7):∀c:Nat,UG W (Ys W c)
 | 0=>UG.refl _
 | c+1=>(B9 W c).trans (KB (Ys W c) (c:Int) 3)
theorem Hf (W:Q7) (k:Int):∀c:Nat,UG W (Yi W k c)
 | 0=>UG.refl _
 | c+1=>by
  simp only [Yi];split
  ·exact (Hf W k c).trans (zjs _ _ _)
  ·exact Hf W k c
theorem Hg (W:Q7):∀k:Nat,UG W (Yv W k)
 | 0=>UG.refl _
 | k+1=>by
  simp only [Yv];split
  ·exact (Hg W k).trans (Hf _ _ _)
  ·exact Hg W k
theorem KA (W:Q7) (c:Int):∀k:Nat,UG W (QR W c k)
 | 0=>UG.refl _
 | k+1=>by
  simp only [QR];split
  ·exact (KA W c k).trans (zjt _ rfl)
  ·exact KA W c k
theorem zgv (W:Q7) (c:Int):UG W (UA W c):=by
 have h:=(KB W c 3).trans (KA (QE W c) c 8);unfold UA;split
 ·exact h.trans (ze4 _ _)
 ·exact h
theorem Ag (W:Q7):∀c:Nat,UG W (J5 W c)
 | 0=>UG.refl _
 | c+1=>(Ag W c).trans (zgv (J5 W c) (c:Int))
theorem zdb (W:Q7):UG W (Qg W):=((B9 W W.cpus.length).trans (Hg (Ys W W.cpus.length) 8)).trans (Ag (MN (Ys W W.cpus.length)) W.cpus.length)
structure RB (S:Int) (W:Q7):Prop where
 n:W.now<=50000000000000000
 t:∀t:Int,0<=t->t<12->0<=(Q8 W t).sum/\(Q8 W t).sum<=S/\0<=(Q8 W t).used/\(Q8 W t).used<=S
 s:∀k c:Int,Q6 W.groups k=true->0<=c->c<(W.cpus.length:Int)->0<=(Qc W k c).sum/\(Qc W k c).sum<=S
 g:∀k:Int,Q6 W.groups k=true->0<=(gi W.groups k).sum/\(gi W.groups k).sum<=S
 c:∀c:Int,0<=c->c<(W.cpus.length:Int)->0<=(gi W.cpus c).busy/\(gi W.cpus c).busy<=S/\0<=(gi W.cpus c).idle/\(gi W.cpus c).idle<=50000000000000000/\0<=(gi W.cpus c).ran/\(gi W.cpus c).ran<=149
theorem RB.sum {S:Int} {W W':Q7} (h:RB S W) (k:UG W W') (hT:QM W.groups W'.groups) (hl:W'.cpus.length=W.cpus.length):RB S W':=by
 refine ⟨by rw [k.n]; exact h.n,fun t a b=>by rw [Xf k.t]; exact h.t t a b,fun i c u a b => ?_,fun i u => ?_,fun c a b => ?_⟩
 ·rw [hT.usd] at u;rw [hl] at b;rw [k.s]; exact h.s i c u a b
 ·rw [hT.usd] at u;rw [k.g]; exact h.g i u
 ·rw [hl] at b;have:=h.c c a b;rw [k.b,k.i];refine ⟨this.1,this.2.1,this.2.2.1,this.2.2.2.1,?_⟩;rcases k.r c with e | e
  ·rw [e]; exact this.2.2.2.2
  ·rw [e]; exact ⟨by omega,by omega⟩
theorem zo8 {W:Q7} (wp:XG W) (r:MF W):RB Ql W:=by
 have hl:=wp.a.gl;have ht:=wp.a.t;refine ⟨r.n,fun t a b => ?_,fun k c u a b => ?_,fun k u => ?_,fun c a b => ?_⟩
 ·have h:=r.t t a (by omega);rcases wp.t t a b with hz | ⟨_,hx⟩
  ·rw [hz.2]; decide
  ·exact ⟨(ZR.1 hx.s).1,h.2.1,(ZR.1 hx.u).1,h.2.2⟩
 ·obtain ⟨u0,u1,_⟩:=Q4.1 u;have hs:=wp.a.sl u;exact ⟨(ZR.1 (Kw wp u a b).s).1,(r.s k c u0 u1 a (by omega)).2.2⟩
 ·obtain ⟨u0,u1,hg⟩:=wp.a.u u;exact ⟨(ZR.1 hg.s).1,r.g k u0 (by omega)⟩
 ·have hc:=wp.c c a b;have hr:=r.c c a b;refine ⟨(ZR.1 hc.b).1,hr.1,(ZR.1 hc.i).1,hr.2,?_⟩
  by_cases h:(gi W.cpus c).cur<0
  ·rw [hc.no h]; decide
  ·have:=hc.yes (by omega); omega
theorem zbg {b:XS} (h:VF b) {c:Int} (c0:0<=c) (c1:c<(b.locals.length:Int)):VF (Yk b c).1/\(Yk b c).1.locals.length=b.locals.length/\(Yk b c).1.quota=b.quota:=by
 unfold Yk;split
 ·exact ⟨h,rfl,rfl⟩
 ·rename_i hn;have hm:=Cg h.p1;have he:=h.each c c0 c1;have hs:=PR b.locals c (ZL 20 b.pool) c0 c1 b.locals.length;rw [if_pos c1] at hs;have p2:=h.p2;have su:=h.sum;have dl:=h.dl;refine ⟨⟨h.q1,h.q2,?_,?_,?_,?_,?_,h.s1,h.s2,fun d d0 d1 => ?_,?_⟩,by simp,rfl⟩
  ·simp only [List.length_set]; exact h.l1
  ·simp only [List.length_set]; exact h.l2
  ·simp only [List.length_set]; exact h.dl
  ·show 0<=b.pool - ZL 20 b.pool; omega
  ·show b.pool - ZL 20 b.pool<=b.quota; omega
  ·simp only [List.length_set] at d1;have hd:=h.each d d0 d1;show 0<=gi (b.locals.set c.toNat (ZL 20 b.pool)) d/\gi (b.locals.set c.toNat (ZL 20 b.pool)) d<=b.quota/\(gi (b.dry.set c.toNat (ZL 20 b.pool==0)) d=true->gi (b.locals.set c.toNat (ZL 20 b.pool)) d=0/\b.pool - ZL 20 b.pool=0);rw [Qt _ _ c0 c1 d0,Qt _ _ c0 (by omega) d0];have hz:ZL 20 b.pool=0->b.pool=0:=fun e=>by unfold ZL at e; split at e <;> omega
   by_cases e:c=d
   ·subst e;rw [if_pos rfl,if_pos rfl];refine ⟨hm.1,by omega,fun hd0 => ?_⟩;have e0:ZL 20 b.pool=0:=eq_of_beq hd0;have:=hz e0;exact ⟨e0,by omega⟩
   ·rw [if_neg e,if_neg e];refine ⟨hd.1,hd.2.1,fun hd0 => ?_⟩;have:=hd.2.2 hd0;exact ⟨this.1,by omega⟩
  ·show b.pool - ZL 20 b.pool+b.spent+TH (b.locals.set c.toNat (ZL 20 b.pool)) (b.locals.set c.toNat (ZL 20 b.pool)).length=b.quota;rw [List.length_set,hs];omega
theorem Ad {b:XS} (h:VF b) {c n:Int} (c0:0<=c) (c1:c<(b.locals.length:Int)):VF (Vh b c n).1/\(Vh b c n).1.locals.length=b.locals.length/\(Vh b c n).1.quota=b.quota:=by
 unfold Vh;split
 ·exact ⟨h,rfl,rfl⟩
 ·rename_i hn;have hs:=PR b.locals c (gi b.locals c - n) c0 c1 b.locals.length;rw [if_pos c1] at hs;have hnn:=(CG (fun d d0 d1=>(h.each d d0 d1).1) c0 b.locals.length (Nat.le_refl _)).2 c1;have p1:=h.p1;have su:=h.sum;have s1:=h.s1;have dl:=h.dl;have hn1:¬n<1:=fun e=>hn (.inl e)
  have hn2:¬n>gi b.locals c:=fun e=>hn (.inr e)
  refine ⟨⟨h.q1,h.q2,?_,?_,?_,h.p1,h.p2,?_,?_,fun d d0 d1 => ?_,?_⟩,by simp,rfl⟩
  ·simp only [List.length_set]; exact h.l1
  ·simp only [List.length_set]; exact h.l2
  ·simp only [List.length_set]; exact h.dl
  ·show 0<=b.spent+n; omega
  ·show b.spent+n<=b.quota; omega
  ·simp only [List.length_set] at d1;have hd:=h.each d d0 d1;show 0<=gi (b.locals.set c.toNat (gi b.locals c - n)) d/\gi (b.locals.set c.toNat (gi b.locals c - n)) d<=b.quota/\(gi b.dry d=true->gi (b.locals.set c.toNat (gi b.locals c - n)) d=0/\b.pool=0);rw [Qt _ _ c0 c1 d0]
   by_cases e:c=d
   ·subst e;rw [if_pos rfl];exact ⟨by omega,by omega,fun hd0=>by have:=(hd.2.2 hd0).1; omega⟩
   ·rw [if_neg e];exact hd
  ·show b.pool+(b.spent+n)+TH (b.locals.set c.toNat (gi b.locals c - n)) (b.locals.set c.toNat (gi b.locals c - n)).length=b.quota;rw [List.length_set,hs];omega
def BZ (b:XS) (c:Int):Nat->Nat
 | 0=>0
 | d+1=>BZ b c d+if (d:Int)≠c/\gi b.locals (d:Int)>0 then 1 else 0
def zdf (b:XS) (c:Int):Nat:=if gi b.dry c=true then 0 else 1
def Xd (b:XS) (c:Int):Nat:=9*BZ b c 4+zdf b c
theorem zd6 (b:XS) (c:Int):∀n:Nat,BZ b c n<=n
 | 0=>Nat.le_refl _
 | n+1=>by
  have:=zd6 b c n;simp only [BZ]
  split <;> omega
theorem zl0 (b:XS) (c:Int):Xd b c<=37:=by
 have:=zd6 b c 4;unfold Xd zdf
 split <;> omega
def Nw (W:Q7) (c:Int):Nat->Nat
 | 0=>0
 | k+1=>Nw W c k+Xd (gi W.groups (k:Int)).band c
def Pm (W:Q7) (c:Int):Nat:=Nw W c 8
theorem Mi {W W':Q7} {c:Int} (h:∀k:Nat,k<8->Xd (gi W'.groups (k:Int)).band c<=Xd (gi W.groups (k:Int)).band c):∀k:Nat,k<=8->Nw W' c k<=Nw W c k
 | 0,_=>Nat.le_refl _
 | k+1,hk=>by
  have:=Mi h k (by omega);have:=h k (by omega);simp only [Nw];omega
theorem zep {W W':Q7} {c:Int} (h:∀k:Nat,k<8->Xd (gi W'.groups (k:Int)).band c<=Xd (gi W.groups (k:Int)).band c) {j:Nat} (hj:Xd (gi W'.groups (j:Int)).band c<Xd (gi W.groups (j:Int)).band c):∀k:Nat,j<k->k<=8->Nw W' c k<Nw W c k
 | 0,h0,_=>absurd h0 (Nat.not_lt_zero j)
 | k+1,hjk,hk=>by
  have h1:=Mi h k (by omega);have h2:=h k (by omega);simp only [Nw]
  by_cases e:j=k
  ·subst e; omega
  ·have:=zep h hj k (by omega) (by omega);omega
theorem zl2 (W:Q7) (c:Int):Pm W c<=296:=by
 have key:∀k:Nat,Nw W c k<=37*k:=by
  intro k
  induction k with
  | zero=>exact Nat.le_refl _
  | succ k ih=>
   have:=zl0 (gi W.groups (k:Int)).band c;simp only [Nw];omega
 exact key 8
theorem Md {b b':XS} {c:Int} (h:∀d:Nat,(d:Int)≠c->gi b'.locals (d:Int)=gi b.locals (d:Int)):∀n:Nat,BZ b' c n=BZ b c n
 | 0=>rfl
 | n+1=>by
  simp only [BZ];rw [Md h n]
  by_cases e:(n:Int)=c
  ·simp [e]
  ·rw [h n e]
theorem z8 {b b':XS} {c:Int} {e:Nat} (he:(e:Int)≠c) (h0:gi b'.locals (e:Int)=0) (h1:gi b.locals (e:Int)>0) (h:∀d:Nat,d≠e->gi b'.locals (d:Int)=gi b.locals (d:Int)):∀n:Nat,BZ b' c n+(if e<n then 1 else 0)=BZ b c n
 | 0=>rfl
 | n+1=>by
  have ih:=z8 he h0 h1 h n;simp only [BZ]
  by_cases hn:n=e
  ·subst hn;rw [if_neg (Nat.lt_irrefl n)] at ih;rw [if_pos (Nat.lt_succ_self n),if_neg (by rintro ⟨_,h⟩; omega),if_pos ⟨he,h1⟩];omega
  ·rw [h n hn];generalize (if (n:Int)≠c/\gi b.locals (n:Int)>0 then 1 else 0)=y
   by_cases hlt:e<n
   ·rw [if_pos hlt] at ih;rw [if_pos (by omega)];omega
   ·rw [if_neg hlt] at ih;rw [if_neg (by omega)];omega
theorem zjb {b:XS} (h:VF b) {c:Int} {e:Nat} (e1:(e:Int)<(b.locals.length:Int)) (hp:gi b.locals (e:Int)>0):Xd (Y6 b (e:Int)) c<=Xd b c:=by
 have hl:=h.l2
 have hset:∀d:Nat,gi (Y6 b (e:Int)).locals (d:Int)=if e=d then 0 else gi b.locals (d:Int):=fun d=>by
  show gi (b.locals.set (e:Int).toNat 0) (d:Int)=_;rw [Qt _ _ (by omega) e1 (by omega)]
  by_cases h:e=d
  ·subst h; simp
  ·rw [if_neg h,if_neg (by omega)]
 unfold Xd
 by_cases hc:(e:Int)=c
 ·have h1:=Md (b:=b) (b':=Y6 b (e:Int)) (c:=c) (fun d hd=>by rw [hset d,if_neg (fun h=>hd (by rw [<-h]; exact hc))]) 4
  have hw:gi b.dry c=false:=by
   cases hd:gi b.dry c with
   | false=>rfl
   | true=>
    have:=((h.each c (by omega) (by omega)).2.2 hd).1;rw [<-hc] at this; omega
  rw [h1];unfold zdf;rw [hw]
  split <;> simp
 ·have h1:=z8 (b:=b) (b':=Y6 b (e:Int)) (c:=c) hc (by rw [hset e,if_pos rfl]) hp (fun d hd=>by rw [hset d,if_neg (fun h=>hd h.symm)]) 4;rw [if_pos (by omega)] at h1;have:zdf (Y6 b (e:Int)) c<=1:=by unfold zdf; split <;> omega
  omega
theorem zjc {b:XS} {c:Int} (c0:0<=c) (c1:c<(b.locals.length:Int)) (hdl:b.dry.length=b.locals.length) (hw:gi b.dry c=false):Xd (Yk b c).1 c<=Xd b c/\((Yk b c).2=2->Xd (Yk b c).1 c<Xd b c)/\((Yk b c).2≠2->gi (Yk b c).1.dry c=false):=by
 unfold Yk;split
 ·exact ⟨Nat.le_refl _,fun h=>(by cases h),fun _=>hw⟩
 ·have h1:=Md (b:=b) (b':=⟨b.quota,b.pool - ZL 20 b.pool,b.spent,b.locals.set c.toNat (ZL 20 b.pool),b.dry.set c.toNat (ZL 20 b.pool==0)⟩) (c:=c) (fun d hd=>by
   show gi (b.locals.set c.toNat (ZL 20 b.pool)) (d:Int)=_;rw [Qt _ _ c0 c1 (by omega),if_neg fun h=>hd h.symm]) 4
  have hd:gi (b.dry.set c.toNat (ZL 20 b.pool==0)) c=(ZL 20 b.pool==0):=by rw [Qt _ _ c0 (by omega) c0,if_pos rfl]
  unfold Xd;rw [h1];unfold zdf;rw [hw];simp only [hd]
  by_cases hm:ZL 20 b.pool=0
  ·rw [if_pos (show (ZL 20 b.pool==0)=true by rw [hm]; rfl),if_neg (by decide)];exact ⟨by omega,fun _=>by omega,fun h=>absurd (if_pos hm) h⟩
  ·have hb:(ZL 20 b.pool==0)=false:=by simpa using hm
   rw [hb];exact ⟨Nat.le_refl _,fun h=>(by rw [if_neg hm] at h; cases h),fun _=>rfl⟩
theorem zgj {b:XS} {c n:Int} (c0:0<=c) (c1:c<(b.locals.length:Int)):Xd (Vh b c n).1 c=Xd b c:=by
 unfold Vh;split
 ·rfl
 ·unfold Xd zdf
  rw [Md (b:=b) (c:=c) (fun d hd=>by
   show gi (b.locals.set c.toNat (gi b.locals c - n)) (d:Int)=_;rw [Qt _ _ c0 c1 (by omega),if_neg fun h=>hd h.symm]) 4]
theorem NZ {F K:Int} {W:Q7} (h:SF F K W) {k:Int} (hu:Q6 W.groups k=true) (hq:(gi W.groups k).band.quota≠0) (c:Int):∀d:Nat,d<=W.cpus.length->(∀j:Int,0<=j->Xd (gi (Yi W k d).groups j).band c<=Xd (gi W.groups j).band c)
 | 0,_=>fun _ _=>Nat.le_refl _
 | d+1,hd=>by
  have ih:=NZ h hu hq c d (by omega);obtain ⟨a,b,q⟩:=Lj h hu hq d (by omega);simp only [Yi];split
  ·rename_i hc;have hu':Q6 (Yi W k d).groups k=true:=by rw [b.g.usd]; exact hu
   obtain ⟨u0,u1,hg⟩:=a.w.a.u hu';have hb:=hg.band q;have hl:=a.w.a.gl;intro j hj;show Xd (gi (setGr _ k _).groups j).band c<=_;rw [Y4 u0 (by omega) hj];split
   ·rename_i e;subst e;exact Nat.le_trans (zjb hb.1 (by rw [hb.2.1,b.c]; omega) hc.1) (ih k hj)
   ·exact ih j hj
  ·exact ih
theorem A0 {F K:Int} {W:Q7} (h:SF F K W) (c:Int):∀k:Nat,k<=8->∀j:Int,0<=j->Xd (gi (Yv W k).groups j).band c<=Xd (gi W.groups j).band c
 | 0,_=>fun _ _=>Nat.le_refl _
 | k+1,hk=>by
  have ih:=A0 h c k (by omega);obtain ⟨a,b⟩:=Vy h k (by omega);have hl:=a.w.a.gl;simp only [Yv];split
  ·rename_i hc;exact fun j hj=>Nat.le_trans (NZ a (Q4.2 ⟨by omega,by omega,hc.1⟩) hc.2 c _ (Nat.le_refl _) j hj) (ih j hj)
  ·exact ih
theorem zfg {K:Int} {W:Q7} (sw:SW K W) {c:Int} (c0:0<=c) (c1:c<(W.cpus.length:Int)) (i:Int) (hi:0<=i):(gi (UA W c).groups i).band=(gi W.groups i).band:=(zbe sw c0 c1).1.b i hi
theorem NE {K:Int} {W:Q7} (sw:SW K W) (hK:0<=K) (i:Int) (hi:0<=i):∀c:Nat,c<=W.cpus.length->(gi (J5 W c).groups i).band=(gi W.groups i).band
 | 0,_=>rfl
 | c+1,hc=>by
  obtain ⟨s1,f1⟩:=PP sw hK c (by omega);rw [show J5 W (c+1)=UA (J5 W c) (c:Int) from rfl,zfg s1 (by omega) (by rw [f1.c]; omega) i hi,NE sw hK i hi c (by omega)]
theorem zcr {K:Int} {W:Q7} (sw:SW K W) (hK:0<=K) (c:Int):Pm (Qg W) c<=Pm W c:=by
 obtain ⟨s1,o1⟩:=T5 (F:=K) (K:=K+Qj) (sw.sf.mono (Int.le_refl _) (by simp only [Qj]; omega)) (Int.le_refl _) W.cpus.length (Nat.le_refl _);obtain ⟨s2,b2⟩:=Vy s1 8 (Nat.le_refl _);refine Mi (fun k hk => ?_) 8 (Nat.le_refl _);have h1:(gi (Qg W).groups (k:Int)).band=(gi (Yv (Ys W W.cpus.length) 8).groups (k:Int)).band:=NE s2.w (by simp only [Qj]; omega) (k:Int) (by omega) W.cpus.length (by show W.cpus.length<=(Yv (Ys W W.cpus.length) 8).cpus.length; rw [b2.c,o1.c]; exact Nat.le_refl _);rw [h1];have h2:=A0 s1 c 8 (Nat.le_refl _) (k:Int) (by omega);rw [o1.b (k:Int) (by omega)] at h2;exact h2
def Yj (W:Q7) (t:Int):List Int:=QT W.groups (Q8 W t).group++[0]
def Em (W:Q7) (c g:Int):Q7×Bool:=if (gi W.groups g).band.quota=0 then (W,true) else (setBd W g (Yk (gi W.groups g).band c).1,decide ((Yk (gi W.groups g).band c).2≠2))
def Aj (c:Int):List Int->Q7->Q7×Bool
 | [],W=>(W,true)
 | g::l,W=>if (Em W c g).2=true then Aj c l (Em W c g).1 else ((Em W c g).1,false)
def zaj (W:Q7) (c g n:Int):Int:=if (gi W.groups g).band.quota>0 then ZL n (gi (gi W.groups g).band.locals c) else n
def Fy (W:Q7) (c:Int):List Int->Int->Int
 | [],n=>n
 | g::l,n=>Fy W c l (zaj W c g n)
def E8 (W:Q7) (c n g:Int):Pi:={ Qc W g c with v:=if g≠0 then (Qc W g c).v+Z4 n (Qc W g c).w else (Qc W g c).v,sum:=(Qc W g c).sum+n }
def NG (W:Q7) (c n g:Int):XS:=if (gi W.groups g).band.quota>0 then (Ym (gi W.groups g).band ⟨2,c,n⟩).1 else (gi W.groups g).band
def Pp (W:Q7) (c n g:Int):Q7:=setSh W g c (E8 W c n g)
def Hq (W:Q7) (c n g:Int):Z0:={ gi (Pp W c n g).groups g with sum:=(gi W.groups g).sum+n }
def EP (W:Q7) (c n g:Int):Q7:=setBd (setGr (Pp W c n g) g (Hq W c n g)) g (NG W c n g)
def AH (c n:Int):List Int->Q7->Q7
 | [],W=>W
 | g::l,W=>AH c n l (EP W c n g)
def Pq (W:Q7) (t n:Int):Oi:={ Q8 W t with v:=(Q8 W t).v+Z4 n (Qd (Q8 W t).nice),sum:=(Q8 W t).sum+n,used:=(Q8 W t).used+n }
def zdw (W:Q7) (c n:Int):TQ:={ gi W.cpus c with busy:=(gi W.cpus c).busy+n,ran:=(gi W.cpus c).ran+n }
def Tc (W:Q7) (c t n:Int):Q7:=setCp (AH c n (Yj W t) (setTk W t (Pq W t n))) c (zdw W c n)
def ZY (W:Q7) (c t:Int):TQ:=if t≠(gi W.cpus c).cur\/(gi W.cpus c).ran>=50 then { gi W.cpus c with cur:=t,ran:=0 } else gi W.cpus c
def Yt (W:Q7) (c t:Int):Q7:=setCp W c (ZY W c t)
def Pz (W:Q7) (c n:Int):TQ:={ gi W.cpus c with idle:=(gi W.cpus c).idle+n }
def Yo (W:Q7) (c:Int):Q7×Bool:=Aj c (Yj W (Qk W c)) (Yt W c (Qk W c))
def Jn (W:Q7) (c left:Int):Int:=Fy (Yo W c).1 c (Yj W (Qk W c)) left
def LH (W:Q7) (c left:Int):Q7×Int:=
 if (Yo W c).2=true then (Qg (Tc (Yo W c).1 c (Qk W c) (Jn W c left)),left - Jn W c left) else (Qg (endW (Yo W c).1 c),left)
def FY (c:Int):Nat->Q7->Int->Q7
 | 0,W,_=>W
 | f+1,W,left=>if left<=0 then Qg W else if Qk W c<0 then Qg (endW (setCp W c (Pz W c left)) c) else FY c f (LH W c left).1 (LH W c left).2
structure zha (K c:Int) (W W':Q7):Prop where
 sw:SW K W'
 o:Ub W W'
 q:∀i:Int,0<=i->(gi W'.groups i).band.quota=(gi W.groups i).band.quota
 l:∀i:Int,0<=i->gi (gi W.groups i).band.locals c>0->gi (gi W'.groups i).band.locals c>0
 p:∀i:Int,0<=i->Xd (gi W'.groups i).band c<=Xd (gi W.groups i).band c
 su:UG W W'
theorem zha.refl {K c:Int} {W:Q7} (h:SW K W):zha K c W W:=⟨h,Ub.refl _,fun _ _=>rfl,fun _ _ h=>h,fun _ _=>Nat.le_refl _,UG.refl _⟩
theorem zha.trans {K c:Int} {A B C:Q7} (h:zha K c A B) (k:zha K c B C):zha K c A C:=⟨k.sw,h.o.trans k.o,fun i hi=>(k.q i hi).trans (h.q i hi),fun i hi g=>k.l i hi (h.l i hi g),fun i hi=>Nat.le_trans (k.p i hi) (h.p i hi),h.su.trans k.su⟩
theorem zgw {b:XS} (h:VF b) {c:Int} (c0:0<=c) (c1:c<(b.locals.length:Int)):(gi b.locals c>0->(Yk b c).1=b)/\((Yk b c).2≠2->gi (Yk b c).1.locals c>0):=by
 unfold Yk;split
 ·rename_i hp;exact ⟨fun _=>rfl,fun _=>hp⟩
 ·rename_i hn;refine ⟨fun h=>absurd h hn,fun h2 => ?_⟩;show gi (b.locals.set c.toNat (ZL 20 b.pool)) c>0;rw [Qt _ _ c0 c1 c0,if_pos rfl];have hm:=Cg h.p1
  by_cases e:ZL 20 b.pool=0
  ·exact absurd (if_pos e) h2
  ·omega
theorem zjx {K c:Int} {W:Q7} (sw:SW K W) (c0:0<=c) (c1:c<(W.cpus.length:Int)) {g:Int} (hu:Q6 W.groups g=true) (hd:(gi W.groups g).band.quota≠0->gi (gi W.groups g).band.dry c=false) :
  zha K c W (Em W c g).1/\((Em W c g).2=true->((gi W.groups g).band.quota≠0->gi (gi (Em W c g).1.groups g).band.locals c>0)/\∀i:Int,0<=i->((gi W.groups i).band.quota≠0->gi (gi W.groups i).band.dry c=false)->(gi W.groups i).band.quota≠0->gi (gi (Em W c g).1.groups i).band.dry c=false)
   /\ ((Em W c g).2=false->Xd (gi (Em W c g).1.groups g).band c<Xd (gi W.groups g).band c):=by
 obtain ⟨u0,u1,hg⟩:=sw.a.u hu;have hgl:=sw.a.gl;unfold Em;split
 ·rename_i hq;exact ⟨zha.refl sw,fun _=>⟨fun h=>absurd hq h,fun i _ h h2=>h h2⟩,fun h=>by cases h⟩
 ·rename_i hq;obtain ⟨hb,hbl,_⟩:=hg.band hq;have hcl:c<((gi W.groups g).band.locals.length:Int):=by omega
  obtain ⟨hb2,hl2,hq2⟩:=zbg hb c0 hcl;obtain ⟨p1,p2,p3⟩:=zjc c0 hcl hb.dl (hd hq);obtain ⟨l1,l2⟩:=zgw hb c0 hcl;have ha:=sw.a.setBd (g:=g) hu hq hb2 (by rw [hl2]; exact hbl) hq2;have e:∀i:Int,0<=i->gi (setBd W g (Yk (gi W.groups g).band c).1).groups i=if g=i then { gi W.groups g with band:=(Yk (gi W.groups g).band c).1 } else gi W.groups i:=fun i hi=>Y4 u0 (by omega) hi
  have ob:=NX (W:=W) (b:=(Yk (gi W.groups g).band c).1) u0 (by omega);refine ⟨⟨(sw.sf.onlyB ob ha).w,ob,fun i hi => ?_,fun i hi h => ?_,fun i hi => ?_,zjs _ _ _⟩,fun h => ?_,fun h => ?_⟩
  ·show (gi (setBd W g _).groups i).band.quota=_;rw [e i hi]; split
   ·rename_i e; subst e; exact hq2
   ·rfl
  ·show gi (gi (setBd W g _).groups i).band.locals c>0;rw [e i hi]; split
   ·rename_i e; subst e;show gi (Yk (gi W.groups g).band c).1.locals c>0;rw [l1 h]; exact h
   ·exact h
  ·show Xd (gi (setBd W g _).groups i).band c<=_;rw [e i hi]; split
   ·rename_i e; subst e; exact p1
   ·exact Nat.le_refl _
  ·have h:(Yk (gi W.groups g).band c).2≠2:=of_decide_eq_true h;refine ⟨fun _ => ?_,fun i hi h1 h2 => ?_⟩
   ·show gi (gi (setBd W g _).groups g).band.locals c>0;rw [e g u0,if_pos rfl];exact l2 h
   ·show gi (gi (setBd W g _).groups i).band.dry c=false;rw [e i hi]; split
    ·rename_i e; subst e; exact p3 h
    ·exact h1 h2
  ·have h:(Yk (gi W.groups g).band c).2=2:=Decidable.byContradiction fun hn=>of_decide_eq_false h hn
   show Xd (gi (setBd W g _).groups g).band c<_;rw [e g u0,if_pos rfl];exact p2 h
theorem zjy {K c:Int} (c0:0<=c):∀(l:List Int) {W:Q7},SW K W->c<(W.cpus.length:Int)->(∀g∈l,Q6 W.groups g=true)->(∀g∈l,(gi W.groups g).band.quota≠0->gi (gi W.groups g).band.dry c=false)->
  zha K c W (Aj c l W).1/\((Aj c l W).2=true->∀g∈l,(gi W.groups g).band.quota≠0->gi (gi (Aj c l W).1.groups g).band.locals c>0)/\((Aj c l W).2=false->∃g∈l,Xd (gi (Aj c l W).1.groups g).band c<Xd (gi W.groups g).band c)
 | [],W,sw,_,_,_=>⟨zha.refl sw,fun _ g hg=>(by cases hg),fun h=>by cases h⟩
 | g::l,W,sw,c1,hu,hd=>by
  obtain ⟨a,b,d⟩:=zjx sw c0 c1 (hu g List.mem_cons_self) (hd g List.mem_cons_self);simp only [Aj]
  by_cases h2:(Em W c g).2=true
  ·rw [if_pos h2];obtain ⟨b1,b2⟩:=b h2;have h0:∀x∈l,0<=x:=fun x hx=>(Q4.1 (hu x (List.mem_cons_of_mem _ hx))).1
   obtain ⟨a',b',d'⟩:=zjy c0 l (W:=(Em W c g).1) a.sw (by rw [a.o.c]; exact c1) (fun x hx=>by rw [a.o.g.usd]; exact hu x (List.mem_cons_of_mem _ hx)) fun x hx hq=>by
    rw [a.q x (h0 x hx)] at hq;exact b2 x (h0 x hx) (hd x (List.mem_cons_of_mem _ hx)) hq
   refine ⟨a.trans a',fun h x hx hq => ?_,fun h => ?_⟩
   ·rcases List.mem_cons.1 hx with e | e
    ·subst e;exact a'.l x (Q4.1 (hu x List.mem_cons_self)).1 (b1 hq)
    ·exact b' h x e (by rw [a.q x (h0 x e)]; exact hq)
   ·obtain ⟨x,hx,hlt⟩:=d' h;exact ⟨x,List.mem_cons_of_mem _ hx,Nat.lt_of_lt_of_le hlt (a.p x (h0 x hx))⟩
  ·rw [if_neg h2];exact ⟨a,fun h=>(by cases h),fun _=>⟨g,List.mem_cons_self,d (by simpa using h2)⟩⟩
theorem NS {W:Q7} {c:Int}:∀(l:List Int) (n:Int),1<=n->(∀g∈l,(gi W.groups g).band.quota>0->gi (gi W.groups g).band.locals c>0)->1<=Fy W c l n/\Fy W c l n<=n
 | [],n,h,_=>⟨h,Int.le_refl _⟩
 | g::l,n,h,hl=>by
  simp only [Fy]
  have hm:1<=zaj W c g n/\zaj W c g n<=n:=by
   unfold zaj;split
   ·rename_i hq;have:=hl g List.mem_cons_self hq;unfold ZL
    split <;> omega
   ·exact ⟨h,Int.le_refl _⟩
  have:=NS l (zaj W c g n) hm.1 fun x hx=>hl x (List.mem_cons_of_mem _ hx)
  omega
theorem Mo (n w:Int) (h0:0<=n) (h1:n<=100):0<=Z4 n w/\Z4 n w<=Qj:=by
 by_cases h:1<=w/\w<=20
 ·rw [TL h0 (by omega) h.1 h.2];have hs:=CF h.1 h.2;refine ⟨Int.mul_nonneg h0 (by omega),?_⟩
  calc n*zda w<=100*zda w:=Int.mul_le_mul_of_nonneg_right h1 (by omega)
   _<=100*232792560:=Int.mul_le_mul_of_nonneg_left hs.2 (by decide)
   _<=Qj:=by decide
 ·rw [Mp (by omega)]; exact ⟨Int.le_refl _,by decide⟩
theorem zfe {b:XS} (h:VF b) {c n:Int} (c0:0<=c) (c1:c<(b.locals.length:Int)):VF (Ym b ⟨2,c,n⟩).1/\(Ym b ⟨2,c,n⟩).1.locals.length=b.locals.length/\(Ym b ⟨2,c,n⟩).1.quota=b.quota/\Xd (Ym b ⟨2,c,n⟩).1 c=Xd b c:=by
 have e:Ym b ⟨2,c,n⟩=Vh b c n:=by
  unfold Ym;rw [if_neg (show ¬(2:Int)=4 by decide),if_neg (by rw [Qx.2 (by show 0<=c/\c<=_; omega)]; decide),if_neg (show ¬(2:Int)=1 by decide),if_pos rfl]
 rw [e];obtain ⟨a,b',d⟩:=Ad h (n:=n) c0 c1;exact ⟨a,b',d,zgj c0 c1⟩
structure zj5 (K S c n:Int) (W W':Q7):Prop where
 sw:SW K W'
 rb:RB S W'
 now:W'.now=W.now
 t:W'.tasks=W.tasks
 cp:W'.cpus=W.cpus
 g:QM W.groups W'.groups
 p:∀i:Int,0<=i->Xd (gi W'.groups i).band c=Xd (gi W.groups i).band c
theorem zbz {K S c n:Int} {W:Q7} (sw:SW K W) (rb:RB S W) (hS:S+n<=100000000000000000) (c0:0<=c) (c1:c<(W.cpus.length:Int)) {g:Int} (hu:Q6 W.groups g=true) (n0:0<=n) (n1:n<=100):zj5 (K+Qj) (S+n) c n W (EP W c n g):=by
 obtain ⟨u0,u1,hg⟩:=sw.a.u hu;have hgl:=sw.a.gl;have hsl:=sw.a.sl hu;have hsr:=sw.s g c hu c0 c1;have hv:=Mo n (Qc W g c).w n0 n1;have hlg:0<=Qj:=by decide
 have ea:∀{i:Int},0<=i->gi (Pp W c n g).groups i=if g=i then { gi W.groups g with shelves:=(gi W.groups g).shelves.set c.toNat (E8 W c n g) } else gi W.groups i:=fun hi=>Y4 u0 (by omega) hi
 have eg:∀i:Int,0<=i->gi (EP W c n g).groups i=if g=i then { gi W.groups g with shelves:=(gi W.groups g).shelves.set c.toNat (E8 W c n g),sum:=(gi W.groups g).sum+n,band:=NG W c n g } else gi W.groups i:=fun i hi=>by
  have hl1:g<((setGr (Pp W c n g) g (Hq W c n g)).groups.length:Int):=by
   have:(setGr (Pp W c n g) g (Hq W c n g)).groups.length=W.groups.length:=by simp [setGr,Pp,setSh]
   rw [this]; omega
  have hl2:g<((Pp W c n g).groups.length:Int):=by
   have:(Pp W c n g).groups.length=W.groups.length:=by simp [setGr,Pp,setSh]
   rw [this]; omega
  unfold EP setBd;rw [Y4 u0 hl1 hi,Y4 u0 hl2 hi,Y4 u0 hl2 u0,if_pos rfl,ea hi];split
  ·unfold Hq;rw [ea u0,if_pos rfl]
  ·rfl
 have es:∀i d:Int,0<=i->0<=d->Qc (EP W c n g) i d=if g=i/\c=d then E8 W c n g else Qc W i d:=fun i d hi hd=>by
  rw [<-XE (W:=W) (s:=E8 W c n g) u0 (by omega) c0 (by omega) hi hd];unfold Qc;show gi (gi (EP W c n g).groups i).shelves d=gi (gi (Pp W c n g).groups i).shelves d;rw [eg i hi,ea hi]
  split <;> rfl
 have hT:QM W.groups (EP W c n g).groups:=by
  have t1:=YX (W:=W) (g:=g) (c:=c) (s:=E8 W c n g) u0 (by omega);have t2:=XF (W:=Pp W c n g) (g:=g) (x:=Hq W c n g) u0 (by show g<((Pp W c n g).groups.length:Int); rw [show (Pp W c n g).groups.length=W.groups.length from t1.len]; omega) rfl rfl rfl;have t3:=XF (W:=setGr (Pp W c n g) g (Hq W c n g)) (g:=g) (x:={ gi (setGr (Pp W c n g) g (Hq W c n g)).groups g with band:=NG W c n g }) u0 (by rw [t2.len,show (Pp W c n g).groups.length=W.groups.length from t1.len]; omega) rfl rfl rfl;exact (t1.trans t2).trans t3
 have hB:(NG W c n g).quota=(gi W.groups g).band.quota/\Xd (NG W c n g) c=Xd (gi W.groups g).band c/\((gi W.groups g).band.quota=0->NG W c n g=(gi W.groups g).band)/\((gi W.groups g).band.quota≠0->VF (NG W c n g)/\(NG W c n g).locals.length=W.cpus.length):=by
  unfold NG;split
  ·rename_i hq;obtain ⟨hb,hbl,_⟩:=hg.band (by omega);obtain ⟨a,b,d,e⟩:=zfe hb (n:=n) c0 (by omega);exact ⟨d,e,fun h=>by omega,fun _=>⟨a,by rw [b]; exact hbl⟩⟩
  ·rename_i hq;refine ⟨rfl,rfl,fun _=>rfl,fun h => ?_⟩;obtain ⟨hb,hbl,_⟩:=hg.band h;exact ⟨hb,hbl⟩
 have hrg:=rb.g g hu
 have hW:WA (EP W c n g):=by
  have hl:=sw.a;refine ⟨hl.n1,hl.n2,hl.c1,hl.c2,hl.t,hT.tree hl.tree,hl.ups,fun k k0 k1 => ?_⟩;unfold HB;rw [eg k k0];split
  ·rename_i e;subst e;refine ⟨fun h => ?_,fun _=>⟨hg.w1,hg.w2,hg.m,hg.m0,ZR.2 ⟨by show 0<=(gi W.groups g).sum+n; omega,by show (gi W.groups g).sum+n<=_; omega⟩,by show (List.set _ _ _).length=_; rw [List.length_set]; exact hg.len,fun h=>⟨(hg.root h).1,(hg.root h).2.1,by show (NG W c n g).quota=0; rw [hB.1]; exact (hg.root h).2.2⟩,fun h => ?_,fun h => ?_⟩⟩
   ·have h:(gi W.groups g).used=false:=h;rw [(Q4.1 hu).2.2] at h; cases h
   ·have h:(NG W c n g).quota=0:=h;rw [hB.1] at h;have:=hg.none h;exact ⟨by show TB (NG W c n g)=true; rw [hB.2.2.1 h]; exact this.1,this.2⟩
   ·have h:(NG W c n g).quota≠0:=h;rw [hB.1] at h;obtain ⟨_,_,hp⟩:=hg.band h;exact ⟨(hB.2.2.2 h).1,(hB.2.2.2 h).2,hp⟩
  ·have:=hl.grp k k0 k1;exact ⟨this.1,fun hu=>by have:=this.2 hu; exact ⟨this.w1,this.w2,this.m,this.m0,this.s,this.len,this.root,this.none,this.band⟩⟩
 refine ⟨⟨hW,fun t a b m => ?_,fun t a b => ?_,fun k d u a b => ?_,sw.cu⟩,⟨rb.n,fun t a b => ?_,fun k d u a b => ?_,fun k u => ?_,fun d a b => ?_⟩,rfl,rfl,rfl,hT,fun i hi => ?_⟩
 ·rw [hT.usd]; exact sw.t t a b m
 ·have:=sw.tv t a b;exact ⟨this.1,by show (Q8 W t).v<=_; omega⟩
 ·rw [hT.usd] at u;have hk:=(Q4.1 u).1;have h:=sw.s k d u a b;rw [es k d hk a];split
  ·refine ⟨hsr.1,by show (Qc W g c).floor<=_; omega,?_,?_,hsr.2.2.2.2.1,hsr.2.2.2.2.2⟩
   ·show 0<=if g≠0 then (Qc W g c).v+Z4 n (Qc W g c).w else (Qc W g c).v
    split <;> omega
   ·show (if g≠0 then (Qc W g c).v+Z4 n (Qc W g c).w else (Qc W g c).v)<=_
    split <;> omega
  ·exact ⟨h.1,by omega,h.2.2.1,by omega,h.2.2.2.2.1,h.2.2.2.2.2⟩
 ·have:=rb.t t a b;exact ⟨this.1,by show (Q8 W t).sum<=_; omega,this.2.2.1,by show (Q8 W t).used<=_; omega⟩
 ·rw [hT.usd] at u;have hk:=(Q4.1 u).1;have h:=rb.s k d u a b;rw [es k d hk a];split
  ·have h2:=rb.s g c hu c0 c1;exact ⟨by show 0<=(Qc W g c).sum+n; omega,by show (Qc W g c).sum+n<=_; omega⟩
  ·exact ⟨h.1,by omega⟩
 ·rw [hT.usd] at u;have h:=rb.g k u;rw [eg k (Q4.1 u).1];split
  ·exact ⟨by show 0<=(gi W.groups g).sum+n; omega,by show (gi W.groups g).sum+n<=_; omega⟩
  ·exact ⟨h.1,by omega⟩
 ·have:=rb.c d a b;exact ⟨this.1,by show (gi W.cpus d).busy<=_; omega,this.2.2.1,this.2.2.2.1,this.2.2.2.2⟩
 ·rw [eg i hi];split
  ·rename_i e; subst e; exact hB.2.1
  ·rfl
theorem RB.mono {S S':Int} {W:Q7} (h:RB S W) (k:S<=S'):RB S' W:=
 ⟨h.n,fun t a b=>by have:=h.t t a b; omega,fun k c u a b=>by have:=h.s k c u a b; omega,fun k u=>by have:=h.g k u; omega,fun c a b=>by have:=h.c c a b; omega⟩
theorem RB.setCp {S:Int} {W:Q7} (h:RB S W) {c:Int} (c0:0<=c) (c1:c<(W.cpus.length:Int)) {x:TQ} (hx:0<=x.busy/\x.busy<=S/\0<=x.idle/\x.idle<=50000000000000000/\0<=x.ran/\x.ran<=149):RB S (setCp W c x):=by
 have hl:(W.cpus.set c.toNat x).length=W.cpus.length:=List.length_set;refine ⟨h.n,h.t,fun k d u a b => ?_,h.g,fun d a b => ?_⟩
 ·have b:d<(((W.cpus.set c.toNat x).length:Nat):Int):=b;rw [hl] at b;exact h.s k d u a b
 ·have b:d<(((W.cpus.set c.toNat x).length:Nat):Int):=b;rw [hl] at b;show _<=(gi (W.cpus.set c.toNat x) d).busy/\(gi (W.cpus.set c.toNat x) d).busy<=_/\_<=(gi (W.cpus.set c.toNat x) d).idle/\(gi (W.cpus.set c.toNat x) d).idle<=_/\_<=(gi (W.cpus.set c.toNat x) d).ran/\(gi (W.cpus.set c.toNat x) d).ran<=_;rw [Qt _ _ c0 c1 a];split
  ·exact hx
  ·exact h.c d a b
theorem RB.setTk {S:Int} {W:Q7} (h:RB S W) (hl:W.tasks.length=12) {t:Int} (t0:0<=t) (t1:t<12) {x:Oi} (hx:0<=x.sum/\x.sum<=S/\0<=x.used/\x.used<=S):RB S (setTk W t x):=by
 refine ⟨h.n,fun u a b => ?_,h.s,h.g,h.c⟩;show _<=(gi (W.tasks.set t.toNat x) u).sum/\(gi (W.tasks.set t.toNat x) u).sum<=_/\_<=(gi (W.tasks.set t.toNat x) u).used/\(gi (W.tasks.set t.toNat x) u).used<=_;rw [Qt _ _ t0 (by omega) a];split
 ·exact hx
 ·exact h.t u a b
theorem zj5.trans {K S K' S' c n:Int} {A B C:Q7} (h:zj5 K S c n A B) (k:zj5 K' S' c n B C):zj5 K' S' c n A C:=
 ⟨k.sw,k.rb,k.now.trans h.now,k.t.trans h.t,k.cp.trans h.cp,h.g.trans k.g,fun i hi=>(k.p i hi).trans (h.p i hi)⟩
theorem zhm {c n:Int} (c0:0<=c) (n0:0<=n) (n1:n<=100):∀(l:List Int) {K S:Int} {W:Q7},SW K W->RB S W->S+100*(l.length:Int)<=100000000000000000->c<(W.cpus.length:Int)->(∀g∈l,Q6 W.groups g=true)->
  zj5 (K+Qj*(l.length:Int)) (S+100*(l.length:Int)) c n W (AH c n l W)
 | [],K,S,W,sw,rb,_,_,_=>⟨sw.mono (by simp),rb.mono (by simp),rfl,rfl,rfl,QM.refl _,fun _ _=>rfl⟩
 | g::l,K,S,W,sw,rb,hS,c1,hu=>by
  rw [List.length_cons] at hS ⊢;have h1:=zbz sw rb (by omega) c0 c1 (hu g List.mem_cons_self) n0 n1;have h2:=zhm c0 n0 n1 l (W:=EP W c n g) h1.sw (h1.rb.mono (show S+n<=S+100 by omega)) (by omega) (by rw [h1.cp]; exact c1) fun x hx=>by rw [h1.g.usd]; exact hu x (List.mem_cons_of_mem _ hx)
  have h3:=h1.trans h2;exact ⟨h3.sw.mono (by simp only [Qj]; omega),h3.rb.mono (by omega),h3.now,h3.t,h3.cp,h3.g,h3.p⟩
theorem zl1 {W W':Q7} {c:Int} (h:∀i:Int,0<=i->Xd (gi W'.groups i).band c=Xd (gi W.groups i).band c):Pm W' c=Pm W c:=
 Nat.le_antisymm (Mi (fun k _=>Nat.le_of_eq (h k (by omega))) 8 (Nat.le_refl _)) (Mi (fun k _=>Nat.le_of_eq (h k (by omega)).symm) 8 (Nat.le_refl _))
theorem Eh {W:Q7} (ha:WA W) {t:Int} (hu:Q6 W.groups (Q8 W t).group=true):(∀g∈Yj W t,Q6 W.groups g=true)/\(Yj W t).length<=4:=by
 refine ⟨fun g hg => ?_,?_⟩
 ·rcases List.mem_append.1 hg with h | h
  ·exact (Yc ha.tree _ hu g h).1
  ·rw [List.mem_singleton.1 h]; exact ha.root
 ·have:=FSx W.groups 3 (Q8 W t).group;unfold Yj;rw [List.length_append];show (Jh 3 W.groups (Q8 W t).group).length+1<=4;omega
theorem Cw {W W':Q7} (ht:W'.tasks=W.tasks) (hT:QM W.groups W'.groups) (t:Int):Yj W' t=Yj W t:=by
 unfold Yj;rw [Xf ht,Uy hT]
def LI (f:Nat):Int:=Ql+(400 - (f:Int))*346860914400
def H6 (f:Nat):Int:=Ql+(400 - (f:Int))*500
structure Bk (f:Nat) (c:Int) (W0 W:Q7) (left:Int):Prop where
 sw:SW (LI f) W
 rb:RB (H6 f) W
 dm:Dm W c
 c0:0<=c
 c1:c<(W.cpus.length:Int)
 up:(gi W.cpus c).up=true
 now:W.now=W0.now
 len:W.cpus.length=W0.cpus.length
 l0:0<=left
 l1:left<=100
 f1:left+Pm W c<(f:Int)
 f2:f<=400
theorem LJ {f:Nat} (h:f<=400):Ql<=LI f/\LI f<=50200000000000000:=by
 unfold LI Ql; omega
theorem CA {f:Nat} (h:f<=400):Ql<=H6 f/\H6 f<=50000000000200000:=by
 unfold H6 Ql; omega
theorem zc0 {W:Q7} (wp:XG W) (r:MF W) {c n:Int} (c0:0<=c) (c1:c<(W.cpus.length:Int)) (up:(gi W.cpus c).up=true) (n0:0<=n) (n1:n<=100):Bk 400 c W W n:=by
 have hp:=zl2 W c;exact ⟨(TI wp r).mono (by unfold LI; omega),(zo8 wp r).mono (by unfold H6; omega),zot wp c0 c1,c0,c1,up,rfl,rfl,n0,n1,by omega,Nat.le_refl _⟩
theorem LO {K S:Int} {c t:Int} {W:Q7} (sw:SW K W) (rb:RB S W) (c0:0<=c) (c1:c<(W.cpus.length:Int)) (up:(gi W.cpus c).up=true) (t0:0<=t) (t1:t<12) :
  SW K (Yt W c t)/\RB S (Yt W c t)/\(gi (Yt W c t).cpus c).up=true/\(gi (Yt W c t).cpus c).ran<50/\(gi (Yt W c t).cpus c).cur=t/\(Yt W c t).cpus.length=W.cpus.length:=by
 have e:gi (Yt W c t).cpus c=ZY W c t:=(Qt _ _ c0 c1 c0).trans (if_pos rfl);have hl:(Yt W c t).cpus.length=W.cpus.length:=List.length_set;have hup:(ZY W c t).up=true:=by unfold ZY; split <;> exact up
 have hr:=rb.c c c0 c1;have hcu:=sw.cu c c0 c1;refine ⟨sw.setCp c0 c1 (Hl (c:=c) (by rw [List.length_set]; exact sw.a.c2) c0 (by rw [List.length_set]; exact c1) (by rw [show gi (W.cpus.set c.toNat (ZY W c t)) c=_ from e]; exact hup)) ?_ ?_,rb.setCp c0 c1 ?_,by rw [e]; exact hup,?_,?_,hl⟩
 ·unfold ZY; split
  ·show -1<=t; omega
  ·exact hcu.1
 ·unfold ZY; split
  ·exact t1
  ·exact hcu.2
 ·unfold ZY; split
  ·exact ⟨hr.1,hr.2.1,hr.2.2.1,hr.2.2.2.1,by show (0:Int)<=0; decide,by show (0:Int)<=149; decide⟩
  ·exact hr
 ·rw [e];unfold ZY; split
  ·show (0:Int)<50; decide
  ·omega
 ·rw [e];unfold ZY; split
  ·rfl
  ·rename_i h;exact Decidable.byContradiction fun hn=>h (.inl fun e=>hn e.symm)
structure zpq (f:Nat) (c:Int) (W0 W:Q7) (left:Int):Prop where
 line:zdl W (Qk W c) c
 us:Q6 W.groups (Q8 W (Qk W c)).group=true
 pin:∀g∈Yj W (Qk W c),Q6 W.groups g=true
 len:(Yj W (Qk W c)).length<=4
 s1:SW (LI (f+1)) (Yt W c (Qk W c))
 r1:RB (H6 (f+1)) (Yt W c (Qk W c))
 ran:(gi (Yt W c (Qk W c)).cpus c).ran<50
 tk:zha (LI (f+1)) c (Yt W c (Qk W c)) (Yo W c).1
 dr:∀g∈Yj W (Qk W c),(gi (Yt W c (Qk W c)).groups g).band.quota≠0->gi (gi (Yt W c (Qk W c)).groups g).band.dry c=false
 m:(Yo W c).2=true->1<=Jn W c left/\Jn W c left<=left
 ch:(Yo W c).2=true->SW (LI (f+1)+5*Qj) (Tc (Yo W c).1 c (Qk W c) (Jn W c left))/\RB (H6 (f+1)+500) (Tc (Yo W c).1 c (Qk W c) (Jn W c left))
 nx:Bk f c W0 (LH W c left).1 (LH W c left).2
 gt:QM W.groups (LH W c left).1.groups
theorem AI {K S c t n:Int} {W:Q7} (sw:SW K W) (rb:RB S W) (hS:S+500<=100000000000000000) (c0:0<=c) (c1:c<(W.cpus.length:Int)) (up:(gi W.cpus c).up=true) (ran:(gi W.cpus c).ran<50) (t0:0<=t) (t1:t<12) (hu:Q6 W.groups (Q8 W t).group=true) (n0:0<=n) (n1:n<=100) :
  SW (K+5*Qj) (Tc W c t n)/\RB (S+500) (Tc W c t n)/\Pm (Tc W c t n) c=Pm W c/\(Tc W c t n).now=W.now/\(Tc W c t n).cpus.length=W.cpus.length/\(gi (Tc W c t n).cpus c).up=true/\SW (K+Qj) (setTk W t (Pq W t n))/\RB (S+100) (setTk W t (Pq W t n))/\zj5 (K+5*Qj) (S+500) c n (setTk W t (Pq W t n)) (AH c n (Yj W t) (setTk W t (Pq W t n))):=by
 have hv:=Mo n (Qd (Q8 W t).nice) n0 n1;have hlg:0<=Qj:=by decide
 have htv:=sw.tv t t0 t1;have htr:=rb.t t t0 t1;have hcr:=rb.c c c0 c1;obtain ⟨hp1,hp2⟩:=Eh sw.a hu;have s1:SW (K+Qj) (setTk W t (Pq W t n)):=(sw.mono (K':=K+Qj) (by omega)).setTk t0 t1 (x:=Pq W t n) (fun h=>sw.t t t0 t1 h) (by show 0<=(Q8 W t).v+Z4 n (Qd (Q8 W t).nice); omega) (by show (Q8 W t).v+Z4 n (Qd (Q8 W t).nice)<=_; omega);have r1:RB (S+100) (setTk W t (Pq W t n)):=(rb.mono (S':=S+100) (by omega)).setTk sw.a.t t0 t1 (x:=Pq W t n) ⟨by show 0<=(Q8 W t).sum+n; omega,by show (Q8 W t).sum+n<=_; omega,by show 0<=(Q8 W t).used+n; omega,by show (Q8 W t).used+n<=_; omega⟩;have h0:=zhm c0 n0 n1 (Yj W t) s1 r1 (by omega) c1 hp1;have h2:zj5 (K+5*Qj) (S+500) c n (setTk W t (Pq W t n)) (AH c n (Yj W t) (setTk W t (Pq W t n))):=⟨h0.sw.mono (by simp only [Qj]; omega),h0.rb.mono (by omega),h0.now,h0.t,h0.cp,h0.g,h0.p⟩;have hcp:(AH c n (Yj W t) (setTk W t (Pq W t n))).cpus=W.cpus:=h2.cp
 have e:gi (Tc W c t n).cpus c=zdw W c n:=by
  show gi ((AH c n (Yj W t) (setTk W t (Pq W t n))).cpus.set c.toNat (zdw W c n)) c=_;rw [hcp];exact (Qt _ _ c0 c1 c0).trans (if_pos rfl)
 have hlen:(Tc W c t n).cpus.length=W.cpus.length:=by
  show ((AH c n (Yj W t) (setTk W t (Pq W t n))).cpus.set c.toNat (zdw W c n)).length=_;rw [List.length_set,hcp]
 have hcu:=sw.cu c c0 c1;refine ⟨h2.sw.setCp c0 (by rw [hcp]; exact c1) (x:=zdw W c n) (Hl (c:=c) ?_ c0 ?_ ?_) hcu.1 hcu.2,h2.rb.setCp c0 (by rw [hcp]; exact c1) (x:=zdw W c n) ⟨by show 0<=(gi W.cpus c).busy+n; omega,by show (gi W.cpus c).busy+n<=_; omega,hcr.2.2.1,hcr.2.2.2.1,by show 0<=(gi W.cpus c).ran+n; omega,by show (gi W.cpus c).ran+n<=149; omega⟩,zl1 (W':=Tc W c t n) h2.p,h2.now,hlen,by rw [e]; exact up,s1,r1,h2⟩
 ·rw [List.length_set,hcp]; exact sw.a.c2
 ·rw [List.length_set,hcp]; exact c1
 ·rw [show gi ((AH c n (Yj W t) (setTk W t (Pq W t n))).cpus.set c.toNat (zdw W c n)) c=_ from e]; exact up
theorem B1 {K S c:Int} {W:Q7} (sw:SW K W) (rb:RB S W) (hK:0<=K) (c0:0<=c) (c1:c<(W.cpus.length:Int)) (up:(gi W.cpus c).up=true) :
  SW (K+U1) (Qg W)/\RB S (Qg W)/\Dm (Qg W) c/\(gi (Qg W).cpus c).up=true/\(Qg W).now=W.now/\(Qg W).cpus.length=W.cpus.length/\Pm (Qg W) c<=Pm W c:=by
 obtain ⟨s,f⟩:=Vg sw hK;have su:=zdb W;exact ⟨s,rb.sum su f.g f.c,zgq sw hK c0 c1,by rw [su.u]; exact up,f.n,f.c,zcr sw hK c⟩
theorem zcz {f:Nat} {c left:Int} {W0 W:Q7} (h:Bk (f+1) c W0 W left) (hl:0<left) (hp:¬Qk W c<0):zpq f c W0 W left:=by
 have hf:=h.f2;have hh0:(0:Int)<=Ql:=by decide
 have hK:=LJ (f:=f+1) hf;have hS:=CA (f:=f+1) hf;have c0:=h.c0;have c1:=h.c1;have eK:LI f=LI (f+1)+346860914400:=by unfold LI; omega
 have eS:H6 f=H6 (f+1)+500:=by unfold H6; omega
 have hline:=zgk h.sw.a (h.sw.cu c c0 c1).2 h.dm.cu hp;have hM:Jn W c left=Fy (Yo W c).1 c (Yj W (Qk W c)) left:=rfl;have hT:Yo W c=Aj c (Yj W (Qk W c)) (Yt W c (Qk W c)):=rfl;have hR:LH W c left=if (Yo W c).2=true then (Qg (Tc (Yo W c).1 c (Qk W c) (Jn W c left)),left - Jn W c left) else (Qg (endW (Yo W c).1 c),left):=rfl;have t0:=hline.t0;have t1:=hline.t1;obtain ⟨us,_,_⟩:=h.sw.t _ t0 t1 (by rw [hline.st]; decide);obtain ⟨pin,plen⟩:=Eh h.sw.a us;obtain ⟨s1,r1,u1,ran1,cu1,l1⟩:=LO h.sw h.rb c0 c1 h.up t0 t1
 have hdr:∀g∈Yj W (Qk W c),(gi (Yt W c (Qk W c)).groups g).band.quota≠0->gi (gi (Yt W c (Qk W c)).groups g).band.dry c=false:=fun g hg hq=>by
  have hq:(gi W.groups g).band.quota≠0:=hq;show gi (gi W.groups g).band.dry c=false;have hug:=pin g hg;obtain ⟨u0,u8,hgu⟩:=h.sw.a.u hug;rcases List.mem_append.1 hg with hg | hg
  ·have hon:=hline.on g hg;have hz:=(Yc h.sw.a.tree _ us g hg).2;have:=h.dm.on g hug hz;unfold Ua at this;rw [hon] at this
   have hd:Uf W g c=false:=by
    cases hd:Uf W g c with
    | false=>rfl
    | true=>rw [hd] at this; simp at this
   unfold Uf at hd;have:=(hgu.band hq).1.q1;rw [decide_eq_true (by omega),Bool.true_and] at hd;exact hd
  ·rw [List.mem_singleton.1 hg] at hq hgu;exact absurd (hgu.root rfl).2.2 hq
 obtain ⟨tk,tl,tf⟩:=zjy c0 (Yj W (Qk W c)) s1 (by rw [l1]; exact c1) pin hdr;rw [<-hT] at tk tl tf;have eT:(Yo W c).1.tasks=W.tasks:=tk.o.t;have eC:(Yo W c).1.cpus=(Yt W c (Qk W c)).cpus:=tk.o.c;have eG:QM W.groups (Yo W c).1.groups:=tk.o.g;have lT:(Yo W c).1.cpus.length=W.cpus.length:=by rw [eC,l1]
 have rT:RB (H6 (f+1)) (Yo W c).1:=r1.sum tk.su tk.o.g (by rw [eC]);have uT:Q6 (Yo W c).1.groups (Q8 (Yo W c).1 (Qk W c)).group=true:=by rw [eG.usd,Xf eT]; exact us
 have pT:Yj (Yo W c).1 (Qk W c)=Yj W (Qk W c):=Cw eT eG _;have upT:(gi (Yo W c).1.cpus c).up=true:=by rw [eC]; exact u1
 have ranT:(gi (Yo W c).1.cpus c).ran<50:=by rw [eC]; exact ran1
 have phT:Pm (Yo W c).1 c<=Pm W c:=Mi (fun k _=>tk.p (k:Int) (by omega)) 8 (Nat.le_refl _)
 have hm:(Yo W c).2=true->1<=Jn W c left/\Jn W c left<=left:=fun ht=>by
  refine NS _ left (by omega) fun g hg hq => ?_
  have g0:=(Q4.1 (pin g hg)).1;rw [tk.q g g0] at hq;exact tl ht g hg (by omega)
 have hl1:=h.l1;have hch:(Yo W c).2=true->_:=fun ht=>AI (t:=Qk W c) (n:=Jn W c left) tk.sw rT (by omega) c0 (by rw [lT]; exact c1) upT ranT t0 t1 uT (by have:=hm ht; omega) (by have:=hm ht; omega)
 refine ⟨hline,us,pin,plen,s1,r1,ran1,tk,hdr,hm,fun ht=>⟨(hch ht).1,(hch ht).2.1⟩,?_,?_⟩
 rotate_left
 ·rw [hR]
  by_cases ht:(Yo W c).2=true
  ·rw [if_pos ht];have a:=(hch ht).1;have g1:QM (Yo W c).1.groups (Tc (Yo W c).1 c (Qk W c) (Jn W c left)).groups:=(hch ht).2.2.2.2.2.2.2.2.g;exact (eG.trans g1).trans (Vg a (by simp only [Qj]; omega)).2.g
  ·rw [if_neg ht];have g1:QM (Yo W c).1.groups (endW (Yo W c).1 c).groups:=QM.refl _;exact (eG.trans g1).trans (Vg (tk.sw.endW c0 (by rw [lT]; exact c1)) (by omega)).2.g
 rw [hR];have hf1:=h.f1
 by_cases ht:(Yo W c).2=true
 ·rw [if_pos ht];obtain ⟨a,b,d,e1,e2,e3,_⟩:=hch ht;obtain ⟨b1,b2,b3,b4,b5,b6,b7⟩:=B1 a b (by simp only [Qj]; omega) c0 (by rw [e2,lT]; exact c1) e3;have hm:=hm ht
  exact ⟨b1.mono (by simp only [Qj,U1]; omega),b2.mono (by omega),b3,c0,by rw [b6,e2,lT]; exact c1,b4,by rw [b5,e1,tk.o.n]; exact h.now,by rw [b6,e2,lT]; exact h.len,by show 0<=left - Jn W c left; omega,by show left - Jn W c left<=100; omega,by
   rw [d] at b7;show left - Jn W c left+((Pm (Qg (Tc (Yo W c).1 c (Qk W c) (Jn W c left))) c:Nat):Int)<_;omega,by omega⟩
 ·rw [if_neg ht];have ht:(Yo W c).2=false:=by simpa using ht
  obtain ⟨g,hg,hlt⟩:=tf ht;have g0:=Q4.1 (pin g hg);have hgl:=h.sw.a.gl
  have hp1:Pm (Yo W c).1 c<Pm W c:=by
   refine zep (fun k _=>tk.p (k:Int) (by omega)) (j:=g.toNat) ?_ 8 (by omega) (Nat.le_refl _);rw [show ((g.toNat:Nat):Int)=g by omega];exact hlt
  have ce:c<((Yo W c).1.cpus.length:Int):=by rw [lT]; exact c1
  have sE:=tk.sw.endW c0 ce;have eE:gi (endW (Yo W c).1 c).cpus c=X0 (gi (Yo W c).1.cpus c):=(Qt _ _ c0 ce c0).trans (if_pos rfl);have lE:(endW (Yo W c).1 c).cpus.length=(Yo W c).1.cpus.length:=List.length_set;obtain ⟨b1,b2,b3,b4,b5,b6,b7⟩:=B1 sE (rT.sum (ze4 _ c) (QM.refl _) lE) (by omega) c0 (by rw [lE]; exact ce) (by rw [eE]; exact upT)
  exact ⟨b1.mono (by simp only [Qj,U1]; omega),b2.mono (by omega),b3,c0,by rw [b6,lE]; exact ce,b4,by rw [b5]; show (Yo W c).1.now=_; rw [tk.o.n]; exact h.now,by rw [b6,lE,lT]; exact h.len,h.l0,h.l1,by
   have b7:Pm (Qg (endW (Yo W c).1 c)) c<=Pm (Yo W c).1 c:=b7;show left+((Pm (Qg (endW (Yo W c).1 c)) c:Nat):Int)<_;omega,by omega⟩
theorem zm8 {b:XS} {c:Int} (c0:0<=c) (c1:c<(b.locals.length:Int)):Ym b ⟨1,c,0⟩=Yk b c:=by
 unfold Ym;rw [if_neg (show ¬(1:Int)=4 by decide),if_neg (by rw [Qx.2 (by show 0<=c/\c<=_; omega)]; decide),if_pos rfl]
theorem C4 {α:Type} [Inhabited α] {l:List α} {k:Nat} (h:k<l.length):l.drop k=gi l (k:Int)::l.drop (k+1):=by
 rw [List.drop_eq_getElem_cons h]
 congr 1
 unfold gi;rw [Int.toNat_natCast,List.getD_eq_getElem?_getD,List.getElem?_eq_getElem h]; rfl
theorem C5 {α:Type} [Inhabited α] {l:List α} {k:Nat} (h:k<l.length):gi l (k:Int)∈l:=by
 have:=List.getElem_mem h;unfold gi;rw [Int.toNat_natCast,List.getD_eq_getElem?_getD,List.getElem?_eq_getElem h]; exact this
theorem zbj {c g:Int} {l:List Int} {W:Q7}:Aj c (g::l) W=if (Em W c g).2=true then Aj c l (Em W c g).1 else ((Em W c g).1,false):=rfl
section
variable {base:Nat} {W:Q7} {m:MW} {w:World}
theorem TC {pb n:Nat} {l:List Int} {pO:OA} {pC:Nat} {w2:World} {bs:List Nat} {V:Q7} {m2:MW} (hp:XR Xh 1 Qb pb w pO pC l) (hpn:∀x∈Qu pO,x∉QF n m) (hM:Mv n base bs w m w2 V m2):XR Xh 1 Qb pb w2 pO pC l/\zkb bs w2 pO l:=by
 have h:=hp.ext hM.ext hpn
 exact ⟨h,h.rd ZO.len fun x hx hm=>by
  have:=(hp.lt x hx).2;have:=hM.new x hm;omega⟩
theorem Mv.put {n:Nat} {bs:List Nat} {w0 w w':World} {m0:MW} {b:Nat} (h:Mv n base bs w0 m0 w W m) (hx:Q0 bs w w') (hb:w.heap.size<=b):Mv n base (bs++[b]) w0 m0 w' W m:=(h.add hb).step (hx.mono fun x hm=>List.mem_append_left _ hm)
set_option maxHeartbeats 1000000 in
theorem Na {K c:Int} {l:List Int} {pO:OA} {pC pb:Nat} (h:Y8 8 base w W m) (sw:SW K W) (hbase:base<=w.heap.size) (hp:XR Xh 1 Qb pb w pO pC l) (hpn:∀x∈Qu pO,x∉QF 8 m) (hl4:l.length<=4) (c0:0<=c) (c1:c<(W.cpus.length:Int)) (hu:∀g∈l,Q6 W.groups g=true) (hd:∀g∈l,(gi W.groups g).band.quota≠0->gi (gi W.groups g).band.dry c=false) :
  Cz Tp #[.agg (Qa W m).toArray,.slice pO l.length pC,.int .i64 c] w fun e w'=>∃m',e = .returned (.tuple #[.agg (Qa W m).toArray,.bool (Aj c l W).2])/\Mv 8 base [] w m w' (Aj c l W).1 m':=by
 refine (BY W.now m.cO W.cpus.length m.cC m.tO W.tasks.length m.tC m.gO W.groups.length m.gC pO l.length pC c (R:=fun v w'=>∃m',v = .tuple #[.agg (Qa W m).toArray,.bool (Aj c l W).2]/\Mv 8 base [] w m w' (Aj c l W).1 m') ?_).mono fun e w' ⟨v,he,m',hv,h3⟩=>⟨m',by rw [he,hv],h3⟩
 intro x hx x1 hx1;have hgl:=sw.a.gl;have hnew:=Yd hx hx1
 refine ⟨fun vs w2=>∃(k:Nat) (r:List Value) (V:Q7) (m2:MW),vs = .int .i64 (k:Int)::r/\k<=l.length/\Mv 8 base [x,x1] w m w2 V m2/\Aj c l W=Aj c (l.drop k) V/\SW K V/\Ub W V/\∀g∈l.drop k,(gi V.groups g).band.quota≠0->gi (gi V.groups g).band.dry c=false,
  Zm l.length 0,fun wr hx3 _=>⟨0,_,W,m,rfl,Nat.zero_le _,(Mv.two h hx hx1).call0 hx3,rfl,sw,Ub.refl _,hd⟩,?_⟩
 rintro i1 ll l1O l1L l1C l2O l2L l2C l3O l3L l3C w2 hs2 ⟨k,r,V,m2,he,hk,hM2,hE,swV,oV,hdV⟩;simp only [List.cons.injEq,Value.int.injEq,true_and] at he;obtain ⟨rfl,_⟩:=he;have hmg:m2.gO=m.gO:=by rw [hM2.hd]
 have hr:=hM2.rd;have hglV:V.groups.length=8:=swV.a.gl;obtain ⟨_,hpr⟩:=TC hp hpn hM2;refine ⟨fun hlt => ?_,fun hge => ?_⟩
 ·have hlt':=of_decide_eq_true hlt;have hlt:k<l.length:=by omega
  have hdr:=C4 hlt;have hgu:=hu _ (C5 hlt);rw [hdr] at hE hdV;have hug:Q6 V.groups (gi l (k:Int))=true:=by rw [oV.g.usd]; exact hgu
  have hpc:=hpr (k:Int) (by omega) (by omega);have hpix:=hpr.ix VI (i:=(k:Int)) (by omega) (by omega);have hdk:=hdV _ List.mem_cons_self;generalize hgk:gi l (k:Int)=g at hE hdV hug hpc hdk hgu hdr;obtain ⟨u0,u1,hgg⟩:=swV.a.u hug;have hlt2:g<(V.groups.length:Int):=by omega
  have hix:Ix m.gO W.groups.length g:=by have:=hr.g.ix (i:=g) u0 hlt2; rwa [hglV,<-hgl,hmg] at this
  have hrow:=hr.g.cells g u0 hlt2;rw [hmg] at hrow;refine ⟨hpix,g,hpc,hix,_,_,_,_,_,_,_,_,_,_,_,_,_,_,_,_,_,_,_,_,hrow,fun b4 hb4=>⟨hrow,hpc,rfl,fun g1 => ?_,fun g1 => ?_⟩⟩
  ·have g1:(gi V.groups g).band.quota=0:=by simpa using g1
   have hT:Em V c g=(V,true):=by unfold Em; rw [if_pos g1]
   rw [zbj,hT,if_pos rfl] at hE;exact ⟨⟨by omega,by omega⟩,fun wr hx3 _=>⟨⟨k+1,_,V,m2,by simp; rfl,by omega,hM2.step hx3,hE,swV,oV,fun y hy=>hdV y (List.mem_cons_of_mem _ hy)⟩,QI (k:=k) rfl rfl hlt⟩⟩
  ·have g1:(gi V.groups g).band.quota≠0:=by simpa using g1
   obtain ⟨hb,hbl,_⟩:=hgg.band g1;have hclV:c<(V.cpus.length:Int):=by rw [oV.c]; exact c1
   have hcl:c<((gi V.groups g).band.locals.length:Int):=by omega
   intro wr3 hx3 hs4;have hM4:=hM2.put hx3 hb4;have hr4:=hM4.rd0;refine Calls.mono (XB (op:=⟨1,c,0⟩) hb (hr4.g.locals g u0 hlt2) (hr4.g.dry g u0 hlt2)) ?_;rintro e wv2 ⟨p,he,hO,hy⟩;rw [zm8 c0 hcl] at he hO;have hM5:=hM4.call0 hy;have hbs:base<=wr3.heap.size:=by have:=hM4.ext.size; omega
   have hOb:∀y∈Zz p,wr3.heap.size<=y:=fun y hy=>(hO.lt y hy).1
   have hput:=hM5.own.putB (i:=g) u0 (by omega) (hO.mono hbs) (fun y hy hm=>by have:=hOb y hy; have:=(hM4.own.lt y hm).2; omega);have hwr:=NB hM5.own hM5.nb (i:=g) u0 (by omega) (j:=8) (k:=5) (by decide);have hsz:=hM4.ext.size
   have hM6:=hM5.swap hput Hd rfl fun y hy=>by
    rcases Vf y hy with h1 | h1
    ·exact .inl h1
    ·rcases Ve y h1 with h2 | h2
     ·have:=hOb y h2;exact .inr ⟨by omega,fun hm=>by have:=hs4 y hm; omega⟩
     ·exact .inl (J1 (by omega) h2)
   rw [hmg] at hwr;have hgO:m2.gO=m.gO:=hmg;rw [hgO] at hM6;obtain ⟨_,hpr5⟩:=TC hp hpn hM5;have hpc5:=hpr5 (k:Int) (by omega) (by omega);rw [hgk] at hpc5;have hTk:Em V c g=(setBd V g (Yk (gi V.groups g).band c).1,decide ((Yk (gi V.groups g).band c).2≠2)):=by unfold Em; rw [if_neg g1]
   obtain ⟨tk,t2,_⟩:=zjx swV c0 hclV hug hdk;rw [zbj] at hE;refine ⟨_,_,_,_,_,_,_,_,_,_,he,Qf hy hs4,fun b5 hb5=>⟨hpix,g,hpc5,hix,hwr,fun g2 wr6 hx6 => ?_,fun g2=>⟨⟨by omega,by omega⟩,fun wr6 hx6 hs6=>⟨⟨k+1,_,setBd V g (Yk (gi V.groups g).band c).1,_,by simp; rfl,by omega,(hM6.step hx6).sub' (by simp),?_,?_,?_,fun y hy hq => ?_⟩,QI (k:=k) rfl rfl hlt⟩⟩⟩⟩
   ·have g2:(Yk (gi V.groups g).band c).2=2:=by simpa using g2
    have:(Em V c g).2=false:=by rw [hTk]; simp [g2]
    rw [hE,this,if_neg (by decide),hTk];exact ⟨_,rfl,(hM6.step hx6).close⟩
   all_goals
    have g2:(Yk (gi V.groups g).band c).2≠2:=by simpa using g2
    have ht2:(Em V c g).2=true:=by rw [hTk]; simp [g2]
    have hT1:(Em V c g).1=setBd V g (Yk (gi V.groups g).band c).1:=by rw [hTk]
   ·rw [hE,if_pos ht2,hT1]
   ·rw [<-hT1]; exact tk.sw
   ·rw [<-hT1]; exact oV.trans tk.o
   ·have y0:=(Q4.1 (hu y (List.mem_of_mem_drop hy))).1;rw [<-hT1] at hq ⊢;rw [tk.q y y0] at hq;exact (t2 ht2).2 y y0 (hdV y (List.mem_cons_of_mem _ hy)) hq
 ·have hge:=of_decide_eq_false hge;have hk2:k=l.length:=by omega
  subst hk2;rw [List.drop_length] at hE;rw [hE];exact fun w3 hx3=>⟨m2,rfl,(hM2.step hx3).close⟩
theorem N7 {c n:Int} {l:List Int} {pO:OA} {pC:Nat} {bs:List Nat} (h:Xo bs w W m) (ha:WA W) (hp:zkb bs w pO l) (hl4:l.length<=4) (c0:0<=c) (c1:c<(W.cpus.length:Int)) (hu:∀g∈l,Q6 W.groups g=true) :
  PX bs Tm #[.agg (Qa W m).toArray,.slice pO l.length pC,.int .i64 c,.int .i64 n] w (.int .i64 (Fy W c l n)):=
 Nt W.now m.cO W.cpus.length m.cC m.tO W.tasks.length m.tC m.gO W.groups.length m.gC pO l.length pC c n fun wr hx=>by
  have h:=(h.ext hx).less (cs:=[]) (by simp);have hp:=(hp.ext hx).less (cs:=[]) (by simp);intro _ _;refine Tx l.length 0 rfl (fun y k=>k<=l.length/\Fy W c l n=Fy W c (l.drop k) y) ⟨Nat.zero_le _,rfl⟩ fun y k ⟨hk,hy⟩=>⟨fun hlt => ?_,fun hge => ?_⟩
  ·have hlt':=of_decide_eq_true hlt;have hlt:k<l.length:=by omega
   have hdr:=C4 hlt;have hgu:=hu _ (C5 hlt);rw [hdr] at hy;have hpc:=hp (k:Int) (by omega) (by omega);generalize gi l (k:Int)=g at hy hpc hgu;obtain ⟨u0,u1,hgg⟩:=ha.u hgu;have hgl:=ha.gl;have hyy:Fy W c (g::l.drop (k+1)) y=Fy W c (l.drop (k+1)) (zaj W c g y):=rfl;rw [hyy] at hy;refine ⟨hp.ix VI (i:=(k:Int)) (by omega) (by omega),g,hpc,h.g.ix u0 (by omega),_,_,_,_,_,_,_,_,_,h.g.band u0 (by omega),fun b1 hb1=>⟨h.g.band u0 (by omega),hpc,rfl,fun g1 => ?_,fun g1 => ?_⟩⟩
   ·have g1:=of_decide_eq_true g1;obtain ⟨hb,hbl,_⟩:=hgg.band (by omega);have hLo:=h.g.locals g u0 (by omega);refine ⟨hLo.ix VI c0 (by omega),_,hLo c c0 (by omega),_,Xu,⟨by omega,by omega⟩,QA (by omega) ⟨by omega,?_⟩⟩;rw [hy]; unfold zaj; rw [if_pos g1]
   ·have g1:=of_decide_eq_false g1;refine ⟨⟨by omega,by omega⟩,QA (by omega) ⟨by omega,?_⟩⟩;rw [hy]; unfold zaj; rw [if_neg g1]
  ·have hge:=of_decide_eq_false hge;have:k=l.length:=by omega
   subst this;rw [List.drop_length] at hy;show Value.int .i64 y=_;rw [hy]; rfl
end
theorem CY {c n g:Int} {l:List Int} {W:Q7}:AH c n (g::l) W=AH c n l (EP W c n g):=rfl
theorem M7 (W:Q7) (c n g:Int):(Pp W c n g).groups.length=W.groups.length:=by simp [Pp,setSh,setGr]
theorem zby {W:Q7} {c n g:Int} (u0:0<=g) (u1:g<(W.groups.length:Int)):gi (Pp W c n g).groups g={ gi W.groups g with shelves:=(gi W.groups g).shelves.set c.toNat (E8 W c n g) }:=by
 unfold Pp setSh;rw [Y4 u0 u1 u0,if_pos rfl]
theorem zb0 {W:Q7} {c n g:Int} (u0:0<=g) (u1:g<(W.groups.length:Int)):gi (setGr (Pp W c n g) g (Hq W c n g)).groups g=Hq W c n g:=by
 rw [Y4 u0 (by rw [M7]; exact u1) u0,if_pos rfl]
theorem EQ {W:Q7} {c n g:Int} (u0:0<=g) (u1:g<(W.groups.length:Int)):(Hq W c n g).band=(gi W.groups g).band:=by
 unfold Hq;rw [zby u0 u1]
theorem CX {W:Q7} {c n g:Int} (u0:0<=g) (u1:g<(W.groups.length:Int)) (h:¬(gi W.groups g).band.quota>0):EP W c n g=setGr (Pp W c n g) g (Hq W c n g):=by
 unfold EP NG;rw [if_neg h,<-EQ (c:=c) (n:=n) u0 u1];have:=zb0 (c:=c) (n:=n) u0 u1
 conv=>lhs; arg 3; rw [<-this]
 exact zc2 u0 (by simp only [setGr,List.length_set]; rw [M7]; exact u1)
section
variable {base:Nat} {W:Q7} {m:MW} {w:World}
set_option maxHeartbeats 2000000 in
theorem DN {K S t c n:Int} {pO:OA} {pC pb:Nat} (h:Y8 8 base w W m) (hbase:base<=w.heap.size) (hp:XR Xh 1 Qb pb w pO pC (Yj W t)) (hpn:∀x∈Qu pO,x∉QF 8 m)
  (sw:SW K W) (rb:RB S W) (hK:0<=K/\K<=60000000000000000) (hS:0<=S/\S<=60000000000000000) (c0:0<=c) (c1:c<(W.cpus.length:Int)) (up:(gi W.cpus c).up=true) (ran:(gi W.cpus c).ran<50) (t0:0<=t) (t1:t<12) (hu:Q6 W.groups (Q8 W t).group=true) (n0:0<=n) (n1:n<=100) :
  Cz V6 #[.agg (Qa W m).toArray,.int .i64 t,.slice pO (Yj W t).length pC,.int .i64 c,.int .i64 n] w fun e w'=>∃m',e = .returned (.agg (Qa (Qg (Tc W c t n)) m').toArray)/\Mv 8 base [] w m w' (Qg (Tc W c t n)) m':=by
 obtain ⟨sE,rE,_,_,hlE,_,s1,r1,cp1⟩:=AI sw rb (by omega) c0 c1 up ran t0 t1 hu n0 n1;obtain ⟨pin,plen⟩:=Eh sw.a hu;refine (Dt W.now m.cO W.cpus.length m.cC m.tO W.tasks.length m.tC m.gO W.groups.length m.gC t pO (Yj W t).length pC c n (R:=fun v w'=>∃m',v = .agg (Qa (Qg (Tc W c t n)) m').toArray/\Mv 8 base [] w m w' (Qg (Tc W c t n)) m') ?_).mono fun e w' ⟨v,he,m',hv,h3⟩=>⟨m',by rw [he,hv],h3⟩
 intro x hx x1 hx1;have hgl:=sw.a.gl;have htl:=sw.a.t;have hlg:Qj=34686091440:=rfl;have hr0:=h.rd (bs:=[]) (by simp);have hix:=hr0.t.ix QJ t0 (by omega);have htv:=sw.tv t t0 t1;have htr:=rb.t t t0 t1;have hv:=Mo n (Qd (Q8 W t).nice) n0 n1;refine ⟨hix,_,_,_,_,_,_,_,_,_,hr0.t t t0 (by omega),fun x2 hx2=>⟨_,Zq,_,YG,⟨?_,?_⟩,⟨?_,?_⟩,⟨?_,?_⟩,hix,CS h (by simp) t0 (by omega) (j:=0) (by decide),?_⟩⟩
 ·show _<=(Q8 W t).v+Z4 n (Qd (Q8 W t).nice); omega
 ·show (Q8 W t).v+Z4 n (Qd (Q8 W t).nice)<=_; omega
 ·show _<=(Q8 W t).sum+n; omega
 ·show (Q8 W t).sum+n<=_; omega
 ·show _<=(Q8 W t).used+n; omega
 ·show (Q8 W t).used+n<=_; omega
 have eT:Y8 8 base (sto w m.tO (Int.toNat t*9) (Yz (Pq W t n))) (setTk W t (Pq W t n)) m:=h.stoT t0 (by omega) (j:=0) (vs:=Yz (Pq W t n)) (x:=Pq W t n) (by simp [Yz]) (by simp [Yz]);have hM1:Mv 8 base [x,x1,x2] w m (sto w m.tO (Int.toNat t*9) (Yz (Pq W t n))) (setTk W t (Pq W t n)) m:=((Mv.two h hx hx1).add hx2).deed eT MD
 refine ⟨fun vs w2=>∃(k:Nat) (V:Q7) (m2:MW),vs=[.int .i64 (k:Int)]/\k<=(Yj W t).length/\Mv 8 base [x,x1,x2] w m w2 V m2/\AH c n (Yj W t) (setTk W t (Pq W t n))=AH c n ((Yj W t).drop k) V/\zj5 (K+Qj+Qj*(k:Int)) (S+100+100*(k:Int)) c n (setTk W t (Pq W t n)) V,
  Zm (Yj W t).length 0,fun wr hx3 _=>⟨0,_,m,rfl,Nat.zero_le _,hM1.call0 hx3,rfl,⟨s1.mono (by simp),r1.mono (by simp),rfl,rfl,rfl,QM.refl _,fun _ _=>rfl⟩⟩,?_⟩
 rintro i1 w2 hs2 ⟨k,V,m2,he,hk,hM2,hE,hC⟩;simp only [List.cons.injEq,Value.int.injEq,true_and,and_true] at he;subst he;have hkk:0<=Qj*(k:Int)/\Qj*(k:Int)<=138744365760:=by simp only [Qj]; omega
 have hk1:Qj*((k+1:Nat):Int)=Qj*(k:Int)+Qj:=by simp only [Qj]; omega
 have hmg:m2.gO=m.gO:=by rw [hM2.hd]
 have hmc:m2.cO=m.cO:=by rw [hM2.hd]
 have hr:=hM2.rd;have hglV:V.groups.length=8:=hC.sw.a.gl;have hclV:V.cpus.length=W.cpus.length:=by rw [hC.cp]; rfl
 obtain ⟨_,hpr⟩:=TC hp hpn hM2;refine ⟨fun hlt => ?_,fun hge => ?_⟩
 ·have hlt':=of_decide_eq_true hlt;have hlt:k<(Yj W t).length:=by omega
  have hdr:=C4 hlt;have hgu:=pin _ (C5 hlt);rw [hdr,CY] at hE;have hug:Q6 V.groups (gi (Yj W t) (k:Int))=true:=by rw [hC.g.usd]; exact hgu
  have hpc:=hpr (k:Int) (by omega) (by omega);have hpix:=hpr.ix VI (i:=(k:Int)) (by omega) (by omega);generalize hgk:gi (Yj W t) (k:Int)=g at hE hug hpc hgu hdr;have hC2:=hC.trans (zbz hC.sw hC.rb (by omega) c0 (by rw [hclV]; exact c1) hug n0 n1);have hC3:zj5 (K+Qj+Qj*((k+1:Nat):Int)) (S+100+100*((k+1:Nat):Int)) c n (setTk W t (Pq W t n)) (EP V c n g):=⟨hC2.sw.mono (by omega),hC2.rb.mono (by omega),hC2.now,hC2.t,hC2.cp,hC2.g,hC2.p⟩;obtain ⟨u0,u1,hgg⟩:=hC.sw.a.u hug;have hlt2:g<(V.groups.length:Int):=by omega
  have hsl:=hC.sw.a.sl hug;have hcs:c<((gi V.groups g).shelves.length:Int):=by omega
  have hixg:Ix m.gO W.groups.length g:=by have:=hr.g.ix (i:=g) u0 hlt2; rwa [hglV,<-hgl,hmg] at this
  have hrow:=hr.g.cells g u0 hlt2;rw [hmg] at hrow;have hss:=hr.g.shelves g u0 hlt2;have hsc:=hss c c0 hcs;have hixs:=hss.ix ZK c0 hcs;have hsv:=hC.sw.s g c hug c0 (by rw [hclV]; exact c1);have hsr:=hC.rb.s g c hug c0 (by rw [hclV]; exact c1);have hgr:=hC.rb.g g hug;have hv2:=Mo n (Qc V g c).w n0 n1;refine ⟨hpix,g,hpc,hixg,_,_,_,_,_,_,_,_,_,_,_,_,_,_,_,_,_,_,_,_,hrow,fun b3 hb3=>⟨hrow,hpc,rfl,hixs,_,_,_,_,_,hsc,fun b4 hb4=>⟨hpix,g,hpc,?_⟩⟩⟩
  have eA:∀s:Pi,s=E8 V c n g->Y8 8 base (sto w2 (m2.ms g.toNat).sO (Int.toNat c*5) (OV s)) (Pp V c n g) m2:=fun s hs=>by
   subst hs;exact hM2.own.stoS u0 (by omega) c0 hcs (j:=0) (vs:=OV (E8 V c n g)) (x:=E8 V c n g) (by simp [OV]) (by simp [OV])
  have hwrS:=zm0 hM2.own hM2.nb (i:=g) u0 (by omega) c0 hcs (j:=0) (k:=5) (by decide);have hshl:=hr.g.shelf (i:=g) u0 hlt2;rw [hmg] at hshl;refine ⟨fun g1 => ?_,fun g1 => ?_⟩
  ·have g1:g≠0:=by simpa using g1
   have hs:(⟨(Qc V g c).floor,(Qc V g c).on,(Qc V g c).v+Z4 n (Qc V g c).w,(Qc V g c).w,(Qc V g c).sum+n⟩:Pi)=E8 V c n g:=by unfold E8; rw [if_pos g1]
   have eA:=eA _ hs;refine ⟨_,YG,⟨?_,?_⟩,⟨?_,?_⟩,hpix,g,hpc,hixg,_,_,_,hshl,hixs,hwrS,hpix,g,?_,⟨?_,?_⟩,hixg,?_,?_⟩
   ·show _<=(Qc V g c).v+Z4 n (Qc V g c).w; omega
   ·show (Qc V g c).v+Z4 n (Qc V g c).w<=_; omega
   ·show _<=(Qc V g c).sum+n; omega
   ·show (Qc V g c).sum+n<=_; omega
   ·have:=(TC hp hpn (hM2.deed eA (E3 (by omega)))).2 (k:Int) (by omega) (by omega);rw [hgk] at this;exact this
   ·show _<=(gi V.groups g).sum+n; omega
   ·show (gi V.groups g).sum+n<=_; omega
   ·have:=NB eA hM2.nb (i:=g) u0 (by omega) (j:=7) (k:=1) (by decide);rw [hmg] at this;exact this
   have hM3:=((hM2.add hb3).add hb4).deed eA (E3 (by omega));have eU:=eA.stoG0 (i:=g) u0 (by omega) (g:=Hq V c n g) rfl rfl rfl (j:=7) (vs:=[.int .i64 ((gi V.groups g).sum+n)]) (by unfold Hq; rw [zby u0 hlt2]; rfl) (by simp);have hM4:=hM3.deed eU Hd;rw [hmg] at hM4;have hM4:Mv 8 base [x,x1,x2,b3,b4] w m _ (setGr (Pp V c n g) g (Hq V c n g)) m2:=hM4;have hgb:=EQ (c:=c) (n:=n) u0 hlt2;have hgi:=zb0 (c:=c) (n:=n) u0 hlt2;have hl5:(setGr (Pp V c n g) g (Hq V c n g)).groups.length=V.groups.length:=by simp only [setGr,List.length_set]; exact M7 _ _ _ _
   have hnone:=CX (c:=c) (n:=n) u0 hlt2;have hdef:EP V c n g=setBd (setGr (Pp V c n g) g (Hq V c n g)) g (NG V c n g):=rfl;generalize setGr (Pp V c n g) g (Hq V c n g)=V5 at hM4 hgi hl5 hnone hdef;refine ⟨fun g2 wr1 hx3 hs3 => ?_,fun g2=>⟨⟨by omega,by omega⟩,fun wr1 hx3 _=>⟨⟨k+1,EP V c n g,m2,by simp,by omega,?_,hE,hC3⟩,QI (k:=k) rfl rfl hlt⟩⟩⟩
   ·have g2:(gi V.groups g).band.quota>0:=of_decide_eq_true g2;have hB:NG V c n g=(Ym (gi V.groups g).band ⟨2,c,n⟩).1:=by unfold NG; rw [if_pos g2]
    rw [hB] at hdef;obtain ⟨hb,hbl,_⟩:=hgg.band (by omega);have hM6:Mv 8 base [x,x1,x2,b3,b4] w m wr1 V5 m2:=hM4.step (hx3.mono fun y hy=>by simp only [List.mem_cons,List.not_mem_nil,or_false] at hy ⊢; rcases hy with h | h | h <;> simp [h]);have hr6:=hM6.rd0;have hg5:g<(V5.groups.length:Int):=by rw [hl5]; exact hlt2
    have hLo:=hr6.g.locals g u0 hg5;have hDo:=hr6.g.dry g u0 hg5;rw [hgi,hgb] at hLo hDo;refine Calls.mono (XB (op:=⟨2,c,n⟩) hb hLo hDo) ?_;rintro e wv2 ⟨p,he,hO,hy⟩;have hM7:=hM6.call0 hy;have hbs:base<=wr1.heap.size:=by have:=hM6.ext.size; omega
    have hOb:∀y∈Zz p,wr1.heap.size<=y:=fun y hy=>(hO.lt y hy).1
    have hput:=hM7.own.putB (i:=g) u0 (by omega) (hO.mono hbs) (fun y hy hm=>by have:=hOb y hy; have:=(hM6.own.lt y hm).2; omega);have hwr:=NB hM7.own hM7.nb (i:=g) u0 (by omega) (j:=8) (k:=5) (by decide);have hsz:=hM6.ext.size
    have hM8:=hM7.swap hput Hd rfl fun y hy=>by
     rcases Vf y hy with h1 | h1
     ·exact .inl h1
     ·rcases Ve y h1 with h2 | h2
      ·have:=hOb y h2;exact .inr ⟨by omega,fun hm=>by have:=hs3 y hm; omega⟩
      ·exact .inl (J1 (by omega) h2)
    rw [hmg] at hwr hM8;rw [<-hdef] at hM8;have hpc7:=(TC hp hpn hM7).2 (k:Int) (by omega) (by omega);rw [hgk] at hpc7;exact ⟨_,_,_,_,_,_,_,_,_,_,he,Qf hy hs3,fun b5 hb5=>⟨hpix,g,hpc7,hixg,hwr,⟨by omega,by omega⟩,fun wr6 hx6 _=>⟨⟨k+1,EP V c n g,_,by simp,by omega,(hM8.step hx6).sub' (by simp),hE,hC3⟩,QI (k:=k) rfl rfl hlt⟩⟩⟩
   ·have g2:¬(gi V.groups g).band.quota>0:=of_decide_eq_false g2;rw [hnone g2];exact (hM4.sub' (cs:=[x,x1,x2]) (fun y hy=>by simp only [List.mem_cons,List.not_mem_nil,or_false] at hy ⊢; rcases hy with h | h | h <;> simp [h])).step hx3
  ·have g1:¬g≠0:=by simpa using g1
   have hs:(⟨(Qc V g c).floor,(Qc V g c).on,(Qc V g c).v,(Qc V g c).w,(Qc V g c).sum+n⟩:Pi)=E8 V c n g:=by unfold E8; rw [if_neg g1]
   have eA:=eA _ hs;refine ⟨⟨?_,?_⟩,hpix,g,hpc,hixg,_,_,_,hshl,hixs,hwrS,hpix,g,?_,⟨?_,?_⟩,hixg,?_,?_⟩
   ·show _<=(Qc V g c).sum+n; omega
   ·show (Qc V g c).sum+n<=_; omega
   ·have:=(TC hp hpn (hM2.deed eA (E3 (by omega)))).2 (k:Int) (by omega) (by omega);rw [hgk] at this;exact this
   ·show _<=(gi V.groups g).sum+n; omega
   ·show (gi V.groups g).sum+n<=_; omega
   ·have:=NB eA hM2.nb (i:=g) u0 (by omega) (j:=7) (k:=1) (by decide);rw [hmg] at this;exact this
   have hM3:=((hM2.add hb3).add hb4).deed eA (E3 (by omega));have eU:=eA.stoG0 (i:=g) u0 (by omega) (g:=Hq V c n g) rfl rfl rfl (j:=7) (vs:=[.int .i64 ((gi V.groups g).sum+n)]) (by unfold Hq; rw [zby u0 hlt2]; rfl) (by simp);have hM4:=hM3.deed eU Hd;rw [hmg] at hM4;have hM4:Mv 8 base [x,x1,x2,b3,b4] w m _ (setGr (Pp V c n g) g (Hq V c n g)) m2:=hM4;have hgb:=EQ (c:=c) (n:=n) u0 hlt2;have hgi:=zb0 (c:=c) (n:=n) u0 hlt2;have hl5:(setGr (Pp V c n g) g (Hq V c n g)).groups.length=V.groups.length:=by simp only [setGr,List.length_set]; exact M7 _ _ _ _
   have hnone:=CX (c:=c) (n:=n) u0 hlt2;have hdef:EP V c n g=setBd (setGr (Pp V c n g) g (Hq V c n g)) g (NG V c n g):=rfl;generalize setGr (Pp V c n g) g (Hq V c n g)=V5 at hM4 hgi hl5 hnone hdef;refine ⟨fun g2 wr1 hx3 hs3 => ?_,fun g2=>⟨⟨by omega,by omega⟩,fun wr1 hx3 _=>⟨⟨k+1,EP V c n g,m2,by simp,by omega,?_,hE,hC3⟩,QI (k:=k) rfl rfl hlt⟩⟩⟩
   ·have g2:(gi V.groups g).band.quota>0:=of_decide_eq_true g2;have hB:NG V c n g=(Ym (gi V.groups g).band ⟨2,c,n⟩).1:=by unfold NG; rw [if_pos g2]
    rw [hB] at hdef;obtain ⟨hb,hbl,_⟩:=hgg.band (by omega);have hM6:Mv 8 base [x,x1,x2,b3,b4] w m wr1 V5 m2:=hM4.step (hx3.mono fun y hy=>by simp only [List.mem_cons,List.not_mem_nil,or_false] at hy ⊢; rcases hy with h | h | h <;> simp [h]);have hr6:=hM6.rd0;have hg5:g<(V5.groups.length:Int):=by rw [hl5]; exact hlt2
    have hLo:=hr6.g.locals g u0 hg5;have hDo:=hr6.g.dry g u0 hg5;rw [hgi,hgb] at hLo hDo;refine Calls.mono (XB (op:=⟨2,c,n⟩) hb hLo hDo) ?_;rintro e wv2 ⟨p,he,hO,hy⟩;have hM7:=hM6.call0 hy;have hbs:base<=wr1.heap.size:=by have:=hM6.ext.size; omega
    have hOb:∀y∈Zz p,wr1.heap.size<=y:=fun y hy=>(hO.lt y hy).1
    have hput:=hM7.own.putB (i:=g) u0 (by omega) (hO.mono hbs) (fun y hy hm=>by have:=hOb y hy; have:=(hM6.own.lt y hm).2; omega);have hwr:=NB hM7.own hM7.nb (i:=g) u0 (by omega) (j:=8) (k:=5) (by decide);have hsz:=hM6.ext.size
    have hM8:=hM7.swap hput Hd rfl fun y hy=>by
     rcases Vf y hy with h1 | h1
     ·exact .inl h1
     ·rcases Ve y h1 with h2 | h2
      ·have:=hOb y h2;exact .inr ⟨by omega,fun hm=>by have:=hs3 y hm; omega⟩
      ·exact .inl (J1 (by omega) h2)
    rw [hmg] at hwr hM8;rw [<-hdef] at hM8;have hpc7:=(TC hp hpn hM7).2 (k:Int) (by omega) (by omega);rw [hgk] at hpc7;exact ⟨_,_,_,_,_,_,_,_,_,_,he,Qf hy hs3,fun b5 hb5=>⟨hpix,g,hpc7,hixg,hwr,⟨by omega,by omega⟩,fun wr6 hx6 _=>⟨⟨k+1,EP V c n g,_,by simp,by omega,(hM8.step hx6).sub' (by simp),hE,hC3⟩,QI (k:=k) rfl rfl hlt⟩⟩⟩
   ·have g2:¬(gi V.groups g).band.quota>0:=of_decide_eq_false g2;rw [hnone g2];exact (hM4.sub' (cs:=[x,x1,x2]) (fun y hy=>by simp only [List.mem_cons,List.not_mem_nil,or_false] at hy ⊢; rcases hy with h | h | h <;> simp [h])).step hx3
 ·have hge:=of_decide_eq_false hge;have hk2:k=(Yj W t).length:=by omega
  subst hk2;rw [List.drop_length] at hE;have hE:AH c n (Yj W t) (setTk W t (Pq W t n))=V:=hE;have hcV:V.cpus=W.cpus:=hC.cp;have cV:c<(V.cpus.length:Int):=by rw [hclV]; exact c1
  have hixc:Ix m.cO W.cpus.length c:=by have:=hr.c.ix ZZ c0 cV; rwa [hclV,hmc] at this
  have hcr:=rb.c c c0 c1;have e1:=hM2.own.stoC c0 cV (j:=3) (vs:=[.int .i64 ((gi W.cpus c).busy+n)]) (x:={ gi W.cpus c with busy:=(gi W.cpus c).busy+n }) (by rw [hcV]; rfl) (by simp);have hl1:(V.cpus.set c.toNat { gi W.cpus c with busy:=(gi W.cpus c).busy+n }).length=V.cpus.length:=List.length_set;have hg1:gi (V.cpus.set c.toNat { gi W.cpus c with busy:=(gi W.cpus c).busy+n }) c={ gi W.cpus c with busy:=(gi W.cpus c).busy+n }:=(Qt _ _ c0 cV c0).trans (if_pos rfl);have e2:=e1.stoC c0 (by simpa using cV) (j:=2) (vs:=[.int .i64 ((gi W.cpus c).ran+n)]) (x:=zdw W c n) (by rw [hg1]; rfl) (by simp);have hb:=hr.c.f c0 cV (j:=3) rfl;have hw1:=zg4 hM2.own hM2.nb c0 cV (j:=3) (k:=1) (by decide);have hM3:=hM2.deed e1 Ny;have hrn:=hM3.rd.c.f c0 (by show c<((V.cpus.set c.toNat { gi W.cpus c with busy:=(gi W.cpus c).busy+n }).length:Int); rw [hl1]; exact cV) (j:=2) rfl;have hw2:=zg4 e1 hM2.nb c0 (by show c<((V.cpus.set c.toNat { gi W.cpus c with busy:=(gi W.cpus c).busy+n }).length:Int); rw [hl1]; exact cV) (j:=2) (k:=1) (by decide);rw [hmc] at hb hw1 hrn hw2;rw [hcV] at hb;rw [show gi ({ V with cpus:=V.cpus.set c.toNat { gi W.cpus c with busy:=(gi W.cpus c).busy+n } }:Q7).cpus c=_ from hg1] at hrn;have hM4:=hM3.deed e2 Ny
  have hW4:({ V with cpus:=(V.cpus.set c.toNat { gi W.cpus c with busy:=(gi W.cpus c).busy+n }).set c.toNat (zdw W c n) }:Q7)=Tc W c t n:=by
   unfold Tc setCp;rw [hE,List.set_set]
  rw [hmc] at hM4;have hM4:Mv 8 base [x,x1,x2] w m _ ({ V with cpus:=(V.cpus.set c.toNat { gi W.cpus c with busy:=(gi W.cpus c).busy+n }).set c.toNat (zdw W c n) }:Q7) m2:=hM4;rw [hW4] at hM4;refine ⟨hixc,_,hb,⟨?_,?_⟩,hixc,hw1,hixc,_,hrn,⟨?_,?_⟩,hixc,hw2,fun wr7 hx7 hs7 => ?_⟩
  ·show _<=(gi W.cpus c).busy+n; omega
  ·show (gi W.cpus c).busy+n<=_; omega
  ·show _<=(gi W.cpus c).ran+n; omega
  ·show (gi W.cpus c).ran+n<=_; omega
  have hM7:=hM4.step hx7;have hsz:=hM7.ext.size;have hcall:=Qm hM7.own sE (by omega) (by omega) (by omega);rw [show Qa (Tc W c t n) m2=Qa W m from hM7.encW_eq (by rw [show (Tc W c t n).now=V.now from by rw [<-hW4]]; exact hC.now) hlE (by rw [<-hW4,show ({ V with cpus:=(V.cpus.set c.toNat { gi W.cpus c with busy:=(gi W.cpus c).busy+n }).set c.toNat (zdw W c n) }:Q7).tasks=V.tasks from rfl,hC.t]; simp [setTk]) (by rw [<-hW4]; exact hC.g.len)] at hcall;refine Calls.mono hcall ?_;rintro e wv ⟨m3,he,hy⟩;exact ⟨_,_,_,_,_,_,_,_,_,_,he,hM7.kept hy hs7,fun wr8 hx8=>⟨m3,rfl,((hM7.call hy hs7).step hx8).close⟩⟩
end
end Go.Proofs.YtclpmgfpjeaibaaGreat
