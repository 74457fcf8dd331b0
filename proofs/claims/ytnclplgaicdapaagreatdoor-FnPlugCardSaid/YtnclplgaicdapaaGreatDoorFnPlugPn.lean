/- Part 14 of what the law FnPlug needs. -/
import Derived.Test.YtnclplgaicdapaaGreatDoorFnPlugPm
set_option linter.unusedVariables false
set_option linter.unusedSimpArgs false
set_option maxRecDepth 100000
set_option maxHeartbeats 8000000
namespace Go.Proofs.YtnclplgaicdapaaGreatDoor
open Go.RowKit
def z1c(W:Q8)(t b c:Int):Bool:=(F3 W c==0)||decide (F3 W c+Qf (Q7 W t).nice<=F3 W b-Qf (Q7 W t).nice)
def zf5(W:Q8)(b c:Int)(t:Nat):Bool:=(((Q7 W (t:Int)).IZ==b)&&UD W (t:Int) c)&&z1c W (t:Int) b c
def ON(W:Q8)(b c:Int):Nat->Nat->Int
 | 0,_ => -1
 | f+1,j=>if zf5 W b c j=true then (j:Int) else ON W b c f (j+1)
theorem zra{W:Q8}{b c:Int}{f j:Nat}(h:zf5 W b c j=true):ON W b c (f+1) j=(j:Int):=C' h
theorem zm4{W:Q8}{b c:Int}{f j:Nat}(h:zf5 W b c j=false):ON W b c (f+1) j=ON W b c f (j+1):=B' (by rw[h]; decide)
noncomputable def zli(W:Q8)(c:Int):Nat->Nat->Int
 | 0,_ => -1
 | f+1,k=>if OF W c (k:Int)<0 then zli W c f (k+1) else if ON W (OF W c (k:Int)) c 12 0<0 then zli W c f (k+1) else ON W (OF W c (k:Int)) c 12 0
noncomputable def Kq(W:Q8)(c:Int):Int:=zli W c (Cq (W.ID.length:Int)).toNat 0
theorem zlk{W:Q8}{c:Int}{f k:Nat}(h:OF W c (k:Int)<0):zli W c (f+1) k=zli W c f (k+1):=C' h
theorem zlj{W:Q8}{c:Int}{f k:Nat}(h:ON W (OF W c (k:Int)) c 12 0<0):zli W c (f+1) k=zli W c f (k+1):=by
 simp only[zli]
 by_cases h0:OF W c (k:Int)<0
 ·rw[C' h0]
 ·rw[B' h0,C' h]
theorem zll{W:Q8}{c:Int}{f k:Nat}(h0:¬OF W c (k:Int)<0)(h:¬ON W (OF W c (k:Int)) c 12 0<0):zli W c (f+1) k=ON W (OF W c (k:Int)) c 12 0:=by
 simp only[zli];rw[B' h0,B' h]
theorem zbt{W:Q8}(wp:XS W)(c:Int):0<=F3 W c/\F3 W c<=240:=by
 have:=VE (Nm W c) W.tasks.length;have ht:=wp.a.t;unfold F3;omega
section
variable {W:Q8}{m:MW}{w:Wo}{bs:List Nat}{p:OA}
theorem zbm{t b c:Int}(h:XQ bs w W m)(wp:XS W)(t0:0<=t)(t1:t<(W.tasks.length:Int)):PX bs P2 #[.agg (Qa W m).toArray,I t,I b,I c] w (.bool (z1c W t b c)):=
 zcf _ _ _ _ _ _ _ _ _ _ t b c fun wr hx=>by
  have h:=(h.ext hx).less (cs:=[]) Qs;have r1:=zbt wp c;have r2:=zbt wp b;have r3:0<=Qf (gi W.tasks t).nice/\Qf (gi W.tasks t).nice<=20:=Jb _;exact fun _ _=>⟨_,Tf h wp,h.t.ix QG t0 t1,_,h.t.f t0 t1 (j:=3) rfl,_,ZK,fun _=>⟨Qo,Qo⟩,_,fun _=>Tf h wp,fun _=>⟨Qo,Qo⟩,rfl⟩
theorem zbn{c:Int}(h:XQ bs w W m)(wp:XS W)(c0:0<=c)(c1:c<(W.ID.length:Int)):PX bs P3 #[.agg (Qa W m).toArray,I c] w (I (Kq W c)):=
 zch _ _ _ _ _ _ _ _ _ _ c fun wr hx=>by
  have h:=(h.ext hx).less (cs:=[]) Qs;have hlv:=zpj (W.ID.length:Int);have iX:=wp.a.t;intro _ _;refine Xw 2 0 rfl (fun k=>(k:Int)<=Cq (W.ID.length:Int)/\zli W c ((Cq (W.ID.length:Int)).toNat-k) k=Kq W c) ⟨hlv.1,rfl⟩ fun k ⟨hk,hI⟩=>⟨_,Pg,fun IS=>?_,fun Ry=>?_⟩
  ·have IS:=Ot IS;have ek:(Cq (W.ID.length:Int)).toNat-k=((Cq (W.ID.length:Int)).toNat-(k+1))+1:=Qo;rw[ek] at hI;have nxt:zli W c ((Cq (W.ID.length:Int)).toNat-(k+1)) (k+1)=Kq W c->((k+1:Nat):Int)<=Cq (W.ID.length:Int)/\zli W c ((Cq (W.ID.length:Int)).toNat-(k+1)) (k+1)=Kq W c:=fun hp=>⟨Qo,hp⟩
   refine⟨_,ER,_,EW h wp c0 c1,fun g=>⟨⟨Qo,Qo⟩,QB Qo (nxt ?_)⟩,fun g=>?_⟩
   ·rw[<-hI,zlk (show OF W c (k:Int)<0 from Ot g)]
   ·have g:¬OF W c (k:Int)<0:=Ou g;refine Xw 12 0 rfl (fun j=>j<=12/\ON W (OF W c (k:Int)) c (12-j) j=ON W (OF W c (k:Int)) c 12 0) ⟨Ic _,rfl⟩ fun j ⟨hj,hF⟩=>⟨fun Rr=>?_,fun aP=>?_⟩
    ·have Rr:=Ot Rr;have tF:j<12:=Qo;rw[show 12-j=(12-(j+1))+1 by omega] at hF;refine⟨h.t.ix QG Qo Rr,_,h.t.f Qo Rr (j:=2) rfl,_,fun _=>Lc h wp Qo Rr c0 c1,_,fun _=>zbm h wp Qo Rr,fun g2=>?_,fun g2=>⟨⟨Qo,Qo⟩,QB tF ⟨Qo,?_⟩⟩⟩
     ·have g2:zf5 W (OF W c (k:Int)) c j=true:=g2;rw[zra g2] at hF;rw[<-hI,zll g (by rw[<-hF]; omega),<-hF]
     ·have g2:zf5 W (OF W c (k:Int)) c j=false:=g2;rw[<-hF,zm4 g2]
    ·have aP:=Ou aP;have:j=12:=Qo;subst this;refine⟨⟨Qo,Qo⟩,QB Qo (nxt ?_)⟩;rw[<-hI,zlj (by rw[<-hF]; show (-1:Int)<0; decide)]
  ·have Ry:=Ou Ry;have:(Cq (W.ID.length:Int)).toNat-k=0:=Qo;rw[this] at hI;rw[<-hI]; rfl
theorem znx(W:Q8)(c:Int) : -1<=Kq W c:=by
 have hf:∀(b:Int) (f j:Nat),-1<=ON W b c f j:=fun b f=>by
  induction f with
  | zero=>intro j; exact I2 _
  | succ f ih=>
   intro j;simp only[ON];split
   ·omega
   ·exact ih _
 have hp:∀(f k:Nat),-1<=zli W c f k:=fun f=>by
  induction f with
  | zero=>intro k; exact I2 _
  | succ f ih=>
   intro k;simp only[zli];split
   ·exact ih _
   ·split
    ·exact ih _
    ·exact hf _ _ _
 exact hp _ _
end
def zef(W:Q8)(g:Int)(j:Nat):Int:=za7 W g (j:Int)
theorem PZ(W:Q8)(g c:Int)(h:W.tasks.length=12):0<=za7 W g c/\za7 W g c<=240:=by
 have:=VE (za6 W g c) W.tasks.length;unfold za7;omega
def zz0(a b:Int):Int:=if a>b then a else b
def Mb(W:Q8)(g c:Int):Int:=
 if Je (zef W g) W.ID.length=0 then (gi W.IC g).weight else zz0 1 (Int.tdiv ((gi W.IC g).weight*za7 W g c) (Je (zef W g) W.ID.length))
theorem zzi{a b:Int}(ha:0<=a)(ha2:a<=100000)(hb:0<b):Qq .i64 (Int.tdiv a b):=by
 have h1:=Int.tdiv_nonneg ha (Int.le_of_lt hb);have h2:Int.tdiv a b<=a:=by rw[Int.tdiv_eq_ediv_of_nonneg ha]; exact Int.ediv_le_self _ ha
 exact⟨Qo,Qo⟩
theorem ze4{a b:Int}{w:Wo}{bs:List Nat}:PX bs YB #[I a,I b] w (I (zz0 a b)):=Tg
section
variable {W:Q8}{m:MW}{w:Wo}{bs:List Nat}{p:OA}
theorem zn8{g c:Int}(wp:TU W)(hu:Q6 W.IC g=true):0<=(gi W.IC g).weight*za7 W g c/\(gi W.IC g).weight*za7 W g c<=4800:=by
 have hw:=(wp.a.u hu).2.2;have hi:=PZ W g c wp.a.t;have w1:=hw.w1;have w2:=hw.w2;refine⟨Int.mul_nonneg Qo hi.1,?_⟩;have:=Int.mul_le_mul w2 hi.2 hi.1 (show (0:Int)<=20 by decide);omega
theorem B4{g:Int}(wp:TU W)(k:Nat):0<=Je (zef W g) k/\Je (zef W g) k<=(k:Int)*240:=VE (fun j=>PZ W g (j:Int) wp.a.t) k
theorem AH{g c:Int}(h:XQ bs w W m)(wp:TU W)(hl:UN W)(hu:Q6 W.IC g=true):PX bs TY #[.agg (Qa W m).toArray,I g,I c] w (I (Mb W g c)):=
 C1 _ _ _ _ _ _ _ _ _ _ g c fun wr hx=>by
  have h:=(h.ext hx).less (cs:=[]) Qs;have rJ:=wp.a.c2;obtain⟨u1,u2,_⟩:=Q4.1 hu;intro _ _;refine OQ W.ID.length 0 rfl (fun x k=>k<=W.ID.length/\x=Je (zef W g) k) ⟨Ic _,rfl⟩ fun x k ⟨hk,R0⟩=>⟨fun IS=>?_,fun Ry=>⟨fun g2=>⟨h.g.ix u1 u2,_,(h.g.cells g u1 u2).get 3 _ rfl,?_⟩,fun g2=>?_⟩⟩
  ·have IS:=Ot IS;have hr:=B4 (g:=g) wp k;have hi:=PZ W g (k:Int) wp.a.t;exact⟨_,Ki h wp hl hu,⟨Qo,Qo⟩,⟨Qo,Qo⟩,QJ Qo ⟨Qo,by simp only[Je]; rw[R0]; rfl⟩⟩
  ·have Ry:=Ou Ry;have:k=W.ID.length:=Qo;subst this;unfold Mb;rw[C' (by rw[<-R0]; simpa using g2)]
  ·have Ry:=Ou Ry;have:k=W.ID.length:=Qo;subst this;have hr:=B4 (g:=g) wp W.ID.length;have hp:=zn8 (c:=c) wp hu;have dE:x≠0:=by simpa using g2
   refine⟨h.g.ix u1 u2,_,(h.g.cells g u1 u2).get 3 _ rfl,za7 W g c,Ki h wp hl hu,⟨Qo,Qo⟩,⟨dE,zzi hp.1 Qo Qo⟩,_,ze4,?_⟩;unfold Mb;rw[B' (by rw[<-R0]; exact dE),R0]
end
theorem zt4{gs:List ZO}(ht:Y5 gs){g:Int}:∀h:Int,Q6 gs h=true->g∈Z7 gs h->Tu 3 gs g h=true:=
 M6 ht (fun hx=>by rw[show Z7 gs 0=[] from Zl _ _] at hx; cases hx) fun h hu hz ih hx=>by
  by_cases e:h=g
  ·subst e; simp[Tu]
  ·rw[zgi ht hu hz e];rw[Yz ht hu hz] at hx;rcases Ii.1 hx with e2 | e2
   ·exact Ir e2.symm e
   ·exact ih e2
theorem zqa(W:Q8)(g c x:Int):VL W (KV W g c x):=by
 unfold KV;split
 ·exact VL.refl _
 ·split
  ·exact(zc4 _ _ _ _).trans (MB _ _)
  ·exact zc4 _ _ _ _
theorem Tm.wei{W:Q8}(p:Tm W){g c x:Int}(hu:Q6 W.IC g=true)(hz:g≠0)(c0:0<=c)(c1:c<(W.ID.length:Int)):Tm (KV W g c x):=by
 obtain⟨u0,u1,_⟩:=Q4.1 hu;have hl:=p.a.gl;have hsl:=p.a.sl hu;have qX:c<((gi W.IC g).IE.length:Int):=Qo;have e:∀{i j:Int},0<=i->0<=j->Qc (U1 W g c x) i j=if g=i/\c=j then zdc W g c x else Qc W i j:=fun hi hj=>Uv u0 u1 c0 qX hi hj
 have hT:Z2 W.IC (U1 W g c x).IC:=XO u0 u1
 have ef:∀{i j:Int},0<=i->0<=j->(Qc (U1 W g c x) i j).floor=(Qc W i j).floor:=fun {i j} hi hj=>by
  rw[e hi hj]; split
  ·rename_i h; obtain⟨rfl,rfl⟩:=h; rfl
  ·rfl
 have hpu:=p.a.up hu hz;have p0:=(Q4.1 hpu).1
 have same:∀{i j:Int},Q6 W.IC i=true->i≠0->0<=j->¬(g=i/\c=j)->VD W i j->VD (U1 W g c x) i j:=fun {i j} iu iz j0 hn h=>by
  unfold VD at h ⊢;rw[hT.p,ef (Q4.1 (p.a.up iu iz)).1 j0,e (Q4.1 iu).1 j0,B' hn];exact h
 have hA:PreA (U1 W g c x):=by
  refine⟨p.a.RA u0 Qo,fun t t0 t1=>?_,fun t t0 t1 n=>p.l t t0 t1 n,fun i j iu j0 j1=>?_⟩
  ·rcases p.t t t0 t1 with h | ⟨n,h⟩
   ·exact .inl h
   ·exact .inr ⟨n,h.st,by rw[hT.cK]; exact h.g,h.n,h.m,h.m0,h.s,h.u,h.l1,h.l2,fun h1=>by
     show (Qc (U1 W g c x) (Q7 W t).group (Q7 W t).IZ).floor<=(Q7 W t).v/\(Q7 W t).v-(Qc (U1 W g c x) (Q7 W t).group (Q7 W t).IZ).floor<=_;rw[ef (Q4.1 h.g).1 (p.l t t0 t1 n).1]; exact h.f h1⟩
  ·rw[hT.cK] at iu;have hs:=p.s i j iu j0 j1;have i0:=(Q4.1 iu).1
   by_cases h:g=i/\c=j
   ·obtain⟨rfl,rfl⟩:=h;refine⟨by rw[e i0 j0,C' ⟨rfl,rfl⟩]; exact hs.s,fun h0=>Ir h0 hz,fun _ ho=>?_⟩;rw[e i0 j0,C' ⟨rfl,rfl⟩] at ho;have ho:(Qc W g c).on=true:=ho;unfold VD;rw[hT.p,ef p0 j0,e i0 j0,C' ⟨rfl,rfl⟩];simp only[zdc];rw[C' ho];have:=ZQ ((Qc W g c).v-(Qc W (gi W.IC g).parent c).floor) x;omega
   ·refine⟨by rw[e i0 j0,B' h]; exact hs.s,by rw[e i0 j0,B' h]; exact hs.root,fun iz ho=>?_⟩;rw[e i0 j0,B' h] at ho;exact same iu iz j0 h (hs.st iz ho)
 have hC:∀d:Int,0<=d->d<(W.ID.length:Int)->(d=c->zjy (U1 W g c x) g c=false)->zy8 (U1 W g c x) d:=fun d d0 d1 hd=>by
  have h:=p.c d d0 d1;refine⟨h.b,h.i,h.c1,h.c2,h.no,h.yes,fun h0 h1 h2=>?_⟩;obtain⟨q1,q2⟩:=h.q h0 h1 h2
  have hcu:Q6 W.IC (Q7 W (gi W.ID d).cur).group=true:=by
   rcases p.t _ h0 h.c2 with hz | ⟨_,hx⟩
   ·have h1:(Q7 W (gi W.ID d).cur).state=1:=h1;have h3:(Q7 W (gi W.ID d).cur).state=0:=hz.1;rw[h3] at h1; cases h1
   ·exact hx.g
  refine⟨by show (Q7 W (gi W.ID d).cur).v-(Qc (U1 W g c x) (Q7 W (gi W.ID d).cur).group d).floor<=_; rw[ef (Q4.1 hcu).1 d0]; exact q1,fun y hy=>?_⟩;have hy:y∈Z7 W.IC (Q7 W (gi W.ID d).cur).group:=by rw[<-Tk hT]; exact hy
  obtain⟨yu,yz⟩:=YE p.a.tree _ hcu y hy;have y0:=(Q4.1 yu).1
  have hn:¬(g=y/\c=d):=by
   rintro⟨rfl,rfl⟩;have h3:=hd rfl;unfold zjy at h3;have h4:=zt4 (hT.tree p.a.tree) (g:=g) (Q7 W (gi W.ID c).cur).group (by rw[hT.cK]; exact hcu) (by rw[Tk hT]; exact hy);rw[show (gi (U1 W g c x).ID c).cur=(gi W.ID c).cur from rfl,Ih (show (gi W.ID c).cur>=0 from h0),Bool.true_and] at h3;rw[show (Q7 (U1 W g c x) (gi W.ID c).cur).group=(Q7 W (gi W.ID c).cur).group from rfl,h4] at h3;cases h3
  obtain⟨s1,s2⟩:=q2 y hy;refine⟨same yu yz d0 hn s1,?_⟩;rw[hT.p,ef (Q4.1 (p.a.up yu yz)).1 d0,e y0 d0,B' hn];exact s2
 unfold KV;split
 ·exact p
 ·split
  ·refine⟨hA.Rn c0 c1,fun d d0 d1=>?_⟩;have hlen:(YtnclplgaicdapaaGreatDoor.Rn (U1 W g c x) c).ID.length=W.ID.length:=E';have jN:gi (YtnclplgaicdapaaGreatDoor.Rn (U1 W g c x) c).ID d=if c=d then XU (gi W.ID c) else gi W.ID d:=QE _ _ c0 c1 d0;rw[hlen] at d1
   by_cases ed:c=d
   ·subst ed;have h:=p.c c c0 c1;rw[C' rfl] at jN;have n1:(XU (gi W.ID c)).cur = -1:=rfl;exact⟨by rw[jN]; exact h.b,by rw[jN]; exact h.i,by rw[jN,n1]; exact I2 _,by rw[jN,n1]; decide,fun _=>by rw[jN]; rfl,fun h=>by rw[jN,n1] at h; omega,fun h=>by rw[jN,n1] at h; omega⟩
   ·have h:=hC d d0 d1 fun hd=>Ir hd.symm ed
    rw[B' ed] at jN;exact⟨by rw[jN]; exact h.b,by rw[jN]; exact h.i,by rw[jN]; exact h.c1,by rw[jN]; exact h.c2,by rw[jN]; exact h.no,by rw[jN]; exact h.yes,by rw[jN]; exact h.q⟩
  ·rename_i he;exact⟨hA,fun d d0 d1=>hC d d0 d1 fun _=>by simpa using he⟩
theorem SW.tu{K:Int}{W:Q8}(h:SW K W):TU W:=⟨h.a,fun t0 t1 hs=>h.li t0 t1 hs⟩
theorem zqd{f:Nat->Int}(h:∀j,0<=f j):∀m:Nat,0<=Je f m
 | 0=>I2 _
 | m+1=>by
  have ih:=zqd h m;have:=h m;simp only[Je];omega
theorem zqc{f:Nat->Int}(h:∀j,0<=f j){k:Nat}:∀n:Nat,k<n->f k<=Je f n
 | 0,hk=>Ir hk (Nat.not_lt_zero k)
 | n+1,hk=>by
  simp only[Je];have hn:=zqd h
  by_cases e:k=n
  ·subst e; have:=hn k; omega
  ·have:=zqc h (k:=k) n Qo;have:=h n;omega
theorem zlz{W:Q8}(wp:TU W){g c:Int}(hu:Q6 W.IC g=true)(c0:0<=c)(c1:c<(W.ID.length:Int)):1<=Mb W g c/\Mb W g c<=(gi W.IC g).weight:=by
 have hg:=(wp.a.u hu).2.2;have w1:=hg.w1;have hi:=PZ W g c wp.a.t
 have nB:za7 W g c<=Je (zef W g) W.ID.length:=by
  have:=zqc (f:=zef W g) (fun j=>(PZ W g (j:Int) wp.a.t).1) (k:=c.toNat) W.ID.length Qo;unfold zef at this
  rwa[show ((c.toNat:Nat):Int)=c by omega] at this
 unfold Mb;split
 ·omega
 ·rename_i hn
  have hp:0<Je (zef W g) W.ID.length:=by
   have:=(B4 (g:=g) wp W.ID.length).1;omega
  have hq:Int.tdiv ((gi W.IC g).weight*za7 W g c) (Je (zef W g) W.ID.length)<=(gi W.IC g).weight:=by
   rw[Int.tdiv_eq_ediv_of_nonneg (Int.mul_nonneg Qo hi.1)];refine Int.ediv_le_of_le_mul hp ?_;exact Int.mul_le_mul_of_nonneg_left nB Qo
  unfold zz0
  split <;> omega
theorem zly{W:Q8}(wp:TU W){g c:Int}(hu:Q6 W.IC g=true)(c0:0<=c)(c1:c<(W.ID.length:Int)):1<=Mb W g c/\Mb W g c<=20:=by
 have h:=zlz wp hu c0 c1;have:=(wp.a.u hu).2.2.w2;omega
def MO(W:Q8)(c:Int):Nat->Q8
 | 0=>W
 | k+1=>if k≠0/\(gi (MO W c k).IC (k:Int)).used=true then KV (MO W c k) (k:Int) c (Mb (MO W c k) (k:Int) c) else MO W c k
def Vm(W:Q8)(c:Int):Q8:=Qg (MO W c 8)
noncomputable def Tt(W:Q8)(c:Int):Int:=Kq (Vm W c) c
noncomputable def zh3(W:Q8)(c:Int):Q8:=if Tt W c<0 then Vm W c else Qg (Jd (Vm W c) (Tt W c) (Q7 (Vm W c) (Tt W c)).group c)
noncomputable abbrev Er(W:Q8)(c:Int):Int:=ZY W c true 0
structure zyo (W V:Q8):Prop where
 sf:SF Qj (Qj+Qi) V
 fr:Fr W V
 cu:D0 V
 pre:Tm V
 sta:VL W V
theorem zh2{W:Q8}(wp:XS W)(hr:KY W){c:Int}(c0:0<=c)(c1:c<(W.ID.length:Int)):∀k:Nat,k<=8->zyo W (MO W c k)
 | 0,_=>⟨Kv (Md wp hr),Fr.refl _,zo0 wp,Xm wp,VL.refl _⟩
 | k+1,hk=>by
  have ih:=zh2 wp hr c0 c1 k Qo;simp only[MO];split
  ·rename_i h;have hl:=ih.sf.w.a.gl;have hu:Q6 (MO W c k).IC (k:Int)=true:=Q4.2 ⟨Qo,Qo,h.2⟩;have qX:c<((MO W c k).ID.length:Int):=by rw[ih.fr.c]; exact c1
   have hs:=zly ih.sf.w.tu hu c0 qX;obtain⟨a,b,d⟩:=zql ih.sf (I2 _) ih.cu hu Qo c0 qX hs.1 hs.2;exact⟨a,ih.fr.trans b,d,ih.pre.wei hu Qo c0 qX,ih.sta.trans (zqa _ _ _ _)⟩
  ·exact ih
theorem zh4{W:Q8}{c:Int}(hW:Qx W=true)(hb:Er W c=0):0<=c/\c<(W.ID.length:Int)/\zyo W (MO W c 8)/\XS (Vm W c)/\SW (Qj+Qi+UL) (Vm W c)/\Fr W (Vm W c):=by
 obtain⟨h1,_,_,h4⟩:=zia hb;have wp:=Ql.1 hW;obtain⟨c0,c1⟩:=VT h1;have hB:=zh2 wp (Ql.1 h4) c0 c1 8 (I7 _);have hs:=VC hB.sf.w (by simp only[Qi]; decide);exact⟨c0,c1,hB,(zc0 hB.sf.w (by simp only[Qi]; decide) (by simp only[Qi,UL]; decide) hB.pre (hB.sta.loc hB.fr.t (UI wp))).1,hs.1,hB.fr.trans hs.2⟩
theorem zav{W:Q8}{b c:Int}:∀f j:Nat,0<=ON W b c f j->∃i:Nat,ON W b c f j=(i:Int)/\j<=i/\i<j+f/\zf5 W b c i=true
 | 0,j,h=>by
  have:(0:Int)<=-1:=h;omega
 | f+1,j,h=>by
  simp only[ON] at h ⊢;split
  ·rename_i hp;exact⟨j,rfl,I7 _,Qo,hp⟩
  ·rename_i hp;rw[B' hp] at h;obtain⟨i,a,b',c',d⟩:=zav f (j+1) h;exact⟨i,a,Qo,Qo,d⟩
theorem zg0{W:Q8}{c:Int}(h:¬Kq W c<0):∃(i:Nat) (b:Int),Kq W c=(i:Int)/\i<12/\zf5 W b c i=true:=by
 have key:∀f k:Nat,0<=zli W c f k->∃(i:Nat) (b:Int),zli W c f k=(i:Int)/\i<12/\zf5 W b c i=true:=fun f=>by
  induction f with
  | zero=>intro k h; have:(0:Int)<=-1:=h; omega
  | succ f ih=>
   intro k h
   by_cases h0:OF W c (k:Int)<0
   ·rw[zlk h0] at h ⊢; exact ih _ h
   ·by_cases h1:ON W (OF W c (k:Int)) c 12 0<0
    ·rw[zlj h1] at h ⊢; exact ih _ h
    ·rw[zll h0 h1] at h ⊢;obtain⟨i,a,_,b,d⟩:=zav 12 0 h;exact⟨i,_,a,Qo,d⟩
 exact key _ _ (by have:=znx W c; unfold Kq at *; omega)
theorem zx6{W:Q8}{c:Int}(h:¬Kq W c<0):0<=Kq W c/\Kq W c<12/\(Q7 W (Kq W c)).state=1:=by
 obtain⟨i,b,e,hi,hp⟩:=zg0 h;unfold zf5 at hp;simp only[A'] at hp;rw[e];exact⟨Qo,Qo,(Nf hp.1.2).1⟩
theorem zxl{W V:Q8}(hl:UN W)(ha:WA V)(hT:Z2 W.IC V.IC):UN V:=by
 have h1:=ha.c2;have h2:=ha.t;have h3:=ha.gl;have hm:=ZH;have hn1:=ha.n1;have hn2:=ha.n2;refine⟨Qo,Qo,Qo,fun i a b=>?_⟩;have hb:=LR ha a Qo;have hg:=ha.grp i a Qo;refine⟨by rw[hT.n]; exact(hl.f i a (by rw[<-hT.len]; exact b)).nm,?_,Qo,Qo,Qo⟩
 cases hu:(gi V.IC i).used with
 | false=>rw[(hg.1 hu).ne]; exact⟨Qd,Qd⟩
 | true=>
  have hg:=hg.2 hu
  by_cases hq:(gi V.IC i).IQ.IW=0
  ·rw[(hg.none hq).2.2]; exact⟨Qd,Qd⟩
  ·have:=hg.IQ hq;exact⟨Qo,Qo⟩
theorem zou{W:Q8}{c:Int}(hW:Qx W=true)(hb:Er W c=0)(hp:¬Tt W c<0):0<=Tt W c/\Tt W c<12/\(Q7 (Vm W c) (Tt W c)).state=1/\Q6 (Vm W c).IC (Q7 (Vm W c) (Tt W c)).group=true/\SF (Qj+Qi+UL) (Qj+Qi+UL+Qi) (Vm W c)/\
  SF (Qj+Qi+UL) (Qj+Qi+UL+Qi) (Jd (Vm W c) (Tt W c) (Q7 (Vm W c) (Tt W c)).group c):=by
 obtain⟨c0,c1,_,wp,sw,fr⟩:=zh4 hW hb;obtain⟨p0,p1,ps⟩:=zx6 hp;have sf:SF (Qj+Qi+UL) (Qj+Qi+UL+Qi) (Vm W c):=sw.sf.mono (I2 _) (by simp only[Qi]; omega);have hu:=(sw.t _ p0 p1 (show (Q7 (Vm W c) (Tt W c)).state≠0 by unfold Tt; rw[ps]; decide)).1;exact⟨p0,p1,ps,hu,sf,(Cv sf (I2 _) p0 p1 hu c0 (by rw[fr.c]; exact c1)).2⟩
section
variable {base pb:Nat}{W W':Q8}{m:MW}{w:Wo}
theorem EP{c:Int}(h:XQ [] w W m)(hl:UN W) :
  Cz Vr #[.agg (Qa W m).toArray,I c] w fun e w'=>∃v,e=.returned v/\QL (Yp W (Er W c) (zh3 W c)) w v w':=by
 refine Ey _ _ _ _ _ _ _ _ _ _ c (R:=fun v w'=>QL (Yp W (Er W c) (zh3 W c)) w v w') ?_;intro y hy y1 bE wr R0 SS;have hm0:=XA;have hlc:=hl.c;refine I3 (Zc (h.ext R0) hl) ?_;rintro e wv (⟨hW,he,Sn⟩ | ⟨hW,m',he,hM,Sn⟩)
 ·exact⟨_,_,_,_,_,_,_,_,_,_,_,he,Qe Sn SS,fun g=>by simp at g,true,fun g=>by simp at g,fun _ I' R4=>QL.bad hW ((R0.trans Sn).fresh R4 fun z hm=>.inl (Yi hy bE z hm)),fun g=>by simp at g⟩
 have hK:=Wk.begin hy bE R0 SS hM Sn;have hr:=hK.rd;have wp:=Ql.1 hW;refine⟨_,_,_,_,_,_,_,_,_,_,_,he,Qe Sn SS,fun _=>⟨Qo,Qo⟩,X9 W c,fun _=>Qp,fun g I' R4=>?_,fun g=>?_⟩
 ·have g:X9 W c=false:=by
   cases hc:X9 W c with
   | false=>rfl
   | true=>rw[hc] at g; split at g <;> simp at g
  have hb:Er W c=1:=by unfold Er ZY; rw[C' g]
  exact QL.no hW (by rw[hb]; decide) (hK.step R4) hb
 have g:X9 W c=true:=by
  cases hc:X9 W c with
  | true=>rfl
  | false=>rw[hc] at g; simp at g
 obtain⟨c0,c1⟩:=VT g;refine⟨hr.c.ix ZP c0 c1,_,hr.c.f c0 c1 (j:=0) rfl,fun g2 J' R4=>?_,fun g2=>⟨fun g3 Rp R4=>?_,fun g3=>?_⟩⟩
 ·have g2:(gi W.ID c).up=false:=by simpa using g2
  have hb:Er W c=6:=by unfold Er ZY; rw[B' (by rw[g]; decide),C' (by rw[g2]; decide)]
  exact QL.no hW (by rw[hb]; decide) (hK.step R4) hb
 ·have g2:(gi W.ID c).up=true:=by simpa using g2
  have aQ:¬QQ W=true:=fun hr=>by rw[C' hr] at g3; simp at g3
  have hb:Er W c=10:=by unfold Er; rw[Mr g g2 rfl,C' (by simpa using aQ)]
  rw[B' aQ];exact QL.no hW (by rw[hb]; decide) (hK.step R4) hb
 have g2:(gi W.ID c).up=true:=by simpa using g2
 have aQ:QQ W=true:=Iq fun hr=>by rw[B' hr] at g3; simp at g3
 have hb:Er W c=0:=by unfold Er; rw[Mr g g2 rfl,B' (by rw[aQ]; decide)]
 obtain⟨_,_,hB8,wpS,swS,frS⟩:=zh4 hW hb;refine⟨fun vs w1=>∃k:Nat,vs=I (k:Int)::Qa W m'/\1<=k/\k<=8/\Wk 8 [y,y1] w w1 (MO W c k) m',Zq 8 0,fun w1 rA _=>⟨1,rfl,Qd,Qd,hK.step rA⟩,?_⟩;rintro g1 l RO RW Sb RR S5 Sa RY RZ S4 Rx dQ ⟨k,aE,hk1,hk8,hKk⟩;have hOk:=zh2 wp (Ql.1 aQ) c0 c1 k hk8;have e0:Qa (MO W c k) m'=Qa W m':=Ui hOk.fr;have SN:MO W c (k+1)=if k≠0/\(gi (MO W c k).IC (k:Int)).used=true then KV (MO W c k) (k:Int) c (Mb (MO W c k) (k:Int) c) else MO W c k:=rfl;have bM:=hOk.sf.w.a.gl;have BY9:=wp.a.gl;simp only[Qa,I4,I5,Iv,true_and,and_true] at aE;obtain⟨rfl,rfl,⟨rfl,rfl,rfl⟩,⟨rfl,rfl,rfl⟩,rfl,rfl,rfl⟩:=aE;refine⟨fun IS=>?_,fun Ry Sd yX mH=>?_⟩
 ·have IS:=Ot IS;have hrk:=hKk.rd;have V':=hrk.g.ix (i:=(k:Int)) Qo Qo;rw[bM] at V';rw[BY9] at IS ⊢;refine⟨V',_,Xh ((hrk.g.cells (k:Int) Qo Qo).get 0 _ rfl),fun gu=>?_,fun gu=>⟨⟨Qo,Qo⟩,fun WT lB _=>⟨⟨k+1,by rw[<-BY9]; rfl,Qo,Qo,?_⟩,?_⟩⟩⟩
  ·have hu:Q6 (MO W c k).IC (k:Int)=true:=Q4.2 ⟨Qo,Qo,gu⟩;have qX:c<((MO W c k).ID.length:Int):=by rw[hOk.fr.c]; exact c1
   have hsh:=zly hOk.sf.w.tu hu c0 qX;have Ao9:=AH (c:=c) hrk hOk.sf.w.tu (zxl hl hOk.sf.w.a hOk.fr.g) hu;rw[e0] at Ao9;simp only[Qa] at Ao9;rw[BY9] at Ao9;refine⟨_,Ao9,fun SH jH hs7=>?_⟩;have hK7:=hKk.step jH;have Rg:=Kh hK7.own hOk.sf (I2 _) (by simp only[Qi]; decide) hOk.cu (x:=Mb (MO W c k) (k:Int) c) hu Qo c0 qX;rw[e0] at Rg;simp only[Qa] at Rg;rw[BY9] at Rg;refine I3 Rg ?_;rintro e1 S6 ⟨fJ,fK⟩;refine⟨_,_,_,_,_,_,_,_,_,_,fJ,hK7.kept fK hs7,⟨Qo,Qo⟩,fun SZ oZ _=>⟨⟨k+1,by rw[<-BY9]; rfl,Qo,Qo,?_⟩,?_⟩⟩
   ·rw[SN,C' ⟨Qo,gu⟩];exact(hK7.Sj fK hs7).step oZ
   ·simp only[Zq,Xc,ZR,Ie]; omega
  ·rw[SN,B' (by rintro⟨_,h⟩; rw[show (gi (MO W c k).IC (k:Int)).used=false from gu] at h; cases h)];exact hKk.step lB
  ·simp only[Zq,Xc,ZR,Ie]; omega
 ·have Ry:=Ou Ry;have:k=8:=Qo;subst this;have AB4:=hKk.step yX;have Rg:=Qv AB4.own hB8.sf.w (by simp only[Qi]; decide) (by simp only[Qi]; decide) AB4.base;rw[e0] at Rg;refine I3 Rg ?_;rintro e3 dA ⟨m2,iU,hy5⟩;have A62:Wk 8 [y,y1] w dA (Vm W c) m2:=AB4.Sj hy5 mH;have B35:=A62.rd;have CJ7:=zbn B35 wpS c0 (by rw[frS.c]; exact c1);refine⟨_,_,_,_,_,_,_,_,_,_,iU,AB4.kept hy5 mH,_,CJ7,fun g5=>?_,fun g5 Wn A81=>?_⟩
  ·have g5:¬Tt W c<0:=by have:=Ot g5; unfold Tt; omega
   obtain⟨p0,p1,ps,hu,sf,sfP⟩:=zou hW hb g5;have iX:=wpS.a.t;refine⟨B35.t.ix QG p0 (by rw[iX]; exact p1),_,B35.t.f p0 (by rw[iX]; exact p1) (j:=1) rfl,fun Se AM6 yW=>?_⟩;have Au2:=A62.step AM6;refine I3 (UT Au2.own sf (I2 _) (by simp only[Qi,UL]; decide) (t:=Tt W c) (g:=(Q7 (Vm W c) (Tt W c)).group) (c:=c) p0 p1 (by rw[ps]; decide) hu c0 (by rw[frS.c]; exact c1)) ?_;rintro e4 dJ ⟨he4,hy6⟩;refine⟨_,_,_,_,_,_,_,_,_,_,he4,Au2.kept hy6 yW,fun Si uB AM5=>?_⟩;have Bl3:=(Au2.Sj hy6 yW).step uB
   have Cb6:Qa (Jd (Vm W c) (Tt W c) (Q7 (Vm W c) (Tt W c)).group c) m2=Qa (Vm W c) m2:=by
    obtain⟨q1,q2,q3,q4⟩:=zu9 (Vm W c) (Tt W c) (Q7 (Vm W c) (Tt W c)).group c;simp only[Qa,q1,q2,q3,q4]
   have WZ:=Qv Bl3.own sfP.w (by simp only[Qi,UL]; decide) (by simp only[Qi,UL]; decide) Bl3.base;rw[Cb6] at WZ;refine I3 WZ ?_;rintro e5 bS ⟨m3,he5,hy7⟩;refine⟨_,_,_,_,_,_,_,_,_,_,he5,Bl3.kept hy7 AM5,fun SY Bb5=>?_⟩;have hE:zh3 W c=Qg (Jd (Vm W c) (Tt W c) (Q7 (Vm W c) (Tt W c)).group c):=by unfold zh3; rw[B' g5]
   rw[hE];exact QL.ok hW hb ((Bl3.Sj hy7 AM5).step Bb5)
  ·have g5:Tt W c<0:=by have:=Ou g5; unfold Tt; omega
   have hE:zh3 W c=Vm W c:=by unfold zh3; rw[C' g5]
   rw[hE];exact QL.ok hW hb (A62.step A81)
end
theorem zk0{W:Q8}{g n x:Int}(hW:Qx W=true)(hb:OO W g n x=0):Jc (zkp W g n x):=by
 have wp:=Ql.1 hW;have h:=zo6 hW hb;have p:=Xm wp
 have hT:E3 W (G5 W g n x):=⟨.inl rfl,h.u,h.w,h.m,h.m0,by show ZI 0=true; decide,by show ZI 0=true; decide,I2 _,by show (0:Int)<=8000000; decide,fun _=>by
  have:=(Y3 (Qf n)).1;show (Qc W g (L2 W g x)).floor<=(Qc W g (L2 W g x)).floor/\(Qc W g (L2 W g x)).floor-(Qc W g (L2 W g x)).floor<=ZD (Qf n);omega⟩
 exact Zu (h.sw2.Rn h.c0 h.c1) Qd Qd (Ct p h.f0 h.f1 (show (1:Int)≠0 by decide) hT rfl h.c0 h.c1) (((UI wp).IT wp.a h.f0 h.f1 (x:=G5 W g n x) fun _=>h.ch).Rn _)
theorem zxd{W:Q8}{g x:Int}(hW:Qx W=true)(hb:zme W g x=0):Jc (zv6 W g x):=by
 have wp:=Ql.1 hW;obtain⟨h1,hz,hu,_,_,sf,cu,hT⟩:=zv7 hW hb;have hx:=Qu.1 h1;have hu':Q6 (Rf W g (Ky W g x)).IC g=true:=by rw[hT.cK]; exact hu
 have p1:Tm (Rf W g (Ky W g x)):=(Xm wp).same sf.w.a rfl rfl hT (zn9 rfl);have l1:CE (Rf W g (Ky W g x)):=(UI wp).same rfl hT (fun i=>YJ (f:=ZO.ID) W.IC g (x:=Ky W g x) rfl i) rfl;have hlen:(Rf W g (Ky W g x)).ID.length=W.ID.length:=rfl;show Jc (Qg (GU (Rf W g (Ky W g x)) g x W.ID.length));rw[<-hlen];generalize Rf W g (Ky W g x)=V at sf cu hu' p1 l1
 have all:∀k:Nat,k<=V.ID.length->Tm (GU V g x k)/\VL V (GU V g x k):=by
  intro k
  induction k with
  | zero=>exact fun _=>⟨p1,VL.refl _⟩
  | succ k ih=>
   intro hk;obtain⟨a,b⟩:=ih Qo;exact⟨a.wei (by rw[b.g.cK]; exact hu') hz Qo (by rw[b.len]; omega),b.trans (zqa _ _ _ _)⟩
 obtain⟨a,b⟩:=all _ (I7 _);obtain⟨sf2,fr,_⟩:=zjz sf (I2 _) cu hu' hz hx.1 hx.2 V.ID.length (I7 _);exact Zu sf2.w (by simp only[Qi]; decide) (by simp only[Qi,UL]; decide) a (b.loc fr.t l1)
theorem zq0{W:Q8}{t c:Int}(h:UD W t c=true):QX (Qw W (Q7 W t).group (Q7 W t).mask) c=true:=by
 unfold UD at h;simp only[A',IB,H',I6] at h;exact h.1.2
theorem zw5{W:Q8}{c:Int}(hW:Qx W=true)(hb:Er W c=0):Jc (zh3 W c):=by
 have wp:=Ql.1 hW;obtain⟨c0,c1,hB,wpS,swS,frS⟩:=zh4 hW hb;have iS:Jc (Vm W c):=Zu hB.sf.w (by simp only[Qi]; decide) (by simp only[Qi,UL]; decide) hB.pre (hB.sta.loc hB.fr.t (UI wp));unfold zh3;split
 ·exact iS
 ·rename_i hp;obtain⟨p0,p1,ps,pu,_,sf⟩:=zou hW hb hp;obtain⟨i,b,e,hi,ht⟩:=zg0 hp;have e:Tt W c=(i:Int):=e;unfold zf5 at ht;simp only[A'] at ht;have hcd:=zq0 ht.1.2;rw[<-e] at hcd;have cS:c<((Vm W c).ID.length:Int):=by rw[frS.c]; exact c1
  clear hp iS swS frS hB ht e;have hK0:0<=Qj+Qi+UL+Qi:=Qd;have hK1:Qj+Qi+UL+Qi+UL<=100000000000000000:=Qd;have hcd:QX (Qw (Vm W c) (Q7 (Vm W c) (Tt W c)).group (Q7 (Vm W c) (Tt W c)).mask) c=true:=hcd;generalize Tt W c=q at *;generalize Vm W c=V at *;refine Zu sf.w hK0 hK1 (zcr (Xm wpS) p0 p1 (by rw[ps]; decide) pu c0 cS) fun t t0 t1 n=>?_
  rw[(CA V _ _ _).wh];rw[znz wpS.a.t p0 p1 t0] at n ⊢
  split at n
  ·rename_i he;rw[C' he];exact hcd
  ·rename_i he;rw[B' he];exact UI wpS t t0 t1 n
def zfd:LI:=⟨0,false,0,10,0⟩
def Pp(n:Nat)(p:Int)(name:ByteArray):ZO:=⟨true,p,name,10,15,0,0,0,⟨0,0,0,[],[]⟩,List.replicate n zfd⟩
def zde:ZO:=⟨false,0,⟨[].toArray⟩,0,0,0,0,0,⟨0,0,0,[],[]⟩,[]⟩
def JZ(n:Nat):Q8:=⟨0,List.replicate n ⟨true,-1,0,0,0⟩,List.replicate 12 TI,(List.replicate 8 zde).set 0 (Pp n (-1) ⟨[].toArray⟩)⟩
section
variable {n:Nat}
theorem DE(k:Int)(k0:0<=k)(k1:k<8):gi (JZ n).IC k=if k=0 then Pp n (-1) ⟨[].toArray⟩ else zde:=by
 have:=QE (List.replicate 8 zde) (Pp n (-1) ⟨[].toArray⟩) (i:=0) (j:=k) (I2 _) Qd k0;show gi ((List.replicate 8 zde).set (0:Int).toNat _) k=_;rw[this]
 by_cases h:k=0
 ·rw[C' h.symm,C' h]
 ·rw[B' fun e=>h e.symm,B' h,PV _ _ k0 Qo]
theorem zuu:(JZ n).IC.length=8:=by simp[JZ]
theorem zut(c:Int)(c0:0<=c)(c1:c<(n:Int)):gi (JZ n).ID c=⟨true,-1,0,0,0⟩:=PV _ _ c0 c1
theorem zuv(t:Int)(t0:0<=t)(t1:t<12):Q7 (JZ n) t=TI:=PV 12 _ t0 Qo
theorem zz5(c:Int)(c0:0<=c)(c1:c<(n:Int)):Qc (JZ n) 0 c=zfd:=by
 unfold Qc;rw[DE 0 (I2 _) Qd,C' rfl];exact PV _ _ c0 c1
theorem zrv:Y5 (JZ n).IC:=by
 have g0:gi (JZ n).IC 0=Pp n (-1) ⟨[].toArray⟩:=by rw[DE 0 (I2 _) Qd,C' rfl]
 have un:∀g:Int,1<=g->g<8->(gi (JZ n).IC g).used=true->False:=fun g a b h=>by
  rw[DE g Qo b,B' Qo] at h; cases h
 exact⟨zuu,by rw[g0]; rfl,by rw[g0]; rfl,by rw[g0]; rfl,fun g a b h=>(un g a b h).elim,fun g a b h=>(un g a b h).elim,fun g a b h=>(un g a b h).elim,fun g k a b d h=>(un g Qo d h).elim⟩
theorem zxw(n0:1<=n)(n1:n<=4):WA (JZ n):=by
 have rJ:(JZ n).ID.length=n:=by simp[JZ]
 refine⟨I2 _,by show (0:Int)<=_; decide,Qo,Qo,by simp[JZ],zrv,N9 (c:=0) Qo (I2 _) Qo (by rw[zut 0 (I2 _) Qo]),fun k k0 k1=>?_⟩;unfold MK;rw[DE k k0 k1];split
 ·refine⟨fun h=>(by cases h),fun _=>⟨show (1:Int)<=10 by decide,show (10:Int)<=20 by decide,show Po 15=true by decide,show (15:Int)≠0 by decide,show ZI 0=true by decide,by simp[Pp,rJ],fun _=>⟨rfl,rfl,rfl⟩,fun _=>⟨show O8 ⟨0,0,0,[],[]⟩=true by decide,rfl,rfl⟩,fun h=>Ir rfl h⟩⟩
 ·exact⟨fun _=>⟨rfl,rfl,rfl,rfl,rfl,rfl,rfl,rfl,Qd⟩,fun h=>by cases h⟩
theorem zxa(n0:1<=n)(n1:n<=4):Jc (JZ n):=by
 have ha:=zxw n0 n1;have rJ:(JZ n).ID.length=n:=by simp[JZ]
 have hmt:∀(k c:Int) (j:Nat),j<12->OD (JZ n) k c j=false:=fun k c j hj=>by
  unfold OD;rw[show gi (JZ n).tasks (j:Int)=TI from zuv (j:Int) Qo Qo];rfl
 have hmg:∀(k c:Int) (j:Nat),j<8->XW (JZ n) k c j=false:=fun k c j hj=>by
  unfold XW;rw[DE (j:Int) Qo Qo]
  by_cases h:(j:Int)=0
  ·rw[show decide (1<=j)=false from decide_eq_false Qo]; rfl
  ·rw[B' h];simp[zde]
 refine⟨⟨ha,fun t t0 t1=>.inl ?_,fun k c k0 k1 c0 c1=>?_,fun c c0 c1=>?_⟩,fun k c hu c0 c1 hb=>?_⟩
 ·rw[zuv t t0 t1]; exact⟨rfl,rfl⟩
 ·by_cases hk:k=0
  ·subst hk;rw[DE 0 k0 k1,C' rfl] at c1;have c1:c<(n:Int):=by simpa[Pp] using c1
   have e:=zz5 c c0 c1;refine⟨?_,?_,?_,?_,?_,fun _=>?_,fun h=>Ir rfl h,fun h=>Ir rfl h⟩ <;> rw[e]
   ·decide
   ·decide
   ·decide
   ·decide
   ·decide
   ·exact⟨rfl,rfl,rfl⟩
  ·rw[DE k k0 k1,B' hk] at c1;have c1:c<0:=c1;omega
 ·rw[rJ] at c1;have e:=zut c c0 c1;refine⟨by rw[e]; decide,by rw[e]; decide,by rw[e]; decide,by rw[e]; show (-1:Int)<((JZ n).tasks.length:Int); simp[JZ],fun _=>by rw[e],fun h=>?_⟩;rw[e] at h;have h:(0:Int)<=-1:=h;omega
 ·unfold Zr at hb;have hb:=Ot hb;rcases Zo (Zk (JZ n) k c) (Ze (JZ n) c) 20 with ⟨a,_⟩ | ⟨_,h2,h3,_⟩
  ·rw[a] at hb; omega
  ·exfalso
   have IS:(QW (Zk (JZ n) k c) (Ze (JZ n) c) 20).toNat<20:=Qo;generalize (QW (Zk (JZ n) k c) (Ze (JZ n) c) 20).toNat=j at h3 IS
   by_cases hj:j<12
   ·rw[UJ hj,hmt k c j hj] at h3; cases h3
   ·rw[show j=12+(j-12) by omega,JK,hmg k c (j-12) Qo] at h3; cases h3
end
theorem zkd{gs:List ZO}(ht:Y5 gs):∀(f:Nat) (h:Int),Q6 gs h=true->dep 3 gs h<=(f:Int)->dep f gs h=dep 3 gs h
 | 0,h,hu,hd=>by
  by_cases hz:h=0
  ·subst hz; rw[ZZ,ZZ]
  ·obtain⟨_,_,_,d,e,_⟩:=Y6 ht hu hz;omega
 | f+1,h,hu,hd=>by
  by_cases hz:h=0
  ·subst hz; rw[ZZ,ZZ]
  ·obtain⟨hp,_,_,d,e,e2,_⟩:=Y6 ht hu hz;have ih:=zkd ht f _ hp Qo;show (if h=0 then 0 else if dep f gs (gi gs h).parent<0 then -1 else dep f gs (gi gs h).parent+1)=_;rw[B' hz,ih,e2,B' Qo,e]
structure zdh (W:Q8) (a p:Int) (name:ByteArray):Prop where
 a1:1<=a
 a8:a<8
 fr:(gi W.IC a).used=false
 up:Q6 W.IC p=true
 nm:Ue name=true
 no:∀h:Int,1<=h->h<8->(gi W.IC h).used=true->¬((gi W.IC h).parent=p/\(gi W.IC h).name=name)
 dp:dep 3 W.IC p≠3
def OV(W:Q8)(a p:Int)(name:ByteArray):Q8:=Rf W a (Pp W.ID.length p name)
section
variable {W:Q8}{a p:Int}{name:ByteArray}
theorem Nn(ha:WA W)(h:zdh W a p name){i:Int}(hi:0<=i):gi (OV W a p name).IC i=if a=i then Pp W.ID.length p name else gi W.IC i:=YY (by have:=h.a1; omega) (by have:=ha.gl; have:=h.a8; omega) hi
theorem zur(h:zdh W a p name){k:Int}(hu:Q6 W.IC k=true):a≠k:=fun e=>by
 have:=(Q4.1 hu).2.2;rw[<-e,h.fr] at this;cases this
theorem DD(ha:WA W)(h:zdh W a p name){k:Int}(hu:Q6 W.IC k=true):gi (OV W a p name).IC k=gi W.IC k:=by
 rw[Nn ha h (Q4.1 hu).1,B' (zur h hu)]
theorem Gr(ha:WA W)(h:zdh W a p name):gi (OV W a p name).IC a=Pp W.ID.length p name:=by
 rw[Nn ha h (by have:=h.a1; omega),C' rfl]
theorem zi6(ha:WA W):(OV W a p name).IC.length=8:=by
 have:=ha.gl;simp[OV,Rf]; omega
theorem F6(ha:WA W)(h:zdh W a p name){k:Int}:Q6 (OV W a p name).IC k=true↔Q6 W.IC k=true\/k=a:=by
 have bM:=ha.gl;have a1:=h.a1;have a8:=h.a8;rw[Q4,Q4,zi6 ha,bM];constructor
 ·rintro⟨x,y,z⟩;rw[Nn ha h x] at z
  by_cases e:a=k
  ·exact .inr e.symm
  ·rw[B' e] at z;exact .inl ⟨x,y,z⟩
 ·rintro (⟨x,y,z⟩ | rfl)
  ·refine⟨x,y,?_⟩;rw[Nn ha h x,B' fun e=>by rw[<-e,h.fr] at z; cases z];exact z
  ·refine⟨Qo,Qo,?_⟩;rw[Gr ha h]; rfl
theorem zno(ha:WA W)(h:zdh W a p name):∀(f:Nat) (k:Int),Q6 W.IC k=true->dep f (OV W a p name).IC k=dep f W.IC k
 | 0,_,_=>rfl
 | f+1,k,hu=>by
  by_cases hz:k=0
  ·subst hz; rw[ZZ,ZZ]
  ·have ih:=zno ha h f _ (Y6 ha.tree hu hz).1;simp only[dep];rw[DD ha h hu,ih]
theorem zi8(ha:WA W)(h:zdh W a p name):∀(f:Nat) (k:Int),Q6 W.IC k=true->UA f (OV W a p name).IC k=UA f W.IC k
 | 0,_,_=>rfl
 | f+1,k,hu=>by
  by_cases hz:k=0
  ·subst hz; rw[Zl,Zl]
  ·have ih:=zi8 ha h f _ (Y6 ha.tree hu hz).1;simp only[UA];rw[DD ha h hu,ih]
theorem z1f(ha:WA W)(h:zdh W a p name):dep 3 (OV W a p name).IC a=dep 3 W.IC p+1/\0<=dep 3 W.IC p:=by
 have hr:=LY ha h.up;have hd:=h.dp;have e:=zkd ha.tree 2 p h.up Qo;refine⟨?_,hr.1⟩;show (if a=0 then 0 else if dep 2 (OV W a p name).IC (gi (OV W a p name).IC a).parent<0 then -1 else dep 2 (OV W a p name).IC (gi (OV W a p name).IC a).parent+1)=_;rw[B' (by have:=h.a1; omega),Gr ha h];show (if dep 2 (OV W a p name).IC p<0 then -1 else dep 2 (OV W a p name).IC p+1)=_;rw[zno ha h 2 p h.up,e,B' Qo]
theorem zxu(ha:WA W)(h:zdh W a p name):Y5 (OV W a p name).IC:=by
 have ht:=ha.tree;have bM:=ha.gl;have a1:=h.a1;have r:=DD ha h ha.root
 have sp:∀{g:Int},1<=g->g<8->(gi (OV W a p name).IC g).used=true->g=a\/(Q6 W.IC g=true/\gi (OV W a p name).IC g=gi W.IC g):=fun {g} b d hh=>by
  rcases (F6 ha h).1 (Q4.2 ⟨Qo,by rw[zi6 ha]; omega,hh⟩) with e | e
  ·exact .inr ⟨e,DD ha h e⟩
  ·exact .inl e
 refine⟨zi6 ha,by rw[r]; exact ht.ru,by rw[r]; exact ht.rp,by rw[r]; exact ht.rn,fun g b d hh=>?_,fun g b d hh=>?_,fun g b d hh=>?_,fun g k b d e hg hk=>?_⟩
 ·rcases sp b d hh with rfl | ⟨hu,e⟩
  ·rw[Gr ha h]; exact h.nm
  ·rw[e] at hh ⊢; exact ht.nm g b d hh
 ·rcases sp b d hh with rfl | ⟨hu,e⟩
  ·rw[Gr ha h]; exact(F6 ha h).2 (.inl h.up)
  ·rw[e] at hh ⊢; exact(F6 ha h).2 (.inl (ht.par g b d hh))
 ·rcases sp b d hh with rfl | ⟨hu,e⟩
  ·have:=z1f ha h; omega
  ·rw[zno ha h 3 g hu]; exact ht.dp g b d (Q4.1 hu).2.2
 ·rintro⟨q1,q2⟩;rcases sp Qo e hg with hga | ⟨hu,eg⟩
  ·rcases sp b Qo hk with hka | ⟨hu2,ek⟩
   ·omega
   ·rw[hga,Gr ha h,ek] at q1 q2;exact h.no k b Qo (Q4.1 hu2).2.2 ⟨q1,q2⟩
  ·rcases sp b Qo hk with hka | ⟨hu2,ek⟩
   ·rw[hka,Gr ha h,eg] at q1 q2;exact h.no g Qo e (Q4.1 hu).2.2 ⟨q1.symm,q2.symm⟩
   ·rw[eg,ek] at q1 q2;exact ht.uniq g k b d e (Q4.1 hu).2.2 (Q4.1 hu2).2.2 ⟨q1,q2⟩
end
section
variable {W:Q8}{a p:Int}{name:ByteArray}
theorem KL(ha:WA W)(h:zdh W a p name){k c:Int}(hu:Q6 W.IC k=true):Qc (OV W a p name) k c=Qc W k c:=by
 unfold Qc;rw[DD ha h hu]
theorem zpm(ha:WA W)(h:zdh W a p name){c:Int}(c0:0<=c)(c1:c<(W.ID.length:Int)):Qc (OV W a p name) a c=zfd:=by
 unfold Qc;rw[Gr ha h];exact PV _ _ c0 c1
theorem zpl(ha:WA W)(h:zdh W a p name){k c:Int}(c0:0<=c)(c1:c<(W.ID.length:Int))(j:Nat)(hj:j<8):XW (OV W a p name) k c j=XW W k c j:=by
 have a1:=h.a1;unfold XW
 by_cases e:a=(j:Int)
 ·rw[<-e,zpm ha h c0 c1,h.fr];show (_&&_&&zfd.on)=_;simp[zfd]
 ·rw[Nn ha h Qo,B' e]
  have:Qc (OV W a p name) (j:Int) c=Qc W (j:Int) c:=by
   unfold Qc;rw[Nn ha h Qo,B' e]
  rw[this]
theorem zuq(ha:WA W)(h:zdh W a p name){k c:Int}(c0:0<=c)(c1:c<(W.ID.length:Int)):QT (OV W a p name) k c=QT W k c:=by
 unfold QT;rw[show Ts (OD (OV W a p name) k c) (OV W a p name).tasks.length=Ts (OD W k c) W.tasks.length from rfl,zi6 ha,ha.gl];rw[K7 fun j hj=>zpl ha h c0 c1 j hj]
theorem zi7(wp:XS W)(h:zdh W a p name){c:Int}(j:Nat)(hj:j<20):Zk W a c j=false:=by
 by_cases tF:j<12
 ·rw[UJ tF];unfold OD;rcases wp.t (j:Int) Qo Qo with hz | ⟨_,hx⟩
  ·have:(gi W.tasks (j:Int)).state=0:=hz.1;rw[this]; rfl
  ·have hg:(gi W.tasks (j:Int)).group≠a:=fun e=>zur h hx.g e.symm
   rw[show ((gi W.tasks (j:Int)).group==a)=false by simpa using hg];simp
 ·rw[show j=12+(j-12) by omega,JK];unfold XW
  cases hu:(gi W.IC ((j-12:Nat):Int)).used with
  | false=>simp
  | true=>
   have hl:=wp.a.gl;have huu:Q6 W.IC ((j-12:Nat):Int)=true:=Q4.2 ⟨Qo,Qo,hu⟩
   by_cases h1:1<=j-12
   ·have hpu:=(Y6 wp.a.tree huu Qo).1;have hg:(gi W.IC ((j-12:Nat):Int)).parent≠a:=fun e=>zur h hpu e.symm
    rw[show ((gi W.IC ((j-12:Nat):Int)).parent==a)=false by simpa using hg];simp
   ·rw[show decide (1<=j-12)=false from decide_eq_false h1]; simp
theorem K8{p:Nat->Bool}:∀{n:Nat},(∀j,j<n->p j=false)->Ts p n=false
 | 0,_=>rfl
 | n+1,h=>by simp only[Ts]; rw[K8 fun j hj=>h j Qo,h n Qo]; rfl
theorem zxt(wp:XS W)(h:zdh W a p name){c:Int}:QT W a c=false:=by
 have hl:=wp.a.gl;have ht:=wp.a.t;unfold QT;rw[K8 fun j hj=>by have:=zi7 wp h (c:=c) j Qo; rwa[UJ Qo] at this,K8 fun j hj=>by have:=zi7 wp h (c:=c) (12+j) Qo; rwa[JK] at this];rfl
theorem Bm{α β:Type}{f g:β->α->β}:∀(l:List α) (s:β),(∀(s:β) (x:α),x∈l->f s x=g s x)->l.foldl f s=l.foldl g s
 | [],_,_=>rfl
 | y::l,s,hl=>by
  rw[List.foldl_cons,List.foldl_cons,hl s y I9];exact Bm l _ fun s x hx=>hl s x (I1 _ hx)
theorem zz1(ha:WA W)(h:zdh W a p name){k:Int}(hu:Q6 W.IC k=true)(u:Int):VN (OV W a p name).IC k u=VN W.IC k u:=by
 have e:Z7 (OV W a p name).IC k=Z7 W.IC k:=zi8 ha h 3 k hu;unfold VN;rw[e];refine Bm _ _ fun s x hx=>?_
 have hxu:Q6 W.IC x=true:=by
  rcases Im.1 hx with hx | hx
  ·exact(YE ha.tree k hu x hx).1
  ·rw[Iz.1 hx]; exact ha.root
 rw[DD ha h hxu]
theorem zv8{W W':Q8}(e:W'.ID=W.ID){k:Int}(hp:∀u:Int,VN W'.IC k u=VN W.IC k u)(m:Int):Qw W' k m=Qw W k m:=by
 unfold Qw;rw[e,hp]
theorem z1g(ha:WA W)(h:zdh W a p name){k:Int}(hu:Q6 W.IC k=true)(m:Int):Qw (OV W a p name) k m=Qw W k m:=zv8 (W:=W) (W':=OV W a p name) rfl (zz1 ha h hu) m
theorem zt7(iv:Jc W)(h:zdh W a p name):Jc (OV W a p name):=by
 have wp:=iv.wp;have ha:=wp.a;have a1:=h.a1;have a8:=h.a8;have bM:=ha.gl;have hpu:∀{k:Int},Q6 W.IC k=true->k≠0->Q6 W.IC (gi W.IC k).parent=true:=fun hu hz=>(Y6 ha.tree hu hz).1
 have hA:WA (OV W a p name):=by
  refine⟨ha.n1,ha.n2,ha.c1,ha.c2,ha.t,zxu ha h,ha.sZ,fun k k0 k1=>?_⟩;unfold MK;rw[Nn ha h k0];split
  ·refine⟨fun hh=>(by cases hh),fun _=>⟨show (1:Int)<=10 by decide,show (10:Int)<=20 by decide,show Po 15=true by decide,show (15:Int)≠0 by decide,show ZI 0=true by decide,by simp[Pp]; rfl,fun _=>⟨rfl,rfl,rfl⟩,fun _=>⟨show O8 ⟨0,0,0,[],[]⟩=true by decide,rfl,rfl⟩,fun hh=>Ir rfl hh⟩⟩
  ·have:=ha.grp k k0 k1;exact⟨this.1,fun hu=>by have:=this.2 hu; exact⟨this.w1,this.w2,this.m,this.m0,this.s,this.len,this.root,this.none,this.IQ⟩⟩
 refine⟨⟨hA,fun t t0 t1=>?_,fun k c k0 k1 c0 c1=>?_,fun c c0 c1=>?_⟩,fun k c hu c0 c1 hb=>?_⟩
 ·rcases wp.t t t0 t1 with hz | ⟨n,hx⟩
  ·exact .inl hz
  ·refine .inr ⟨n,hx.st,(F6 ha h).2 (.inl hx.g),hx.n,hx.m,hx.m0,hx.v,hx.s,hx.u,hx.l1,hx.l2,?_,fun hs=>?_⟩
   ·rw[show (Q7 (OV W a p name) t)=Q7 W t from rfl,z1g ha h hx.g]; exact hx.c
   ·rw[show (Q7 (OV W a p name) t)=Q7 W t from rfl,KL ha h hx.g]; exact hx.f hs
 ·by_cases e:a=k
  ·subst e;rw[Gr ha h] at c1;have c1:c<(W.ID.length:Int):=by simpa[Pp] using c1
   have es:=zpm ha h c0 c1;refine⟨by rw[es]; decide,by rw[es]; decide,by rw[es]; decide,by rw[es]; decide,by rw[es]; decide,fun hz=>by omega,fun _=>?_,fun _ ho=>?_⟩
   ·rw[es,zuq ha h c0 c1,zxt wp h]; rfl
   ·rw[es] at ho; cases ho
  ·have hg:gi (OV W a p name).IC k=gi W.IC k:=by rw[Nn ha h k0,B' e]
   rw[hg] at c1
   have hu:Q6 W.IC k=true:=by
    cases hh:(gi W.IC k).used with
    | true=>exact Q4.2 ⟨k0,Qo,hh⟩
    | false=>
     have:=((ha.grp k k0 k1).1 hh).l;omega
   have cl:c<(W.ID.length:Int):=by rw[<-ha.sl hu]; exact c1
   have hs:=wp.s k c k0 k1 c0 c1;have es:=KL ha h (c:=c) hu;refine⟨by rw[es]; exact hs.f,by rw[es]; exact hs.v,by rw[es]; exact hs.s,by rw[es]; exact hs.w1,by rw[es]; exact hs.w2,fun hz=>by rw[es]; exact hs.root hz,fun hz=>?_,fun hz ho=>?_⟩
   ·rw[es,zuq ha h c0 cl,show JY (OV W a p name) k c=JY W k c by unfold JY; rw[hg]];exact hs.on hz
   ·rw[es] at ho;rw[es,hg,KL ha h (hpu hu hz)];exact hs.st hz ho
 ·have hc:=wp.c c c0 c1;refine⟨hc.b,hc.i,hc.c1,hc.c2,hc.no,fun h0=>?_⟩;have h0:0<=(gi W.ID c).cur:=h0;obtain⟨y1,y2,y3,y4,y5,y6⟩:=hc.yes h0;have hl:=ha.t
  have jA:Q6 W.IC (Q7 W (gi W.ID c).cur).group=true:=by
   have hc2:=hc.c2;rcases wp.t _ h0 Qo with hz | ⟨_,hx⟩
   ·unfold ZA at y5;rw[hz.1] at y5;simp at y5
   ·exact hx.g
  have hpt:Z7 (OV W a p name).IC (Q7 W (gi W.ID c).cur).group=Z7 W.IC (Q7 W (gi W.ID c).cur).group:=zi8 ha h 3 _ jA;refine⟨y1,y2,y3,y4,?_,?_⟩
  ·unfold ZA UU at y5 ⊢;rw[show (gi (OV W a p name).ID c).cur=(gi W.ID c).cur from rfl,show Q7 (OV W a p name) (gi W.ID c).cur=Q7 W (gi W.ID c).cur from rfl,hpt];rw[A',List.all_eq_true] at y5 ⊢;exact⟨y5.1,fun x hx=>by rw[KL ha h (YE ha.tree _ jA x hx).1]; exact y5.2 x hx⟩
  ·unfold Mc TH at y6 ⊢;rw[show (gi (OV W a p name).ID c).cur=(gi W.ID c).cur from rfl,show (gi (OV W a p name).ID c).WH=(gi W.ID c).WH from rfl,show Q7 (OV W a p name) (gi W.ID c).cur=Q7 W (gi W.ID c).cur from rfl,hpt,KL ha h jA];rw[A',List.all_eq_true] at y6 ⊢;refine⟨y6.1,fun x hx=>?_⟩;obtain⟨xu,xz⟩:=YE ha.tree _ jA x hx;rw[KL ha h xu,DD ha h xu,KL ha h (hpu xu xz)];exact y6.2 x hx
 ·have cl:c<(W.ID.length:Int):=c1
  have AU5:∀j,j<20->Zk (OV W a p name) k c j=Zk W k c j:=fun j hj=>by
   by_cases tF:j<12
   ·rw[UJ tF,UJ tF]; rfl
   ·rw[show j=12+(j-12) by omega,JK,JK,zpl ha h c0 cl (j-12) Qo]
  rcases (F6 ha h).1 hu with hk | rfl
  ·have hv:∀j,j<20->Zk (OV W a p name) k c j=true->Ze (OV W a p name) c j=Ze W c j:=fun j hj hm=>by
    unfold Ze;split
    ·rfl
    ·rename_i tF;rw[AU5 j hj,show j=12+(j-12) by omega,JK] at hm;unfold XW at hm;simp only[A'] at hm;rw[KL ha h (Q4.2 ⟨Qo,Qo,hm.1.2.1⟩)]
   have e:QW (Zk (OV W a p name) k c) (Ze (OV W a p name) c) 20=QW (Zk W k c) (Ze W c) 20:=MA AU5 hv;have pK:=iv.fl k c hk c0 cl (by unfold Zr at hb ⊢; rwa[e] at hb);rw[KL ha h hk];refine Int.le_trans (Int.le_of_eq ?_) pK;unfold Zr at hb;have hb:=Ot hb;rw[e] at hb;unfold Z0;rw[e,B' Qo,B' Qo];rcases Zo (Zk W k c) (Ze W c) 20 with ⟨q,_⟩ | ⟨_,q2,q3,_⟩
   ·omega
   ·have IS:(QW (Zk W k c) (Ze W c) 20).toNat<20:=Qo;exact hv _ IS (by rw[AU5 _ IS]; exact q3)
  ·exfalso
   unfold Zr at hb;have hb:=Ot hb;rcases Zo (Zk (OV W k p name) k c) (Ze (OV W k p name) c) 20 with ⟨q,_⟩ | ⟨_,q2,q3,_⟩
   ·omega
   ·rw[AU5 _ Qo,zi7 wp h _ Qo] at q3;cases q3
end
theorem zuk{W:Q8}(ha:WA W){k c d:Int}(hu:Q6 W.IC k=true)(hd:dep 3 W.IC k=d)(d1:1<=d)(c0:0<=c)(c1:c<(W.ID.length:Int)) :
  WA (RA W k c (ZS W k c))/\VM (RA W k c (ZS W k c)) c k/\∀g:Int,Q6 W.IC g=true->g≠k->(gi W.IC k).parent≠g->VM W c g->VM (RA W k c (ZS W k c)) c g:=by
 have hz:k≠0:=fun e=>by subst e; rw[ZZ] at hd; omega
 obtain⟨u0,u1,_⟩:=Q4.1 hu;have hl:=ha.gl;have hsl:=ha.sl hu;have qX:c<((gi W.IC k).IE.length:Int):=Qo
 have hpk:(gi W.IC k).parent≠k:=fun e=>by
  obtain⟨_,_,_,n,e1,e2,_⟩:=Y6 ha.tree hu hz;rw[e] at e2; omega
 have e:∀{i j:Int},0<=i->0<=j->Qc (RA W k c (ZS W k c)) i j=if k=i/\c=j then ZS W k c else Qc W i j:=fun hi hj=>Uv u0 u1 c0 qX hi hj
 have hT:=XO (W:=W) (g:=k) (c:=c) (s:=ZS W k c) u0 u1
 have act:∀g:Int,(gi W.IC k).parent≠g->QT (RA W k c (ZS W k c)) g c=QT W g c:=fun g hg=>by
  refine OE (W:=W) (W':=RA W k c (ZS W k c)) rfl hT fun j hj _ _ hp=>?_
  rw[e Qo c0,B'];rintro⟨h,_⟩;exact hg (by rw[h]; exact hp)
 refine⟨ha.RA u0 Qo,?_,fun g gu gk hg h=>?_⟩
 ·unfold VM;rw[e u0 c0,C' ⟨rfl,rfl⟩,act k hpk,H0 u0 u1 u0];rfl
 ·unfold VM;have g0:=(Q4.1 gu).1;rw[e g0 c0,B' fun h=>gk h.1.symm,act g hg,H0 u0 u1 g0];exact h
theorem zk8{W:Q8}(ha:WA W){c d:Int}(d1:1<=d)(c0:0<=c)(c1:c<(W.ID.length:Int))(hI:∀g:Int,Q6 W.IC g=true->d<dep 3 W.IC g->VM W c g):∀k:Nat,k<=8->
  WA (Zj W c d k)/\U2 W (Zj W c d k)/\∀g:Int,Q6 W.IC g=true->d<dep 3 W.IC g\/dep 3 W.IC g=d/\g<(k:Int)->VM (Zj W c d k) c g
 | 0,_=>⟨ha,U2.refl _,fun g gu h=>hI g gu (by
   rcases h with h | h
   ·exact h
   ·have:=(Q4.1 gu).1;have:=h.2;omega)⟩
 | k+1,hk=>by
  obtain⟨a,b,ih⟩:=zk8 ha d1 c0 c1 hI k Qo;have hl:=a.gl;have hT:=b.g;simp only[Zj];split
  ·rename_i hc;have hu:Q6 (Zj W c d k).IC (k:Int)=true:=Q4.2 ⟨Qo,Qo,hc.1⟩;obtain⟨l1,l3,l4⟩:=zuk a hu hc.2 d1 c0 (c:=c) (by rw[b.c]; exact c1);refine⟨l1,b.trans (VH Qo Qo),fun g gu h=>?_⟩
   by_cases e:g=(k:Int)
   ·subst e; exact l3
   ·have hkz:(k:Int)≠0:=fun e=>by have:=hc.2; rw[e,ZZ] at this; omega
    obtain⟨_,_,_,n,e1,e2,_⟩:=Y6 a.tree hu hkz;refine l4 g (by rw[hT.cK]; exact gu) e (fun hp=>?_) (ih g gu ?_)
    ·rw[hp,hT.dep] at e2;have:=hc.2;omega
    ·rcases h with h | h
     ·exact .inl h
     ·exact .inr ⟨h.1,by have:=h.2; omega⟩
  ·rename_i hc;refine⟨a,b,fun g gu h=>ih g gu ?_⟩;rcases h with h | h
   ·exact .inl h
   ·refine .inr ⟨h.1,?_⟩
    by_cases e:g=(k:Int)
    ·subst e;exact Ir ⟨by rw[hT.u]; exact(Q4.1 gu).2.2,by rw[hT.dep]; exact h.1⟩ hc
    ·have:=h.2;omega
theorem zrp{W:Q8}(ha:WA W){c:Int}(c0:0<=c)(c1:c<(W.ID.length:Int)):WA (QF W c)/\U2 W (QF W c)/\∀g:Int,Q6 W.IC g=true->g≠0->VM (QF W c) c g:=by
 have key:∀j:Nat,j<=3->WA (YL W c j)/\U2 W (YL W c j)/\∀g:Int,Q6 W.IC g=true->3-(j:Int)<dep 3 W.IC g->VM (YL W c j) c g:=by
  intro j
  induction j with
  | zero=>exact fun _=>⟨ha,U2.refl _,fun g gu h=>by have:=(LY ha gu).2; omega⟩
  | succ j ih=>
   intro hj;obtain⟨a,b,h⟩:=ih Qo;have hT:=b.g;obtain⟨a2,b2,h2⟩:=zk8 a (c:=c) (d:=3-(j:Int)) Qo c0 (by rw[b.c]; exact c1) (fun g gu hd=>h g (by rwa[hT.cK] at gu) (by rwa[hT.dep] at hd)) 8 (I7 _);refine⟨a2,b.trans b2,fun g gu hd=>h2 g (by rw[hT.cK]; exact gu) ?_⟩;rw[hT.dep];have:=(Q4.1 gu).2.1;have:=ha.gl
   by_cases e:dep 3 W.IC g=3-(j:Int)
   ·exact .inr ⟨e,Qo⟩
   ·exact .inl Qo
 obtain⟨a,b,h⟩:=key 3 (I7 _);refine⟨a,b,fun g gu gz=>h g gu ?_⟩;obtain⟨_,_,_,n,e1,_⟩:=Y6 ha.tree gu gz;omega
theorem zgu{W:Q8}(ha:WA W){c d:Int}(d1:1<=d)(c0:0<=c)(c1:c<(W.ID.length:Int)):∀k:Nat,k<=8->FJ c W (Zj W c d k)/\WA (Zj W c d k)
 | 0,_=>⟨FJ.refl _ _,ha⟩
 | k+1,hk=>by
  obtain⟨o,a⟩:=zgu ha d1 c0 c1 k Qo;have hl:=a.gl;simp only[Zj];split
  ·rename_i hc;have hu:Q6 (Zj W c d k).IC (k:Int)=true:=Q4.2 ⟨Qo,Qo,hc.1⟩;exact⟨o.trans (BL Qo Qo c0 (by rw[a.sl hu,o.len]; exact c1)),a.RA Qo Qo⟩
  ·exact⟨o,a⟩
theorem znr{W:Q8}(ha:WA W){c:Int}(c0:0<=c)(c1:c<(W.ID.length:Int)):FJ c W (QF W c):=by
 have key:∀j:Nat,j<=3->FJ c W (YL W c j)/\WA (YL W c j):=by
  intro j
  induction j with
  | zero=>exact fun _=>⟨FJ.refl _ _,ha⟩
  | succ j ih=>
   intro hj;obtain⟨o,a⟩:=ih Qo;obtain⟨o2,a2⟩:=zgu a (c:=c) (d:=3-(j:Int)) Qo c0 (by rw[o.len]; exact c1) 8 (I7 _);exact⟨o.trans o2,a2⟩
 exact(key 3 (I7 _)).1
structure Dm (W:Q8) (c:Int):Prop where
 on:∀k:Int,Q6 W.IC k=true->k≠0->VM W c k
 cu:0<=(gi W.ID c).cur->(Q7 W (gi W.ID c).cur).IZ=c/\ZA W (gi W.ID c).cur=true
theorem z04{W:Q8}(wp:XS W){c:Int}(c0:0<=c)(c1:c<(W.ID.length:Int)):Dm W c:=
 ⟨fun k hu hz=>(DT wp hu c0 c1).on hz,fun h=>⟨((wp.c c c0 c1).yes h).2.2.2.1,((wp.c c c0 c1).yes h).2.2.2.2.1⟩⟩
theorem Dm.oth{K:Int}{c d:Int}{W W':Q8}(h:Dm W d)(sw:SW K W)(o:FJ c W W')(d0:0<=d)(d1:d<(W.ID.length:Int))(hd:d≠c):Dm W' d:=by
 refine⟨fun k hu hz=>?_,fun h0=>?_⟩
 ·rw[o.g.cK] at hu;have k0:=(Q4.1 hu).1;have:=h.on k hu hz;unfold VM at this ⊢;rw[o.e k d k0 d0 hd,o.SK d0 hd,zie (o.b k k0)];exact this
 ·rw[o.cp d d0 hd] at h0 ⊢;rw[Ja o.t];obtain⟨h1,h2⟩:=h.cu h0;refine⟨h1,?_⟩
  have hs:(Q7 W (gi W.ID d).cur).state=1:=by
   unfold ZA at h2;rw[A'] at h2;exact Iy h2.1
  have hu:=(sw.t _ h0 (sw.cu d d0 d1).2 (by rw[hs]; decide)).1;rw[o.line sw.a.tree hu (by rw[h1]; exact d0) (by rw[h1]; exact hd)];exact h2
theorem zl3{K:Int}{W:Q8}(sw:SW K W){c:Int}(c0:0<=c)(c1:c<(W.ID.length:Int)):FJ c W (UX W c)/\Dm (UX W c) c:=by
 obtain⟨p1,os,hon⟩:=zrp sw.a c0 c1;have ol:=znr sw.a c0 c1;obtain⟨f,hA,_⟩:=Bl p1 c0 (c:=c) (by rw[os.c]; exact c1) 8 (I7 _);have f:FC c (QF W c) (Z6 (QF W c) c):=f;have hon:∀g:Int,Q6 (QF W c).IC g=true->g≠0->VM (QF W c) c g:=fun g gu gz=>hon g (by rwa[os.g.cK] at gu) gz
 have SN:UX W c=if PY (Z6 (QF W c) c) c=true then Rn (Z6 (QF W c) c) c else Z6 (QF W c) c:=rfl;have hO:FJ c W (Z6 (QF W c) c):=ol.trans f.o;have hFc:(Z6 (QF W c) c).ID.length=W.ID.length:=hO.len;have hT:=f.o.g
 have BO5:∀k:Int,Q6 (Z6 (QF W c) c).IC k=true->k≠0->VM (Z6 (QF W c) c) c k:=fun k hu hz=>by
  rw[hT.cK] at hu;have k0:=(Q4.1 hu).1;have:=hon k hu hz;unfold VM at this ⊢;rw[f.on k c k0 c0,OE f.o.t hT fun j _ _ _ _=>f.on _ c Qo c0,zie (f.o.b k k0)];exact this
 rw[SN];clear SN;generalize Z6 (QF W c) c=F at BO5 hO hFc;have cF:c<(F.ID.length:Int):=by rw[hFc]; exact c1
 split
 ·refine⟨hO.trans (zlf c0 cF),BO5,fun h0=>?_⟩;rw[show gi (Rn F c).ID c=XU (gi F.ID c) from (QE _ _ c0 cF c0).trans (C' rfl)] at h0;have h0:(0:Int)<=-1:=h0;omega
 ·rename_i hg;have hg:PY F c=false:=by simpa using hg
  refine⟨hO,BO5,fun h0=>?_⟩;unfold PY at hg;rw[Ih h0,Bool.true_and,H'] at hg;exact⟨by simpa using hg.1,by simpa using hg.2⟩
theorem zl1{K:Int}{W:Q8}(sw:SW K W)(hK:0<=K):∀c:Nat,c<=W.ID.length->∀d:Int,0<=d->d<(c:Int)->Dm (XK W c) d
 | 0,_=>fun d a b=>by omega
 | c+1,hc=>fun d d0 d1=>by
  obtain⟨s1,f1⟩:=Ku sw hK c Qo;obtain⟨o,dm⟩:=zl3 s1 (c:=(c:Int)) Qo (by rw[f1.c]; omega)
  by_cases h:d=(c:Int)
  ·subst h; exact dm
  ·exact(zl1 sw hK c Qo d d0 Qo).oth s1 o d0 (by rw[f1.c]; omega) h
theorem zsd{K:Int}{W:Q8}(sw:SW K W)(hK:0<=K){d:Int}(d0:0<=d)(d1:d<(W.ID.length:Int)):Dm (Qg W) d:=by
 obtain⟨s1,o1⟩:=O6 (F:=K) (K:=K+Qi) (sw.sf.mono (I2 _) (by simp only[Qi]; omega)) (I2 _) W.ID.length (I7 _);obtain⟨s2,b2⟩:=Te s1 8 (I7 _);exact zl1 s2.w (by simp only[Qi]; omega) W.ID.length (by show W.ID.length<=(Y7 (Ya W W.ID.length) 8).ID.length; rw[b2.c,o1.c]; exact I7 _) d d0 d1
structure zoo (W:Q8) (t c:Int):Prop where
 t0:0<=t
 t1:t<12
 st:(Q7 W t).state=1
 IZ:(Q7 W t).IZ=c
 on:∀x∈Z7 W.IC (Q7 W t).group,(Qc W x c).on=true
theorem zrw{W:Q8}(ha:WA W){c:Int}(f:Nat):∀g:Int,Q6 W.IC g=true->(4-dep 3 W.IC g).toNat=f->(∀x∈Z7 W.IC g,(Qc W x c).on=true)->0<=Km W g c->zoo W (Km W g c) c:=by
 induction f with
 | zero=>
  intro g hu hf;have:=LY ha hu;omega
 | succ f ih=>
  intro g hu hf hp h;rw[BI ha hu] at h ⊢
  by_cases h1:QU W g c<0
  ·rw[C' h1] at h; omega
  ·rw[B' h1] at h ⊢
   by_cases h2:QU W g c<12
   ·rw[C' h2] at h ⊢
    have hm:Zk W g c (QU W g c).toNat=true:=by
     rcases Zo (Zk W g c) (Ze W c) 20 with ⟨a,_⟩ | ⟨_,_,a,_⟩
     ·unfold QU at h1; omega
     ·exact a
    rw[UJ Qo] at hm;unfold OD at hm;rw[show (((QU W g c).toNat:Nat):Int)=QU W g c by omega] at hm;simp only[A',Is] at hm;refine⟨h,h2,hm.1.1,hm.2,?_⟩;rw[show (Q7 W (QU W g c)).group=g from hm.1.2];exact hp
   ·rw[B' h2] at h ⊢;obtain⟨k1,k2,k3,k4⟩:=H2 ha hu (g:=g) (c:=c) Qo
    have hm:Zk W g c (QU W g c).toNat=true:=by
     rcases Zo (Zk W g c) (Ze W c) 20 with ⟨a,_⟩ | ⟨_,_,a,_⟩
     ·unfold QU at h1; omega
     ·exact a
    rw[show (QU W g c).toNat=12+(QU W g c-12).toNat by omega,JK] at hm;unfold XW at hm;rw[show (((QU W g c-12).toNat:Nat):Int)=QU W g c-12 by omega] at hm;simp only[A',Is] at hm;refine ih _ k1 Qo (fun x hx=>?_) h;rw[Yz ha.tree k1 k2] at hx;rcases Ii.1 hx with e | e
    ·rw[e]; exact hm.2
    ·rw[hm.1.2.2] at e; exact hp x e
theorem zr5{W:Q8}(ha:WA W){c:Int}(h12:(gi W.ID c).cur<12)(hcu:0<=(gi W.ID c).cur->(Q7 W (gi W.ID c).cur).IZ=c/\ZA W (gi W.ID c).cur=true)(h:¬Qt W c<0):zoo W (Qt W c) c:=by
 unfold Qt at h ⊢;split
 ·rename_i hc;obtain⟨h1,h2⟩:=hcu hc.1;unfold ZA UU at h2;rw[A',List.all_eq_true,h1] at h2;exact⟨hc.1,h12,Iy h2.1,h1,h2.2⟩
 ·rename_i hc;rw[B' hc] at h;exact zrw ha _ 0 ha.root rfl (fun x hx=>by rw[show Z7 W.IC 0=[] from Zl _ _] at hx; cases hx) Qo
structure Tr (W W':Q8):Prop where
 n:W'.now=W.now
 t:W'.tasks=W.tasks
 s:∀i d:Int,(Qc W' i d).sum=(Qc W i d).sum
 g:∀i:Int,(gi W'.IC i).sum=(gi W.IC i).sum
 b:∀i:Int,(gi W'.ID i).busy=(gi W.ID i).busy
 i:∀i:Int,(gi W'.ID i).idle=(gi W.ID i).idle
 u:∀i:Int,(gi W'.ID i).up=(gi W.ID i).up
 r:∀i:Int,(gi W'.ID i).WH=(gi W.ID i).WH\/(gi W'.ID i).WH=0
theorem Tr.refl(W:Q8):Tr W W:=⟨rfl,rfl,fun _ _=>rfl,fun _=>rfl,fun _=>rfl,fun _=>rfl,fun _=>rfl,fun _=>.inl rfl⟩
theorem Tr.trans{A B C:Q8}(h:Tr A B)(k:Tr B C):Tr A C:=
 ⟨k.n.trans h.n,k.t.trans h.t,fun i d=>(k.s i d).trans (h.s i d),fun i=>(k.g i).trans (h.g i),fun i=>(k.b i).trans (h.b i),fun i=>(k.i i).trans (h.i i),fun i=>(k.u i).trans (h.u i),fun i=>by
  rcases k.r i with e | e
  ·rcases h.r i with e2 | e2
   ·exact .inl (e.trans e2)
   ·exact .inr (e.trans e2)
  ·exact .inr e⟩
theorem zvu(W:Q8){g c:Int}{s:LI}(h:s.sum=(Qc W g c).sum):Tr W (RA W g c s):=
 ⟨rfl,rfl,fun i d=>YJ (f:=fun G:ZO=>(gi G.IE d).sum) W.IC g (x:={ gi W.IC g with IE:=(gi W.IC g).IE.set c.toNat s }) (YJ (f:=LI.sum) (gi W.IC g).IE c h d) i,fun i=>YJ (f:=ZO.sum) W.IC g (x:={ gi W.IC g with IE:=(gi W.IC g).IE.set c.toNat s }) rfl i,fun _=>rfl,fun _=>rfl,fun _=>rfl,fun _=>.inl rfl⟩
theorem zvt(W:Q8)(g:Int)(b:UM):Tr W (RI W g b):=
 ⟨rfl,rfl,fun i d=>YJ (f:=fun G:ZO=>(gi G.IE d).sum) W.IC g (x:={ gi W.IC g with IQ:=b }) rfl i,fun i=>YJ (f:=ZO.sum) W.IC g (x:={ gi W.IC g with IQ:=b }) rfl i,fun _=>rfl,fun _=>rfl,fun _=>rfl,fun _=>.inl rfl⟩
theorem zrc{α:Type}[Inhabited α](l:List α)(k:Int)(x:α)(i:Int):gi (l.set k.toNat x) i=gi l i\/gi (l.set k.toNat x) i=x:=by
 unfold gi;simp only[List.getD_eq_getElem?_getD,List.getElem?_set];split
 ·split
  ·exact .inr rfl
  ·rename_i e hl;refine .inl ?_;rw[show l[i.toNat]? = none from List.getElem?_eq_none_iff.2 Qo]
 ·exact .inl rfl
theorem zqe(W:Q8)(c:Int):Tr W (Rn W c):=
 ⟨rfl,rfl,fun _ _=>rfl,fun _=>rfl,fun i=>YJ (f:=Mj.busy) W.ID c (x:=XU (gi W.ID c)) rfl i,fun i=>YJ (f:=Mj.idle) W.ID c (x:=XU (gi W.ID c)) rfl i,fun i=>YJ (f:=Mj.up) W.ID c (x:=XU (gi W.ID c)) rfl i,fun i=>by
  rcases zrc W.ID c (XU (gi W.ID c)) i with e | e
  ·exact .inl (by show (gi (W.ID.set c.toNat (XU (gi W.ID c))) i).WH=_; rw[e])
  ·exact .inr (by show (gi (W.ID.set c.toNat (XU (gi W.ID c))) i).WH=0; rw[e]; rfl)⟩
theorem N7(W:Q8)(c d:Int):∀k:Nat,Tr W (Zj W c d k)
 | 0=>Tr.refl _
 | k+1=>by
  simp only[Zj];split
  ·exact(N7 W c d k).trans (zvu _ rfl)
  ·exact N7 W c d k
theorem DY(W:Q8)(c:Int):∀j:Nat,Tr W (YL W c j)
 | 0=>Tr.refl _
 | j+1=>(DY W c j).trans (N7 _ _ _ _)
theorem zc8(W:Q8):∀c:Nat,Tr W (Ya W c)
 | 0=>Tr.refl _
 | c+1=>(zc8 W c).trans (DY (Ya W c) (c:Int) 3)
theorem N5(W:Q8)(k:Int):∀c:Nat,Tr W (ZM W k c)
 | 0=>Tr.refl _
 | c+1=>by
  simp only[ZM];split
  ·exact(N5 W k c).trans (zvt _ _ _)
  ·exact N5 W k c
theorem N6(W:Q8):∀k:Nat,Tr W (Y7 W k)
 | 0=>Tr.refl _
 | k+1=>by
  simp only[Y7];split
  ·exact(N6 W k).trans (N5 _ _ _)
  ·exact N6 W k
theorem DX(W:Q8)(c:Int):∀k:Nat,Tr W (QN W c k)
 | 0=>Tr.refl _
 | k+1=>by
  simp only[QN];split
  ·exact(DX W c k).trans (zvu _ rfl)
  ·exact DX W c k
theorem zsj(W:Q8)(c:Int):Tr W (UX W c):=by
 have h:=(DY W c 3).trans (DX (QF W c) c 8);unfold UX;split
 ·exact h.trans (zqe _ _)
 ·exact h
theorem zhe(W:Q8):∀c:Nat,Tr W (XK W c)
 | 0=>Tr.refl _
 | c+1=>(zhe W c).trans (zsj (XK W c) (c:Int))
theorem zoc(W:Q8):Tr W (Qg W):=((zc8 W W.ID.length).trans (N6 (Ya W W.ID.length) 8)).trans (zhe (L3 (Ya W W.ID.length)) W.ID.length)
structure RB (S:Int) (W:Q8):Prop where
 n:W.now<=50000000000000000
 t:∀t:Int,0<=t->t<12->0<=(Q7 W t).sum/\(Q7 W t).sum<=S/\0<=(Q7 W t).used/\(Q7 W t).used<=S
 s:∀k c:Int,Q6 W.IC k=true->0<=c->c<(W.ID.length:Int)->0<=(Qc W k c).sum/\(Qc W k c).sum<=S
 g:∀k:Int,Q6 W.IC k=true->0<=(gi W.IC k).sum/\(gi W.IC k).sum<=S
 c:∀c:Int,0<=c->c<(W.ID.length:Int)->0<=(gi W.ID c).busy/\(gi W.ID c).busy<=S/\0<=(gi W.ID c).idle/\(gi W.ID c).idle<=50000000000000000/\0<=(gi W.ID c).WH/\(gi W.ID c).WH<=149
theorem RB.sum{S:Int}{W W':Q8}(h:RB S W)(k:Tr W W')(hT:Z2 W.IC W'.IC)(hl:W'.ID.length=W.ID.length):RB S W':=by
 refine⟨by rw[k.n]; exact h.n,fun t a b=>by rw[Ja k.t]; exact h.t t a b,fun i c u a b=>?_,fun i u=>?_,fun c a b=>?_⟩
 ·rw[hT.cK] at u;rw[hl] at b;rw[k.s]; exact h.s i c u a b
 ·rw[hT.cK] at u;rw[k.g]; exact h.g i u
 ·rw[hl] at b;have:=h.c c a b;rw[k.b,k.i];refine⟨this.1,this.2.1,this.2.2.1,this.2.2.2.1,?_⟩;rcases k.r c with e | e
  ·rw[e]; exact this.2.2.2.2
  ·rw[e]; exact⟨Qo,Qo⟩
theorem z1n{W:Q8}(wp:XS W)(r:KY W):RB Qj W:=by
 have hl:=wp.a.gl;have ht:=wp.a.t;refine⟨r.n,fun t a b=>?_,fun k c u a b=>?_,fun k u=>?_,fun c a b=>?_⟩
 ·have h:=r.t t a Qo;rcases wp.t t a b with hz | ⟨_,hx⟩
  ·rw[hz.2]; decide
  ·exact⟨(YZ.1 hx.s).1,h.2.1,(YZ.1 hx.u).1,h.2.2⟩
 ·obtain⟨u0,u1,_⟩:=Q4.1 u;have hs:=wp.a.sl u;exact⟨(YZ.1 (DT wp u a b).s).1,(r.s k c u0 u1 a Qo).2.2⟩
 ·obtain⟨u0,u1,hg⟩:=wp.a.u u;exact⟨(YZ.1 hg.s).1,r.g k u0 Qo⟩
 ·have hc:=wp.c c a b;have hr:=r.c c a b;refine⟨(YZ.1 hc.b).1,hr.1,(YZ.1 hc.i).1,hr.2,?_⟩
  by_cases h:(gi W.ID c).cur<0
  ·rw[hc.no h]; decide
  ·have:=hc.yes Qo; omega
theorem zvw{b:UM}(h:Oq b){c:Int}(c0:0<=c)(c1:c<(b.locals.length:Int)):Oq (ZX b c).1/\(ZX b c).1.locals.length=b.locals.length/\(ZX b c).1.IW=b.IW:=by
 unfold ZX;split
 ·exact⟨h,rfl,rfl⟩
 ·rename_i hn;have hm:=Cs h.p1;have he:=h.each c c0 c1;have hs:=Fw b.locals c (Zx 20 b.Rv) c0 c1 b.locals.length;rw[C' c1] at hs;have p2:=h.p2;have su:=h.sum;have dl:=h.dl;refine⟨⟨h.q1,h.q2,?_,?_,?_,?_,?_,h.s1,h.s2,fun d d0 d1=>?_,?_⟩,Qs,rfl⟩
  ·simp only[E']; exact h.l1
  ·simp only[E']; exact h.l2
  ·simp only[E']; exact h.dl
  ·show 0<=b.Rv-Zx 20 b.Rv; omega
  ·show b.Rv-Zx 20 b.Rv<=b.IW; omega
  ·simp only[E'] at d1;have hd:=h.each d d0 d1;show 0<=gi (b.locals.set c.toNat (Zx 20 b.Rv)) d/\gi (b.locals.set c.toNat (Zx 20 b.Rv)) d<=b.IW/\(gi (b.Rw.set c.toNat (Zx 20 b.Rv==0)) d=true->gi (b.locals.set c.toNat (Zx 20 b.Rv)) d=0/\b.Rv-Zx 20 b.Rv=0);rw[QE _ _ c0 c1 d0,QE _ _ c0 Qo d0];have hz:Zx 20 b.Rv=0->b.Rv=0:=fun e=>by unfold Zx at e; split at e <;> omega
   by_cases e:c=d
   ·subst e;rw[C' rfl,C' rfl];refine⟨hm.1,Qo,fun hd0=>?_⟩;have e0:Zx 20 b.Rv=0:=Iy hd0;have:=hz e0;exact⟨e0,Qo⟩
   ·rw[B' e,B' e];refine⟨hd.1,hd.2.1,fun hd0=>?_⟩;have:=hd.2.2 hd0;exact⟨this.1,Qo⟩
  ·show b.Rv-Zx 20 b.Rv+b.Sl+UY (b.locals.set c.toNat (Zx 20 b.Rv)) (b.locals.set c.toNat (Zx 20 b.Rv)).length=b.IW;rw[E',hs];omega
theorem zsh{b:UM}(h:Oq b){c n:Int}(c0:0<=c)(c1:c<(b.locals.length:Int)):Oq (Xy b c n).1/\(Xy b c n).1.locals.length=b.locals.length/\(Xy b c n).1.IW=b.IW:=by
 unfold Xy;split
 ·exact⟨h,rfl,rfl⟩
 ·rename_i hn;have hs:=Fw b.locals c (gi b.locals c-n) c0 c1 b.locals.length;rw[C' c1] at hs;have hnn:=(zjt (fun d d0 d1=>(h.each d d0 d1).1) c0 b.locals.length (I7 _)).2 c1;have p1:=h.p1;have su:=h.sum;have s1:=h.s1;have dl:=h.dl;have hn1:¬n<1:=fun e=>hn (.inl e)
  have hn2:¬n>gi b.locals c:=fun e=>hn (.inr e)
  refine⟨⟨h.q1,h.q2,?_,?_,?_,h.p1,h.p2,?_,?_,fun d d0 d1=>?_,?_⟩,Qs,rfl⟩
  ·simp only[E']; exact h.l1
  ·simp only[E']; exact h.l2
  ·simp only[E']; exact h.dl
  ·show 0<=b.Sl+n; omega
  ·show b.Sl+n<=b.IW; omega
  ·simp only[E'] at d1;have hd:=h.each d d0 d1;show 0<=gi (b.locals.set c.toNat (gi b.locals c-n)) d/\gi (b.locals.set c.toNat (gi b.locals c-n)) d<=b.IW/\(gi b.Rw d=true->gi (b.locals.set c.toNat (gi b.locals c-n)) d=0/\b.Rv=0);rw[QE _ _ c0 c1 d0]
   by_cases e:c=d
   ·subst e;rw[C' rfl];exact⟨Qo,Qo,fun hd0=>by have:=(hd.2.2 hd0).1; omega⟩
   ·rw[B' e];exact hd
  ·show b.Rv+(b.Sl+n)+UY (b.locals.set c.toNat (gi b.locals c-n)) (b.locals.set c.toNat (gi b.locals c-n)).length=b.IW;rw[E',hs];omega
def zet(b:UM)(c:Int):Nat->Nat
 | 0=>0
 | d+1=>zet b c d+if (d:Int)≠c/\gi b.locals (d:Int)>0 then 1 else 0
def zoi(b:UM)(c:Int):Nat:=if gi b.Rw c=true then 0 else 1
def J9(b:UM)(c:Int):Nat:=9*zet b c 4+zoi b c
theorem zpb(b:UM)(c:Int):∀n:Nat,zet b c n<=n
 | 0=>I7 _
 | n+1=>by
  have:=zpb b c n;simp only[zet]
  split <;> omega
theorem zx2(b:UM)(c:Int):J9 b c<=37:=by
 have:=zpb b c 4;unfold J9 zoi
 split <;> omega
def zf1(W:Q8)(c:Int):Nat->Nat
 | 0=>0
 | k+1=>zf1 W c k+J9 (gi W.IC (k:Int)).IQ c
def Lx(W:Q8)(c:Int):Nat:=zf1 W c 8
theorem H9{W W':Q8}{c:Int}(h:∀k:Nat,k<8->J9 (gi W'.IC (k:Int)).IQ c<=J9 (gi W.IC (k:Int)).IQ c):∀k:Nat,k<=8->zf1 W' c k<=zf1 W c k
 | 0,_=>I7 _
 | k+1,hk=>by
  have:=H9 h k Qo;have:=h k Qo;simp only[zf1];omega
theorem zpu{W W':Q8}{c:Int}(h:∀k:Nat,k<8->J9 (gi W'.IC (k:Int)).IQ c<=J9 (gi W.IC (k:Int)).IQ c){j:Nat}(hj:J9 (gi W'.IC (j:Int)).IQ c<J9 (gi W.IC (j:Int)).IQ c):∀k:Nat,j<k->k<=8->zf1 W' c k<zf1 W c k
 | 0,h0,_=>Ir h0 (Nat.not_lt_zero j)
 | k+1,eH,hk=>by
  have h1:=H9 h k Qo;have h2:=h k Qo;simp only[zf1]
  by_cases e:j=k
  ·subst e; omega
  ·have:=zpu h hj k Qo Qo;omega
theorem zx4(W:Q8)(c:Int):Lx W c<=296:=by
 have key:∀k:Nat,zf1 W c k<=37*k:=by
  intro k
  induction k with
  | zero=>exact I7 _
  | succ k ih=>
   have:=zx2 (gi W.IC (k:Int)).IQ c;simp only[zf1];omega
 exact key 8
theorem H3{b b':UM}{c:Int}(h:∀d:Nat,(d:Int)≠c->gi b'.locals (d:Int)=gi b.locals (d:Int)):∀n:Nat,zet b' c n=zet b c n
 | 0=>rfl
 | n+1=>by
  simp only[zet];rw[H3 h n]
  by_cases e:(n:Int)=c
  ·simp[e]
  ·rw[h n e]
theorem zkx{b b':UM}{c:Int}{e:Nat}(he:(e:Int)≠c)(h0:gi b'.locals (e:Int)=0)(h1:gi b.locals (e:Int)>0)(h:∀d:Nat,d≠e->gi b'.locals (d:Int)=gi b.locals (d:Int)):∀n:Nat,zet b' c n+(if e<n then 1 else 0)=zet b c n
 | 0=>rfl
 | n+1=>by
  have ih:=zkx he h0 h1 h n;simp only[zet]
  by_cases hn:n=e
  ·subst hn;rw[B' (Nat.lt_irrefl n)] at ih;rw[C' (Nat.lt_succ_self n),B' (by rintro⟨_,h⟩; omega),C' ⟨he,h1⟩];omega
  ·rw[h n hn];generalize (if (n:Int)≠c/\gi b.locals (n:Int)>0 then 1 else 0)=y
   by_cases IS:e<n
   ·rw[C' IS] at ih;rw[C' Qo];omega
   ·rw[B' IS] at ih;rw[B' Qo];omega
theorem zu4{b:UM}(h:Oq b){c:Int}{e:Nat}(e1:(e:Int)<(b.locals.length:Int))(hp:gi b.locals (e:Int)>0):J9 (Ys b (e:Int)) c<=J9 b c:=by
 have hl:=h.l2
 have SE:∀d:Nat,gi (Ys b (e:Int)).locals (d:Int)=if e=d then 0 else gi b.locals (d:Int):=fun d=>by
  show gi (b.locals.set (e:Int).toNat 0) (d:Int)=_;rw[QE _ _ Qo e1 Qo]
  by_cases h:e=d
  ·subst h; simp
  ·rw[B' h,B' Qo]
 unfold J9
 by_cases hc:(e:Int)=c
 ·have h1:=H3 (b:=b) (b':=Ys b (e:Int)) (c:=c) (fun d hd=>by rw[SE d,B' (fun h=>hd (by rw[<-h]; exact hc))]) 4
  have hw:gi b.Rw c=false:=by
   cases hd:gi b.Rw c with
   | false=>rfl
   | true=>
    have:=((h.each c Qo Qo).2.2 hd).1;rw[<-hc] at this; omega
  rw[h1];unfold zoi;rw[hw]
  split <;> simp
 ·have h1:=zkx (b:=b) (b':=Ys b (e:Int)) (c:=c) hc (by rw[SE e,C' rfl]) hp (fun d hd=>by rw[SE d,B' (fun h=>hd h.symm)]) 4;rw[C' Qo] at h1;have:zoi (Ys b (e:Int)) c<=1:=by unfold zoi; split <;> omega
  omega
theorem zu5{b:UM}{c:Int}(c0:0<=c)(c1:c<(b.locals.length:Int))(hdl:b.Rw.length=b.locals.length)(hw:gi b.Rw c=false):J9 (ZX b c).1 c<=J9 b c/\((ZX b c).2=2->J9 (ZX b c).1 c<J9 b c)/\((ZX b c).2≠2->gi (ZX b c).1.Rw c=false):=by
 unfold ZX;split
 ·exact⟨I7 _,fun h=>(by cases h),fun _=>hw⟩
 ·have h1:=H3 (b:=b) (b':=⟨b.IW,b.Rv-Zx 20 b.Rv,b.Sl,b.locals.set c.toNat (Zx 20 b.Rv),b.Rw.set c.toNat (Zx 20 b.Rv==0)⟩) (c:=c) (fun d hd=>by
   show gi (b.locals.set c.toNat (Zx 20 b.Rv)) (d:Int)=_;rw[QE _ _ c0 c1 Qo,B' fun h=>hd h.symm]) 4
  have hd:gi (b.Rw.set c.toNat (Zx 20 b.Rv==0)) c=(Zx 20 b.Rv==0):=by rw[QE _ _ c0 Qo c0,C' rfl]
  unfold J9;rw[h1];unfold zoi;rw[hw];simp only[hd]
  by_cases hm:Zx 20 b.Rv=0
  ·rw[C' (show (Zx 20 b.Rv==0)=true by rw[hm]; rfl),B' Qd];exact⟨Qo,fun _=>by omega,fun h=>Ir (C' hm) h⟩
  ·have hb:(Zx 20 b.Rv==0)=false:=by simpa using hm
   rw[hb];exact⟨I7 _,fun h=>(by rw[B' hm] at h; cases h),fun _=>rfl⟩
theorem zr4{b:UM}{c n:Int}(c0:0<=c)(c1:c<(b.locals.length:Int)):J9 (Xy b c n).1 c=J9 b c:=by
 unfold Xy;split
 ·rfl
 ·unfold J9 zoi
  rw[H3 (b:=b) (c:=c) (fun d hd=>by
   show gi (b.locals.set c.toNat (gi b.locals c-n)) (d:Int)=_;rw[QE _ _ c0 c1 Qo,B' fun h=>hd h.symm]) 4]
theorem zgv{F K:Int}{W:Q8}(h:SF F K W){k:Int}(hu:Q6 W.IC k=true)(hq:(gi W.IC k).IQ.IW≠0)(c:Int):∀d:Nat,d<=W.ID.length->(∀j:Int,0<=j->J9 (gi (ZM W k d).IC j).IQ c<=J9 (gi W.IC j).IQ c)
 | 0,_=>fun _ _=>I7 _
 | d+1,hd=>by
  have ih:=zgv h hu hq c d Qo;obtain⟨a,b,q⟩:=Gc h hu hq d Qo;simp only[ZM];split
  ·rename_i hc;have hu':Q6 (ZM W k d).IC k=true:=by rw[b.g.cK]; exact hu
   obtain⟨u0,u1,hg⟩:=a.w.a.u hu';have hb:=hg.IQ q;have hl:=a.w.a.gl;intro j hj;show J9 (gi (Rf _ k _).IC j).IQ c<=_;rw[YY u0 Qo hj];split
   ·rename_i e;subst e;exact IA (zu4 hb.1 (by rw[hb.2.1,b.c]; omega) hc.1) (ih k hj)
   ·exact ih j hj
  ·exact ih
theorem zgw{F K:Int}{W:Q8}(h:SF F K W)(c:Int):∀k:Nat,k<=8->∀j:Int,0<=j->J9 (gi (Y7 W k).IC j).IQ c<=J9 (gi W.IC j).IQ c
 | 0,_=>fun _ _=>I7 _
 | k+1,hk=>by
  have ih:=zgw h c k Qo;obtain⟨a,b⟩:=Te h k Qo;have hl:=a.w.a.gl;simp only[Y7];split
  ·rename_i hc;exact fun j hj=>IA (zgv a (Q4.2 ⟨Qo,Qo,hc.1⟩) hc.2 c _ (I7 _) j hj) (ih j hj)
  ·exact ih
theorem zqx{K:Int}{W:Q8}(sw:SW K W){c:Int}(c0:0<=c)(c1:c<(W.ID.length:Int))(i:Int)(hi:0<=i):(gi (UX W c).IC i).IQ=(gi W.IC i).IQ:=(zl3 sw c0 c1).1.b i hi
theorem zgb{K:Int}{W:Q8}(sw:SW K W)(hK:0<=K)(i:Int)(hi:0<=i):∀c:Nat,c<=W.ID.length->(gi (XK W c).IC i).IQ=(gi W.IC i).IQ
 | 0,_=>rfl
 | c+1,hc=>by
  obtain⟨s1,f1⟩:=Ku sw hK c Qo;rw[show XK W (c+1)=UX (XK W c) (c:Int) from rfl,zqx s1 Qo (by rw[f1.c]; omega) i hi,zgb sw hK i hi c Qo]
theorem znt{K:Int}{W:Q8}(sw:SW K W)(hK:0<=K)(c:Int):Lx (Qg W) c<=Lx W c:=by
 obtain⟨s1,o1⟩:=O6 (F:=K) (K:=K+Qi) (sw.sf.mono (I2 _) (by simp only[Qi]; omega)) (I2 _) W.ID.length (I7 _);obtain⟨s2,b2⟩:=Te s1 8 (I7 _);refine H9 (fun k hk=>?_) 8 (I7 _);have h1:(gi (Qg W).IC (k:Int)).IQ=(gi (Y7 (Ya W W.ID.length) 8).IC (k:Int)).IQ:=zgb s2.w (by simp only[Qi]; omega) (k:Int) Qo W.ID.length (by show W.ID.length<=(Y7 (Ya W W.ID.length) 8).ID.length; rw[b2.c,o1.c]; exact I7 _);rw[h1];have h2:=zgw s1 c 8 (I7 _) (k:Int) Qo;rw[o1.b (k:Int) Qo] at h2;exact h2
def YN(W:Q8)(t:Int):List Int:=Z7 W.IC (Q7 W t).group++[0]
def CB(W:Q8)(c g:Int):Q8×Bool:=if (gi W.IC g).IQ.IW=0 then (W,true) else (RI W g (ZX (gi W.IC g).IQ c).1,decide ((ZX (gi W.IC g).IQ c).2≠2))
def zhi(c:Int):List Int->Q8->Q8×Bool
 | [],W=>(W,true)
 | g::l,W=>if (CB W c g).2=true then zhi c l (CB W c g).1 else ((CB W c g).1,false)
def zlb(W:Q8)(c g n:Int):Int:=if (gi W.IC g).IQ.IW>0 then Zx n (gi (gi W.IC g).IQ.locals c) else n
def zb1(W:Q8)(c:Int):List Int->Int->Int
 | [],n=>n
 | g::l,n=>zb1 W c l (zlb W c g n)
def Ck(W:Q8)(c n g:Int):LI:={ Qc W g c with v:=if g≠0 then (Qc W g c).v+Za n (Qc W g c).w else (Qc W g c).v,sum:=(Qc W g c).sum+n }
def zgc(W:Q8)(c n g:Int):UM:=if (gi W.IC g).IQ.IW>0 then (ZL (gi W.IC g).IQ ⟨2,c,n⟩).1 else (gi W.IC g).IQ
def LS(W:Q8)(c n g:Int):Q8:=RA W g c (Ck W c n g)
def Nd(W:Q8)(c n g:Int):ZO:={ gi (LS W c n g).IC g with sum:=(gi W.IC g).sum+n }
def zad(W:Q8)(c n g:Int):Q8:=RI (Rf (LS W c n g) g (Nd W c n g)) g (zgc W c n g)
def zh7(c n:Int):List Int->Q8->Q8
 | [],W=>W
 | g::l,W=>zh7 c n l (zad W c n g)
def LU(W:Q8)(t n:Int):MM:={ Q7 W t with v:=(Q7 W t).v+Za n (Qf (Q7 W t).nice),sum:=(Q7 W t).sum+n,used:=(Q7 W t).used+n }
def zoz(W:Q8)(c n:Int):Mj:={ gi W.ID c with busy:=(gi W.ID c).busy+n,WH:=(gi W.ID c).WH+n }
def PD(W:Q8)(c t n:Int):Q8:=RM (zh7 c n (YN W t) (IT W t (LU W t n))) c (zoz W c n)
def Yv(W:Q8)(c t:Int):Mj:=if t≠(gi W.ID c).cur\/(gi W.ID c).WH>=50 then { gi W.ID c with cur:=t,WH:=0 } else gi W.ID c
def X5(W:Q8)(c t:Int):Q8:=RM W c (Yv W c t)
def Gd(W:Q8)(c n:Int):Mj:={ gi W.ID c with idle:=(gi W.ID c).idle+n }
def YV(W:Q8)(c:Int):Q8×Bool:=zhi c (YN W (Qt W c)) (X5 W c (Qt W c))
def UK(W:Q8)(c left:Int):Int:=zb1 (YV W c).1 c (YN W (Qt W c)) left
def Fl(W:Q8)(c left:Int):Q8×Int:=
 if (YV W c).2=true then (Qg (PD (YV W c).1 c (Qt W c) (UK W c left)),left-UK W c left) else (Qg (Rn (YV W c).1 c),left)
def zcu(c:Int):Nat->Q8->Int->Q8
 | 0,W,_=>W
 | f+1,W,left=>if left<=0 then Qg W else if Qt W c<0 then Qg (Rn (RM W c (Gd W c left)) c) else zcu c f (Fl W c left).1 (Fl W c left).2
structure zsz (K c:Int) (W W':Q8):Prop where
 sw:SW K W'
 o:VP W W'
 q:∀i:Int,0<=i->(gi W'.IC i).IQ.IW=(gi W.IC i).IQ.IW
 l:∀i:Int,0<=i->gi (gi W.IC i).IQ.locals c>0->gi (gi W'.IC i).IQ.locals c>0
 p:∀i:Int,0<=i->J9 (gi W'.IC i).IQ c<=J9 (gi W.IC i).IQ c
 su:Tr W W'
theorem zsz.refl{K c:Int}{W:Q8}(h:SW K W):zsz K c W W:=⟨h,VP.refl _,fun _ _=>rfl,fun _ _ h=>h,fun _ _=>I7 _,Tr.refl _⟩
theorem zsz.trans{K c:Int}{A B C:Q8}(h:zsz K c A B)(k:zsz K c B C):zsz K c A C:=⟨k.sw,h.o.trans k.o,fun i hi=>(k.q i hi).trans (h.q i hi),fun i hi g=>k.l i hi (h.l i hi g),fun i hi=>IA (k.p i hi) (h.p i hi),h.su.trans k.su⟩
theorem zsk{b:UM}(h:Oq b){c:Int}(c0:0<=c)(c1:c<(b.locals.length:Int)):(gi b.locals c>0->(ZX b c).1=b)/\((ZX b c).2≠2->gi (ZX b c).1.locals c>0):=by
 unfold ZX;split
 ·rename_i hp;exact⟨fun _=>rfl,fun _=>hp⟩
 ·rename_i hn;refine⟨fun h=>Ir h hn,fun h2=>?_⟩;show gi (b.locals.set c.toNat (Zx 20 b.Rv)) c>0;rw[QE _ _ c0 c1 c0,C' rfl];have hm:=Cs h.p1
  by_cases e:Zx 20 b.Rv=0
  ·exact Ir (C' e) h2
  ·omega
theorem zvz{K c:Int}{W:Q8}(sw:SW K W)(c0:0<=c)(c1:c<(W.ID.length:Int)){g:Int}(hu:Q6 W.IC g=true)(hd:(gi W.IC g).IQ.IW≠0->gi (gi W.IC g).IQ.Rw c=false) :
  zsz K c W (CB W c g).1/\((CB W c g).2=true->((gi W.IC g).IQ.IW≠0->gi (gi (CB W c g).1.IC g).IQ.locals c>0)/\∀i:Int,0<=i->((gi W.IC i).IQ.IW≠0->gi (gi W.IC i).IQ.Rw c=false)->(gi W.IC i).IQ.IW≠0->gi (gi (CB W c g).1.IC i).IQ.Rw c=false)
   /\ ((CB W c g).2=false->J9 (gi (CB W c g).1.IC g).IQ c<J9 (gi W.IC g).IQ c):=by
 obtain⟨u0,u1,hg⟩:=sw.a.u hu;have bM:=sw.a.gl;unfold CB;split
 ·rename_i hq;exact⟨zsz.refl sw,fun _=>⟨fun h=>Ir hq h,fun i _ h h2=>h h2⟩,fun h=>by cases h⟩
 ·rename_i hq;obtain⟨hb,hbl,_⟩:=hg.IQ hq;have rJ:c<((gi W.IC g).IQ.locals.length:Int):=Qo;obtain⟨bT,hl2,hq2⟩:=zvw hb c0 rJ;obtain⟨p1,p2,p3⟩:=zu5 c0 rJ hb.dl (hd hq);obtain⟨l1,l2⟩:=zsk hb c0 rJ;have ha:=sw.a.RI (g:=g) hu hq bT (by rw[hl2]; exact hbl) hq2;have e:∀i:Int,0<=i->gi (RI W g (ZX (gi W.IC g).IQ c).1).IC i=if g=i then { gi W.IC g with IQ:=(ZX (gi W.IC g).IQ c).1 } else gi W.IC i:=fun i hi=>YY u0 Qo hi
  have ob:=BK (W:=W) (b:=(ZX (gi W.IC g).IQ c).1) u0 Qo;refine⟨⟨(sw.sf.Az2 ob ha).w,ob,fun i hi=>?_,fun i hi h=>?_,fun i hi=>?_,zvt _ _ _⟩,fun h=>?_,fun h=>?_⟩
  ·show (gi (RI W g _).IC i).IQ.IW=_;rw[e i hi]; split
   ·rename_i e; subst e; exact hq2
   ·rfl
  ·show gi (gi (RI W g _).IC i).IQ.locals c>0;rw[e i hi]; split
   ·rename_i e; subst e;show gi (ZX (gi W.IC g).IQ c).1.locals c>0;rw[l1 h]; exact h
   ·exact h
  ·show J9 (gi (RI W g _).IC i).IQ c<=_;rw[e i hi]; split
   ·rename_i e; subst e; exact p1
   ·exact I7 _
  ·have h:(ZX (gi W.IC g).IQ c).2≠2:=Ot h;refine⟨fun _=>?_,fun i hi h1 h2=>?_⟩
   ·show gi (gi (RI W g _).IC g).IQ.locals c>0;rw[e g u0,C' rfl];exact l2 h
   ·show gi (gi (RI W g _).IC i).IQ.Rw c=false;rw[e i hi]; split
    ·rename_i e; subst e; exact p3 h
    ·exact h1 h2
  ·have h:(ZX (gi W.IC g).IQ c).2=2:=Iq fun hn=>Ou h hn
   show J9 (gi (RI W g _).IC g).IQ c<_;rw[e g u0,C' rfl];exact p2 h
theorem zv0{K c:Int}(c0:0<=c):∀(l:List Int) {W:Q8},SW K W->c<(W.ID.length:Int)->(∀g∈l,Q6 W.IC g=true)->(∀g∈l,(gi W.IC g).IQ.IW≠0->gi (gi W.IC g).IQ.Rw c=false)->
  zsz K c W (zhi c l W).1/\((zhi c l W).2=true->∀g∈l,(gi W.IC g).IQ.IW≠0->gi (gi (zhi c l W).1.IC g).IQ.locals c>0)/\((zhi c l W).2=false->∃g∈l,J9 (gi (zhi c l W).1.IC g).IQ c<J9 (gi W.IC g).IQ c)
 | [],W,sw,_,_,_=>⟨zsz.refl sw,fun _ g hg=>(by cases hg),fun h=>by cases h⟩
 | g::l,W,sw,c1,hu,hd=>by
  obtain⟨a,b,d⟩:=zvz sw c0 c1 (hu g I9) (hd g I9);simp only[zhi]
  by_cases h2:(CB W c g).2=true
  ·rw[C' h2];obtain⟨b1,b2⟩:=b h2;have h0:∀x∈l,0<=x:=fun x hx=>(Q4.1 (hu x (I1 _ hx))).1
   obtain⟨a',b',d'⟩:=zv0 c0 l (W:=(CB W c g).1) a.sw (by rw[a.o.c]; exact c1) (fun x hx=>by rw[a.o.g.cK]; exact hu x (I1 _ hx)) fun x hx hq=>by
    rw[a.q x (h0 x hx)] at hq;exact b2 x (h0 x hx) (hd x (I1 _ hx)) hq
   refine⟨a.trans a',fun h x hx hq=>?_,fun h=>?_⟩
   ·rcases Ii.1 hx with e | e
    ·subst e;exact a'.l x (Q4.1 (hu x I9)).1 (b1 hq)
    ·exact b' h x e (by rw[a.q x (h0 x e)]; exact hq)
   ·obtain⟨x,hx,IS⟩:=d' h;exact⟨x,I1 _ hx,Nat.lt_of_lt_of_le IS (a.p x (h0 x hx))⟩
  ·rw[B' h2];exact⟨a,fun h=>(by cases h),fun _=>⟨g,I9,d (by simpa using h2)⟩⟩
theorem zgr{W:Q8}{c:Int}:∀(l:List Int) (n:Int),1<=n->(∀g∈l,(gi W.IC g).IQ.IW>0->gi (gi W.IC g).IQ.locals c>0)->1<=zb1 W c l n/\zb1 W c l n<=n
 | [],n,h,_=>⟨h,I2 _⟩
 | g::l,n,h,hl=>by
  simp only[zb1]
  have hm:1<=zlb W c g n/\zlb W c g n<=n:=by
   unfold zlb;split
   ·rename_i hq;have:=hl g I9 hq;unfold Zx
    split <;> omega
   ·exact⟨h,I2 _⟩
  have:=zgr l (zlb W c g n) hm.1 fun x hx=>hl x (I1 _ hx)
  omega
theorem Hg(n w:Int)(h0:0<=n)(h1:n<=100):0<=Za n w/\Za n w<=Qi:=by
 by_cases h:1<=w/\w<=20
 ·rw[OT h0 Qo h.1 h.2];have hs:=zc7 h.1 h.2;refine⟨Int.mul_nonneg h0 Qo,?_⟩
  calc n*zhd w<=100*zhd w:=Int.mul_le_mul_of_nonneg_right h1 Qo
   _<=100*232792560:=Int.mul_le_mul_of_nonneg_left hs.2 Qd
   _<=Qi:=Qd
 ·rw[Hh Qo]; exact⟨I2 _,Qd⟩
theorem zqv{b:UM}(h:Oq b){c n:Int}(c0:0<=c)(c1:c<(b.locals.length:Int)):Oq (ZL b ⟨2,c,n⟩).1/\(ZL b ⟨2,c,n⟩).1.locals.length=b.locals.length/\(ZL b ⟨2,c,n⟩).1.IW=b.IW/\J9 (ZL b ⟨2,c,n⟩).1 c=J9 b c:=by
 have e:ZL b ⟨2,c,n⟩=Xy b c n:=by
  unfold ZL;rw[B' (show ¬(2:Int)=4 by decide),B' (by rw[Qu.2 (by show 0<=c/\c<=_; omega)]; decide),B' (show ¬(2:Int)=1 by decide),C' rfl]
 rw[e];obtain⟨a,b',d⟩:=zsh h (n:=n) c0 c1;exact⟨a,b',d,zr4 c0 c1⟩
structure zv9 (K S c n:Int) (W W':Q8):Prop where
 sw:SW K W'
 rb:RB S W'
 now:W'.now=W.now
 t:W'.tasks=W.tasks
 cp:W'.ID=W.ID
 g:Z2 W.IC W'.IC
 p:∀i:Int,0<=i->J9 (gi W'.IC i).IQ c=J9 (gi W.IC i).IQ c
theorem zmv{K S c n:Int}{W:Q8}(sw:SW K W)(rb:RB S W)(hS:S+n<=100000000000000000)(c0:0<=c)(c1:c<(W.ID.length:Int)){g:Int}(hu:Q6 W.IC g=true)(n0:0<=n)(n1:n<=100):zv9 (K+Qi) (S+n) c n W (zad W c n g):=by
 obtain⟨u0,u1,hg⟩:=sw.a.u hu;have bM:=sw.a.gl;have hsl:=sw.a.sl hu;have hsr:=sw.s g c hu c0 c1;have hv:=Hg n (Qc W g c).w n0 n1;have hlg:0<=Qi:=Qd;have ea:∀{i:Int},0<=i->gi (LS W c n g).IC i=if g=i then { gi W.IC g with IE:=(gi W.IC g).IE.set c.toNat (Ck W c n g) } else gi W.IC i:=fun hi=>YY u0 Qo hi
 have eg:∀i:Int,0<=i->gi (zad W c n g).IC i=if g=i then { gi W.IC g with IE:=(gi W.IC g).IE.set c.toNat (Ck W c n g),sum:=(gi W.IC g).sum+n,IQ:=zgc W c n g } else gi W.IC i:=fun i hi=>by
  have mG:g<((Rf (LS W c n g) g (Nd W c n g)).IC.length:Int):=by
   have:(Rf (LS W c n g) g (Nd W c n g)).IC.length=W.IC.length:=by simp[Rf,LS,RA]
   rw[this]; omega
  have hl2:g<((LS W c n g).IC.length:Int):=by
   have:(LS W c n g).IC.length=W.IC.length:=by simp[Rf,LS,RA]
   rw[this]; omega
  unfold zad RI;rw[YY u0 mG hi,YY u0 hl2 hi,YY u0 hl2 u0,C' rfl,ea hi];split
  ·unfold Nd;rw[ea u0,C' rfl]
  ·rfl
 have es:∀i d:Int,0<=i->0<=d->Qc (zad W c n g) i d=if g=i/\c=d then Ck W c n g else Qc W i d:=fun i d hi hd=>by
  rw[<-Uv (W:=W) (s:=Ck W c n g) u0 Qo c0 Qo hi hd];unfold Qc;show gi (gi (zad W c n g).IC i).IE d=gi (gi (LS W c n g).IC i).IE d;rw[eg i hi,ea hi]
  split <;> rfl
 have hT:Z2 W.IC (zad W c n g).IC:=by
  have t1:=XO (W:=W) (g:=g) (c:=c) (s:=Ck W c n g) u0 Qo;have t2:=JE (W:=LS W c n g) (g:=g) (x:=Nd W c n g) u0 (by show g<((LS W c n g).IC.length:Int); rw[show (LS W c n g).IC.length=W.IC.length from t1.len]; omega) rfl rfl rfl;have t3:=JE (W:=Rf (LS W c n g) g (Nd W c n g)) (g:=g) (x:={ gi (Rf (LS W c n g) g (Nd W c n g)).IC g with IQ:=zgc W c n g }) u0 (by rw[t2.len,show (LS W c n g).IC.length=W.IC.length from t1.len]; omega) rfl rfl rfl;exact(t1.trans t2).trans t3
 have hB:(zgc W c n g).IW=(gi W.IC g).IQ.IW/\J9 (zgc W c n g) c=J9 (gi W.IC g).IQ c/\((gi W.IC g).IQ.IW=0->zgc W c n g=(gi W.IC g).IQ)/\((gi W.IC g).IQ.IW≠0->Oq (zgc W c n g)/\(zgc W c n g).locals.length=W.ID.length):=by
  unfold zgc;split
  ·rename_i hq;obtain⟨hb,hbl,_⟩:=hg.IQ Qo;obtain⟨a,b,d,e⟩:=zqv hb (n:=n) c0 Qo;exact⟨d,e,fun h=>by omega,fun _=>⟨a,by rw[b]; exact hbl⟩⟩
  ·rename_i hq;refine⟨rfl,rfl,fun _=>rfl,fun h=>?_⟩;obtain⟨hb,hbl,_⟩:=hg.IQ h;exact⟨hb,hbl⟩
 have hrg:=rb.g g hu
 have hW:WA (zad W c n g):=by
  have hl:=sw.a;refine⟨hl.n1,hl.n2,hl.c1,hl.c2,hl.t,hT.tree hl.tree,hl.sZ,fun k k0 k1=>?_⟩;unfold MK;rw[eg k k0];split
  ·rename_i e;subst e;refine⟨fun h=>?_,fun _=>⟨hg.w1,hg.w2,hg.m,hg.m0,YZ.2 ⟨by show 0<=(gi W.IC g).sum+n; omega,by show (gi W.IC g).sum+n<=_; omega⟩,by show (List.set _ _ _).length=_; rw[E']; exact hg.len,fun h=>⟨(hg.root h).1,(hg.root h).2.1,by show (zgc W c n g).IW=0; rw[hB.1]; exact(hg.root h).2.2⟩,fun h=>?_,fun h=>?_⟩⟩
   ·have h:(gi W.IC g).used=false:=h;rw[(Q4.1 hu).2.2] at h; cases h
   ·have h:(zgc W c n g).IW=0:=h;rw[hB.1] at h;have:=hg.none h;exact⟨by show O8 (zgc W c n g)=true; rw[hB.2.2.1 h]; exact this.1,this.2⟩
   ·have h:(zgc W c n g).IW≠0:=h;rw[hB.1] at h;obtain⟨_,_,hp⟩:=hg.IQ h;exact⟨(hB.2.2.2 h).1,(hB.2.2.2 h).2,hp⟩
  ·have:=hl.grp k k0 k1;exact⟨this.1,fun hu=>by have:=this.2 hu; exact⟨this.w1,this.w2,this.m,this.m0,this.s,this.len,this.root,this.none,this.IQ⟩⟩
 refine⟨⟨hW,fun t a b m=>?_,fun t a b=>?_,fun k d u a b=>?_,sw.cu⟩,⟨rb.n,fun t a b=>?_,fun k d u a b=>?_,fun k u=>?_,fun d a b=>?_⟩,rfl,rfl,rfl,hT,fun i hi=>?_⟩
 ·rw[hT.cK]; exact sw.t t a b m
 ·have:=sw.tv t a b;exact⟨this.1,by show (Q7 W t).v<=_; omega⟩
 ·rw[hT.cK] at u;have hk:=(Q4.1 u).1;have h:=sw.s k d u a b;rw[es k d hk a];split
  ·refine⟨hsr.1,by show (Qc W g c).floor<=_; omega,?_,?_,hsr.2.2.2.2.1,hsr.2.2.2.2.2⟩
   ·show 0<=if g≠0 then (Qc W g c).v+Za n (Qc W g c).w else (Qc W g c).v
    split <;> omega
   ·show (if g≠0 then (Qc W g c).v+Za n (Qc W g c).w else (Qc W g c).v)<=_
    split <;> omega
  ·exact⟨h.1,Qo,h.2.2.1,Qo,h.2.2.2.2.1,h.2.2.2.2.2⟩
 ·have:=rb.t t a b;exact⟨this.1,by show (Q7 W t).sum<=_; omega,this.2.2.1,by show (Q7 W t).used<=_; omega⟩
 ·rw[hT.cK] at u;have hk:=(Q4.1 u).1;have h:=rb.s k d u a b;rw[es k d hk a];split
  ·have h2:=rb.s g c hu c0 c1;exact⟨by show 0<=(Qc W g c).sum+n; omega,by show (Qc W g c).sum+n<=_; omega⟩
  ·exact⟨h.1,Qo⟩
 ·rw[hT.cK] at u;have h:=rb.g k u;rw[eg k (Q4.1 u).1];split
  ·exact⟨by show 0<=(gi W.IC g).sum+n; omega,by show (gi W.IC g).sum+n<=_; omega⟩
  ·exact⟨h.1,Qo⟩
 ·have:=rb.c d a b;exact⟨this.1,by show (gi W.ID d).busy<=_; omega,this.2.2.1,this.2.2.2.1,this.2.2.2.2⟩
 ·rw[eg i hi];split
  ·rename_i e; subst e; exact hB.2.1
  ·rfl
theorem RB.mono{S S':Int}{W:Q8}(h:RB S W)(k:S<=S'):RB S' W:=
 ⟨h.n,fun t a b=>by have:=h.t t a b; omega,fun k c u a b=>by have:=h.s k c u a b; omega,fun k u=>by have:=h.g k u; omega,fun c a b=>by have:=h.c c a b; omega⟩
theorem RB.RM{S:Int}{W:Q8}(h:RB S W){c:Int}(c0:0<=c)(c1:c<(W.ID.length:Int)){x:Mj}(hx:0<=x.busy/\x.busy<=S/\0<=x.idle/\x.idle<=50000000000000000/\0<=x.WH/\x.WH<=149):RB S (RM W c x):=by
 have hl:(W.ID.set c.toNat x).length=W.ID.length:=E';refine⟨h.n,h.t,fun k d u a b=>?_,h.g,fun d a b=>?_⟩
 ·have b:d<(((W.ID.set c.toNat x).length:Nat):Int):=b;rw[hl] at b;exact h.s k d u a b
 ·have b:d<(((W.ID.set c.toNat x).length:Nat):Int):=b;rw[hl] at b;show _<=(gi (W.ID.set c.toNat x) d).busy/\(gi (W.ID.set c.toNat x) d).busy<=_/\_<=(gi (W.ID.set c.toNat x) d).idle/\(gi (W.ID.set c.toNat x) d).idle<=_/\_<=(gi (W.ID.set c.toNat x) d).WH/\(gi (W.ID.set c.toNat x) d).WH<=_;rw[QE _ _ c0 c1 a];split
  ·exact hx
  ·exact h.c d a b
theorem RB.IT{S:Int}{W:Q8}(h:RB S W)(hl:W.tasks.length=12){t:Int}(t0:0<=t)(t1:t<12){x:MM}(hx:0<=x.sum/\x.sum<=S/\0<=x.used/\x.used<=S):RB S (IT W t x):=by
 refine⟨h.n,fun u a b=>?_,h.s,h.g,h.c⟩;show _<=(gi (W.tasks.set t.toNat x) u).sum/\(gi (W.tasks.set t.toNat x) u).sum<=_/\_<=(gi (W.tasks.set t.toNat x) u).used/\(gi (W.tasks.set t.toNat x) u).used<=_;rw[QE _ _ t0 Qo a];split
 ·exact hx
 ·exact h.t u a b
theorem zv9.trans{K S K' S' c n:Int}{A B C:Q8}(h:zv9 K S c n A B)(k:zv9 K' S' c n B C):zv9 K' S' c n A C:=
 ⟨k.sw,k.rb,k.now.trans h.now,k.t.trans h.t,k.cp.trans h.cp,h.g.trans k.g,fun i hi=>(k.p i hi).trans (h.p i hi)⟩
theorem zth{c n:Int}(c0:0<=c)(n0:0<=n)(n1:n<=100):∀(l:List Int) {K S:Int} {W:Q8},SW K W->RB S W->S+100*(l.length:Int)<=100000000000000000->c<(W.ID.length:Int)->(∀g∈l,Q6 W.IC g=true)->
  zv9 (K+Qi*(l.length:Int)) (S+100*(l.length:Int)) c n W (zh7 c n l W)
 | [],K,S,W,sw,rb,_,_,_=>⟨sw.mono Qs,rb.mono Qs,rfl,rfl,rfl,Z2.refl _,fun _ _=>rfl⟩
 | g::l,K,S,W,sw,rb,hS,c1,hu=>by
  rw[List.length_cons] at hS ⊢;have h1:=zmv sw rb Qo c0 c1 (hu g I9) n0 n1;have h2:=zth c0 n0 n1 l (W:=zad W c n g) h1.sw (h1.rb.mono (show S+n<=S+100 by omega)) Qo (by rw[h1.cp]; exact c1) fun x hx=>by rw[h1.g.cK]; exact hu x (I1 _ hx)
  have h3:=h1.trans h2;exact⟨h3.sw.mono (by simp only[Qi]; omega),h3.rb.mono Qo,h3.now,h3.t,h3.cp,h3.g,h3.p⟩
theorem zx3{W W':Q8}{c:Int}(h:∀i:Int,0<=i->J9 (gi W'.IC i).IQ c=J9 (gi W.IC i).IQ c):Lx W' c=Lx W c:=
 Nat.le_antisymm (H9 (fun k _=>Nat.le_of_eq (h k Qo)) 8 (I7 _)) (H9 (fun k _=>Nat.le_of_eq (h k Qo).symm) 8 (I7 _))
theorem Cu{W:Q8}(ha:WA W){t:Int}(hu:Q6 W.IC (Q7 W t).group=true):(∀g∈YN W t,Q6 W.IC g=true)/\(YN W t).length<=4:=by
 refine⟨fun g hg=>?_,?_⟩
 ·rcases Im.1 hg with h | h
  ·exact(YE ha.tree _ hu g h).1
  ·rw[Iz.1 h]; exact ha.root
 ·have:=zcn W.IC 3 (Q7 W t).group;unfold YN;rw[Io];show (UA 3 W.IC (Q7 W t).group).length+1<=4;omega
theorem zjj{W W':Q8}(ht:W'.tasks=W.tasks)(hT:Z2 W.IC W'.IC)(t:Int):YN W' t=YN W t:=by
 unfold YN;rw[Ja ht,Tk hT]
def Fo(f:Nat):Int:=Qj+(400-(f:Int))*346860914400
def BY(f:Nat):Int:=Qj+(400-(f:Int))*500
structure zdi (f:Nat) (c:Int) (W0 W:Q8) (left:Int):Prop where
 sw:SW (Fo f) W
 rb:RB (BY f) W
 dm:Dm W c
 c0:0<=c
 c1:c<(W.ID.length:Int)
 up:(gi W.ID c).up=true
 now:W.now=W0.now
 len:W.ID.length=W0.ID.length
 l0:0<=left
 l1:left<=100
 f1:left+Lx W c<(f:Int)
 f2:f<=400
theorem Fp{f:Nat}(h:f<=400):Qj<=Fo f/\Fo f<=50200000000000000:=by
 unfold Fo Qj; omega
theorem zjn{f:Nat}(h:f<=400):Qj<=BY f/\BY f<=50000000000200000:=by
 unfold BY Qj; omega
theorem zn3{W:Q8}(wp:XS W)(r:KY W){c n:Int}(c0:0<=c)(c1:c<(W.ID.length:Int))(up:(gi W.ID c).up=true)(n0:0<=n)(n1:n<=100):zdi 400 c W W n:=by
 have hp:=zx4 W c;exact⟨(Md wp r).mono (by unfold Fo; omega),(z1n wp r).mono (by unfold BY; omega),z04 wp c0 c1,c0,c1,up,rfl,rfl,n0,n1,Qo,I7 _⟩
theorem Fv{K S:Int}{c t:Int}{W:Q8}(sw:SW K W)(rb:RB S W)(c0:0<=c)(c1:c<(W.ID.length:Int))(up:(gi W.ID c).up=true)(t0:0<=t)(t1:t<12) :
  SW K (X5 W c t)/\RB S (X5 W c t)/\(gi (X5 W c t).ID c).up=true/\(gi (X5 W c t).ID c).WH<50/\(gi (X5 W c t).ID c).cur=t/\(X5 W c t).ID.length=W.ID.length:=by
 have e:gi (X5 W c t).ID c=Yv W c t:=(QE _ _ c0 c1 c0).trans (C' rfl);have hl:(X5 W c t).ID.length=W.ID.length:=E';have hup:(Yv W c t).up=true:=by unfold Yv; split <;> exact up
 have hr:=rb.c c c0 c1;have hcu:=sw.cu c c0 c1;refine⟨sw.RM c0 c1 (N9 (c:=c) (by rw[E']; exact sw.a.c2) c0 (by rw[E']; exact c1) (by rw[show gi (W.ID.set c.toNat (Yv W c t)) c=_ from e]; exact hup)) ?_ ?_,rb.RM c0 c1 ?_,by rw[e]; exact hup,?_,?_,hl⟩
 ·unfold Yv; split
  ·show -1<=t; omega
  ·exact hcu.1
 ·unfold Yv; split
  ·exact t1
  ·exact hcu.2
 ·unfold Yv; split
  ·exact⟨hr.1,hr.2.1,hr.2.2.1,hr.2.2.2.1,by show (0:Int)<=0; decide,by show (0:Int)<=149; decide⟩
  ·exact hr
 ·rw[e];unfold Yv; split
  ·show (0:Int)<50; decide
  ·omega
 ·rw[e];unfold Yv; split
  ·rfl
  ·rename_i h;exact Iq fun hn=>h (.inl fun e=>hn e.symm)
structure z15 (f:Nat) (c:Int) (W0 W:Q8) (left:Int):Prop where
 line:zoo W (Qt W c) c
 us:Q6 W.IC (Q7 W (Qt W c)).group=true
 pin:∀g∈YN W (Qt W c),Q6 W.IC g=true
 len:(YN W (Qt W c)).length<=4
 s1:SW (Fo (f+1)) (X5 W c (Qt W c))
 r1:RB (BY (f+1)) (X5 W c (Qt W c))
 WH:(gi (X5 W c (Qt W c)).ID c).WH<50
 tk:zsz (Fo (f+1)) c (X5 W c (Qt W c)) (YV W c).1
 dr:∀g∈YN W (Qt W c),(gi (X5 W c (Qt W c)).IC g).IQ.IW≠0->gi (gi (X5 W c (Qt W c)).IC g).IQ.Rw c=false
 m:(YV W c).2=true->1<=UK W c left/\UK W c left<=left
 ch:(YV W c).2=true->SW (Fo (f+1)+5*Qi) (PD (YV W c).1 c (Qt W c) (UK W c left))/\RB (BY (f+1)+500) (PD (YV W c).1 c (Qt W c) (UK W c left))
 nx:zdi f c W0 (Fl W c left).1 (Fl W c left).2
 gt:Z2 W.IC (Fl W c left).1.IC
theorem zh8{K S c t n:Int}{W:Q8}(sw:SW K W)(rb:RB S W)(hS:S+500<=100000000000000000)(c0:0<=c)(c1:c<(W.ID.length:Int))(up:(gi W.ID c).up=true)(WH:(gi W.ID c).WH<50)(t0:0<=t)(t1:t<12)(hu:Q6 W.IC (Q7 W t).group=true)(n0:0<=n)(n1:n<=100) :
  SW (K+5*Qi) (PD W c t n)/\RB (S+500) (PD W c t n)/\Lx (PD W c t n) c=Lx W c/\(PD W c t n).now=W.now/\(PD W c t n).ID.length=W.ID.length/\(gi (PD W c t n).ID c).up=true/\SW (K+Qi) (IT W t (LU W t n))/\RB (S+100) (IT W t (LU W t n))/\zv9 (K+5*Qi) (S+500) c n (IT W t (LU W t n)) (zh7 c n (YN W t) (IT W t (LU W t n))):=by
 have hv:=Hg n (Qf (Q7 W t).nice) n0 n1;have hlg:0<=Qi:=Qd;have htv:=sw.tv t t0 t1;have htr:=rb.t t t0 t1;have hcr:=rb.c c c0 c1;obtain⟨hp1,fG⟩:=Cu sw.a hu;have s1:SW (K+Qi) (IT W t (LU W t n)):=(sw.mono (K':=K+Qi) Qo).IT t0 t1 (x:=LU W t n) (fun h=>sw.t t t0 t1 h) (by show 0<=(Q7 W t).v+Za n (Qf (Q7 W t).nice); omega) (by show (Q7 W t).v+Za n (Qf (Q7 W t).nice)<=_; omega);have r1:RB (S+100) (IT W t (LU W t n)):=(rb.mono (S':=S+100) Qo).IT sw.a.t t0 t1 (x:=LU W t n) ⟨by show 0<=(Q7 W t).sum+n; omega,by show (Q7 W t).sum+n<=_; omega,by show 0<=(Q7 W t).used+n; omega,by show (Q7 W t).used+n<=_; omega⟩;have h0:=zth c0 n0 n1 (YN W t) s1 r1 Qo c1 hp1;have h2:zv9 (K+5*Qi) (S+500) c n (IT W t (LU W t n)) (zh7 c n (YN W t) (IT W t (LU W t n))):=⟨h0.sw.mono (by simp only[Qi]; omega),h0.rb.mono Qo,h0.now,h0.t,h0.cp,h0.g,h0.p⟩;have jN:(zh7 c n (YN W t) (IT W t (LU W t n))).ID=W.ID:=h2.cp
 have e:gi (PD W c t n).ID c=zoz W c n:=by
  show gi ((zh7 c n (YN W t) (IT W t (LU W t n))).ID.set c.toNat (zoz W c n)) c=_;rw[jN];exact(QE _ _ c0 c1 c0).trans (C' rfl)
 have hlen:(PD W c t n).ID.length=W.ID.length:=by
  show ((zh7 c n (YN W t) (IT W t (LU W t n))).ID.set c.toNat (zoz W c n)).length=_;rw[E',jN]
 have hcu:=sw.cu c c0 c1;refine⟨h2.sw.RM c0 (by rw[jN]; exact c1) (x:=zoz W c n) (N9 (c:=c) ?_ c0 ?_ ?_) hcu.1 hcu.2,h2.rb.RM c0 (by rw[jN]; exact c1) (x:=zoz W c n) ⟨by show 0<=(gi W.ID c).busy+n; omega,by show (gi W.ID c).busy+n<=_; omega,hcr.2.2.1,hcr.2.2.2.1,by show 0<=(gi W.ID c).WH+n; omega,by show (gi W.ID c).WH+n<=149; omega⟩,zx3 (W':=PD W c t n) h2.p,h2.now,hlen,by rw[e]; exact up,s1,r1,h2⟩
 ·rw[E',jN]; exact sw.a.c2
 ·rw[E',jN]; exact c1
 ·rw[show gi ((zh7 c n (YN W t) (IT W t (LU W t n))).ID.set c.toNat (zoz W c n)) c=_ from e]; exact up
theorem zcz{K S c:Int}{W:Q8}(sw:SW K W)(rb:RB S W)(hK:0<=K)(c0:0<=c)(c1:c<(W.ID.length:Int))(up:(gi W.ID c).up=true) :
  SW (K+UL) (Qg W)/\RB S (Qg W)/\Dm (Qg W) c/\(gi (Qg W).ID c).up=true/\(Qg W).now=W.now/\(Qg W).ID.length=W.ID.length/\Lx (Qg W) c<=Lx W c:=by
 obtain⟨s,f⟩:=VC sw hK;have su:=zoc W;exact⟨s,rb.sum su f.g f.c,zsd sw hK c0 c1,by rw[su.u]; exact up,f.n,f.c,znt sw hK c⟩
theorem zn2{f:Nat}{c left:Int}{W0 W:Q8}(h:zdi (f+1) c W0 W left)(hl:0<left)(hp:¬Qt W c<0):z15 f c W0 W left:=by
 have hf:=h.f2;have hh0:(0:Int)<=Qj:=Qd;have hK:=Fp (f:=f+1) hf;have hS:=zjn (f:=f+1) hf;have c0:=h.c0;have c1:=h.c1;have eK:Fo f=Fo (f+1)+346860914400:=by unfold Fo; omega
 have eS:BY f=BY (f+1)+500:=by unfold BY; omega
 have lK:=zr5 h.sw.a (h.sw.cu c c0 c1).2 h.dm.cu hp;have hM:UK W c left=zb1 (YV W c).1 c (YN W (Qt W c)) left:=rfl;have hT:YV W c=zhi c (YN W (Qt W c)) (X5 W c (Qt W c)):=rfl;have hR:Fl W c left=if (YV W c).2=true then (Qg (PD (YV W c).1 c (Qt W c) (UK W c left)),left-UK W c left) else (Qg (Rn (YV W c).1 c),left):=rfl;have t0:=lK.t0;have t1:=lK.t1;obtain⟨us,_,_⟩:=h.sw.t _ t0 t1 (by rw[lK.st]; decide);obtain⟨pin,B58⟩:=Cu h.sw.a us;obtain⟨s1,r1,u1,CP6,cu1,l1⟩:=Fv h.sw h.rb c0 c1 h.up t0 t1
 have hdr:∀g∈YN W (Qt W c),(gi (X5 W c (Qt W c)).IC g).IQ.IW≠0->gi (gi (X5 W c (Qt W c)).IC g).IQ.Rw c=false:=fun g hg hq=>by
  have hq:(gi W.IC g).IQ.IW≠0:=hq;show gi (gi W.IC g).IQ.Rw c=false;have hug:=pin g hg;obtain⟨u0,u8,jA⟩:=h.sw.a.u hug;rcases Im.1 hg with hg | hg
  ·have hon:=lK.on g hg;have hz:=(YE h.sw.a.tree _ us g hg).2;have:=h.dm.on g hug hz;unfold VM at this;rw[hon] at this
   have hd:JY W g c=false:=by
    cases hd:JY W g c with
    | false=>rfl
    | true=>rw[hd] at this; simp at this
   unfold JY at hd;have:=(jA.IQ hq).1.q1;rw[Ih Qo,Bool.true_and] at hd;exact hd
  ·rw[Iz.1 hg] at hq jA;exact Ir (jA.root rfl).2.2 hq
 obtain⟨tk,tl,tf⟩:=zv0 c0 (YN W (Qt W c)) s1 (by rw[l1]; exact c1) pin hdr;rw[<-hT] at tk tl tf;have eT:(YV W c).1.tasks=W.tasks:=tk.o.t;have eC:(YV W c).1.ID=(X5 W c (Qt W c)).ID:=tk.o.c;have eG:Z2 W.IC (YV W c).1.IC:=tk.o.g;have lT:(YV W c).1.ID.length=W.ID.length:=by rw[eC,l1]
 have rT:RB (BY (f+1)) (YV W c).1:=r1.sum tk.su tk.o.g (by rw[eC]);have uT:Q6 (YV W c).1.IC (Q7 (YV W c).1 (Qt W c)).group=true:=by rw[eG.cK,Ja eT]; exact us
 have pT:YN (YV W c).1 (Qt W c)=YN W (Qt W c):=zjj eT eG _;have upT:(gi (YV W c).1.ID c).up=true:=by rw[eC]; exact u1
 have BB3:(gi (YV W c).1.ID c).WH<50:=by rw[eC]; exact CP6
 have phT:Lx (YV W c).1 c<=Lx W c:=H9 (fun k _=>tk.p (k:Int) Qo) 8 (I7 _)
 have hm:(YV W c).2=true->1<=UK W c left/\UK W c left<=left:=fun ht=>by
  refine zgr _ left Qo fun g hg hq=>?_
  have g0:=(Q4.1 (pin g hg)).1;rw[tk.q g g0] at hq;exact tl ht g hg Qo
 have mG:=h.l1;have hch:(YV W c).2=true->_:=fun ht=>zh8 (t:=Qt W c) (n:=UK W c left) tk.sw rT Qo c0 (by rw[lT]; exact c1) upT BB3 t0 t1 uT (by have:=hm ht; omega) (by have:=hm ht; omega)
 refine⟨lK,us,pin,B58,s1,r1,CP6,tk,hdr,hm,fun ht=>⟨(hch ht).1,(hch ht).2.1⟩,?_,?_⟩
 rotate_left
 ·rw[hR]
  by_cases ht:(YV W c).2=true
  ·rw[C' ht];have a:=(hch ht).1;have g1:Z2 (YV W c).1.IC (PD (YV W c).1 c (Qt W c) (UK W c left)).IC:=(hch ht).2.2.2.2.2.2.2.2.g;exact(eG.trans g1).trans (VC a (by simp only[Qi]; omega)).2.g
  ·rw[B' ht];have g1:Z2 (YV W c).1.IC (Rn (YV W c).1 c).IC:=Z2.refl _;exact(eG.trans g1).trans (VC (tk.sw.Rn c0 (by rw[lT]; exact c1)) Qo).2.g
 rw[hR];have hf1:=h.f1
 by_cases ht:(YV W c).2=true
 ·rw[C' ht];obtain⟨a,b,d,e1,e2,e3,_⟩:=hch ht;obtain⟨b1,b2,b3,b4,b5,b6,b7⟩:=zcz a b (by simp only[Qi]; omega) c0 (by rw[e2,lT]; exact c1) e3;have hm:=hm ht
  exact⟨b1.mono (by simp only[Qi,UL]; omega),b2.mono Qo,b3,c0,by rw[b6,e2,lT]; exact c1,b4,by rw[b5,e1,tk.o.n]; exact h.now,by rw[b6,e2,lT]; exact h.len,by show 0<=left-UK W c left; omega,by show left-UK W c left<=100; omega,by
   rw[d] at b7;show left-UK W c left+((Lx (Qg (PD (YV W c).1 c (Qt W c) (UK W c left))) c:Nat):Int)<_;omega,Qo⟩
 ·rw[B' ht];have ht:(YV W c).2=false:=by simpa using ht
  obtain⟨g,hg,IS⟩:=tf ht;have g0:=Q4.1 (pin g hg);have bM:=h.sw.a.gl
  have hp1:Lx (YV W c).1 c<Lx W c:=by
   refine zpu (fun k _=>tk.p (k:Int) Qo) (j:=g.toNat) ?_ 8 Qo (I7 _);rw[show ((g.toNat:Nat):Int)=g by omega];exact IS
  have ce:c<((YV W c).1.ID.length:Int):=by rw[lT]; exact c1
  have sE:=tk.sw.Rn c0 ce;have eE:gi (Rn (YV W c).1 c).ID c=XU (gi (YV W c).1.ID c):=(QE _ _ c0 ce c0).trans (C' rfl);have lE:(Rn (YV W c).1 c).ID.length=(YV W c).1.ID.length:=E';obtain⟨b1,b2,b3,b4,b5,b6,b7⟩:=zcz sE (rT.sum (zqe _ c) (Z2.refl _) lE) Qo c0 (by rw[lE]; exact ce) (by rw[eE]; exact upT)
  exact⟨b1.mono (by simp only[Qi,UL]; omega),b2.mono Qo,b3,c0,by rw[b6,lE]; exact ce,b4,by rw[b5]; show (YV W c).1.now=_; rw[tk.o.n]; exact h.now,by rw[b6,lE,lT]; exact h.len,h.l0,h.l1,by
   have b7:Lx (Qg (Rn (YV W c).1 c)) c<=Lx (YV W c).1 c:=b7;show left+((Lx (Qg (Rn (YV W c).1 c)) c:Nat):Int)<_;omega,Qo⟩
theorem zzg{b:UM}{c:Int}(c0:0<=c)(c1:c<(b.locals.length:Int)):ZL b ⟨1,c,0⟩=ZX b c:=by
 unfold ZL;rw[B' (show ¬(1:Int)=4 by decide),B' (by rw[Qu.2 (by show 0<=c/\c<=_; omega)]; decide),C' rfl]
theorem zir{α:Type}[Inhabited α]{l:List α}{k:Nat}(h:k<l.length):l.drop k=gi l (k:Int)::l.drop (k+1):=by
 rw[List.drop_eq_getElem_cons h]
 congr 1
 unfold gi;rw[Ig,List.getD_eq_getElem?_getD,Il h]; rfl
theorem zis{α:Type}[Inhabited α]{l:List α}{k:Nat}(h:k<l.length):gi l (k:Int)∈l:=by
 have:=List.getElem_mem h;unfold gi;rw[Ig,List.getD_eq_getElem?_getD,Il h]; exact this
theorem zl6{c g:Int}{l:List Int}{W:Q8}:zhi c (g::l) W=if (CB W c g).2=true then zhi c l (CB W c g).1 else ((CB W c g).1,false):=rfl
section
variable {base:Nat}{W:Q8}{m:MW}{w:Wo}
theorem M7{pb n:Nat}{l:List Int}{pO:OA}{pC:Nat}{w2:Wo}{bs:List Nat}{V:Q8}{m2:MW}(hp:Uz JI 1 Qb pb w pO pC l)(hpn:∀x∈QI pO,x∉QR n m)(hM:Mv n base bs w m w2 V m2):Uz JI 1 Qb pb w2 pO pC l/\zqo bs w2 pO l:=by
 have h:=hp.ext hM.ext hpn
 exact⟨h,h.rd YT.len fun x hx hm=>by
  have:=(hp.lt x hx).2;have:=hM.new x hm;omega⟩
theorem Mv.put{n:Nat}{bs:List Nat}{w0 w w':Wo}{m0:MW}{b:Nat}(h:Mv n base bs w0 m0 w W m)(hx:Q0 bs w w')(hb:w.heap.size<=b):Mv n base (bs++[b]) w0 m0 w' W m:=(h.add hb).step (hx.mono fun x hm=>Ia _ hm)
theorem zfb{K c:Int}{l:List Int}{pO:OA}{pC pb:Nat}(h:Zf 8 base w W m)(sw:SW K W)(rH:base<=w.heap.size)(hp:Uz JI 1 Qb pb w pO pC l)(hpn:∀x∈QI pO,x∉QR 8 m)(hl4:l.length<=4)(c0:0<=c)(c1:c<(W.ID.length:Int))(hu:∀g∈l,Q6 W.IC g=true)(hd:∀g∈l,(gi W.IC g).IQ.IW≠0->gi (gi W.IC g).IQ.Rw c=false) :
  Cz PU #[.agg (Qa W m).toArray,.slice pO l.length pC,I c] w fun e w'=>∃m',e=.returned (.tuple #[.agg (Qa W m).toArray,.bool (zhi c l W).2])/\Mv 8 base [] w m w' (zhi c l W).1 m':=by
 refine(zer _ _ _ _ _ _ _ _ _ _ pO l.length pC c (R:=fun v w'=>∃m',v=.tuple #[.agg (Qa W m).toArray,.bool (zhi c l W).2]/\Mv 8 base [] w m w' (zhi c l W).1 m') ?_).mono fun e w' ⟨v,he,m',hv,h3⟩=>⟨m',by rw[he,hv],h3⟩
 intro x hx x1 S9;have bM:=sw.a.gl;have Ao5:=Yi hx S9
 refine⟨fun vs w2=>∃(k:Nat) (r:List Va) (V:Q8) (m2:MW),vs=I (k:Int)::r/\k<=l.length/\Mv 8 base [x,x1] w m w2 V m2/\zhi c l W=zhi c (l.drop k) V/\SW K V/\VP W V/\∀g∈l.drop k,(gi V.IC g).IQ.IW≠0->gi (gi V.IC g).IQ.Rw c=false,
  Zq l.length 0,fun wr R4 _=>⟨0,_,W,m,rfl,Ic _,(Mv.two h hx S9).M' R4,rfl,sw,VP.refl _,hd⟩,?_⟩
 rintro i1 ll RO RW Sb RR S5 Sa RY RZ S4 w2 SS ⟨k,r,V,m2,he,hk,Wq,hE,swV,oV,hdV⟩;simp only[I4,I5,true_and] at he;obtain⟨rfl,_⟩:=he;have hmg:m2.gO=m.gO:=by rw[Wq.hd]
 have hr:=Wq.rd;have B22:V.IC.length=8:=swV.a.gl;obtain⟨_,hpr⟩:=M7 hp hpn Wq;refine⟨fun IS=>?_,fun Ry=>?_⟩
 ·have CI2:=Ot IS;have IS:k<l.length:=Qo;have hdr:=zir IS;have jA:=hu _ (zis IS);rw[hdr] at hE hdV;have hug:Q6 V.IC (gi l (k:Int))=true:=by rw[oV.g.cK]; exact jA
  have mZ:=hpr (k:Int) Qo Qo;have AB7:=hpr.ix Jm (i:=(k:Int)) Qo Qo;have hdk:=hdV _ I9;generalize qY:gi l (k:Int)=g at hE hdV hug mZ hdk jA hdr;obtain⟨u0,u1,hgg⟩:=swV.a.u hug;have Rr:g<(V.IC.length:Int):=Qo;have V':Ix m.gO W.IC.length g:=by have:=hr.g.ix (i:=g) u0 Rr; rwa[B22,<-bM,hmg] at this
  have A77:=hr.g.cells g u0 Rr;rw[hmg] at A77;refine⟨AB7,g,mZ,V',_,_,_,_,_,_,_,_,_,_,_,_,_,_,_,_,_,_,_,_,A77,fun b4 hb4=>⟨A77,mZ,rfl,fun g1=>?_,fun g1=>?_⟩⟩
  ·have g1:(gi V.IC g).IQ.IW=0:=by simpa using g1
   have hT:CB V c g=(V,true):=by unfold CB; rw[C' g1]
   rw[zl6,hT,C' rfl] at hE;exact⟨⟨Qo,Qo⟩,fun wr R4 _=>⟨⟨k+1,_,V,m2,by simp; rfl,Qo,Wq.step R4,hE,swV,oV,fun y hy=>hdV y (I1 _ hy)⟩,Zi (k:=k) rfl rfl IS⟩⟩
  ·have g1:(gi V.IC g).IQ.IW≠0:=by simpa using g1
   obtain⟨hb,hbl,_⟩:=hgg.IQ g1;have A66:c<(V.ID.length:Int):=by rw[oV.c]; exact c1
   have rJ:c<((gi V.IC g).IQ.locals.length:Int):=Qo;intro Rp R4 cJ;have fH:=Wq.put R4 hb4;have hr4:=fH.rd0;refine I3 (US (op:=⟨1,c,0⟩) hb (hr4.g.locals g u0 Rr) (hr4.g.Rw g u0 Rr)) ?_;rintro e Rx ⟨p,he,hO,hy⟩;rw[zzg c0 rJ] at he hO;have hM5:=fH.M' hy;have hbs:base<=Rp.heap.size:=by have:=fH.ext.size; omega
   have hOb:∀y∈Yn p,Rp.heap.size<=y:=fun y hy=>(hO.lt y hy).1
   have A76:=hM5.own.Bo9 (i:=g) u0 Qo (hO.mono hbs) (fun y hy hm=>by have:=hOb y hy; have:=(fH.own.lt y hm).2; omega);have tH:=zqm hM5.own hM5.nb (i:=g) u0 Qo (j:=8) (k:=5) Qd;have qJ:=fH.ext.size
   have hM6:=hM5.swap A76 Cc rfl fun y hy=>by
    rcases Oc y hy with h1 | h1
    ·exact .inl h1
    ·rcases Oa y h1 with h2 | h2
     ·have:=hOb y h2;exact .inr ⟨Qo,fun hm=>by have:=cJ y hm; omega⟩
     ·exact .inl (Ud Qo h2)
   rw[hmg] at tH;have hgO:m2.gO=m.gO:=hmg;rw[hgO] at hM6;obtain⟨_,Cj9⟩:=M7 hp hpn hM5;have CJ3:=Cj9 (k:Int) Qo Qo;rw[qY] at CJ3;have hTk:CB V c g=(RI V g (ZX (gi V.IC g).IQ c).1,decide ((ZX (gi V.IC g).IQ c).2≠2)):=by unfold CB; rw[B' g1]
   obtain⟨tk,t2,_⟩:=zvz swV c0 A66 hug hdk;rw[zl6] at hE;refine⟨_,_,_,_,_,_,_,_,_,_,he,Qe hy cJ,fun b5 hb5=>⟨AB7,g,CJ3,V',tH,fun g2 Sf aO=>?_,fun g2=>⟨⟨Qo,Qo⟩,fun Sf aO hs6=>⟨⟨k+1,_,RI V g (ZX (gi V.IC g).IQ c).1,_,by simp; rfl,Qo,(hM6.step aO).BB5 Qs,?_,?_,?_,fun y hy hq=>?_⟩,Zi (k:=k) rfl rfl IS⟩⟩⟩⟩
   ·have g2:(ZX (gi V.IC g).IQ c).2=2:=by simpa using g2
    have:(CB V c g).2=false:=by rw[hTk]; simp[g2]
    rw[hE,this,B' Qd,hTk];exact⟨_,rfl,(hM6.step aO).close⟩
   all_goals
    have g2:(ZX (gi V.IC g).IQ c).2≠2:=by simpa using g2
    have ht2:(CB V c g).2=true:=by rw[hTk]; simp[g2]
    have hT1:(CB V c g).1=RI V g (ZX (gi V.IC g).IQ c).1:=by rw[hTk]
   ·rw[hE,C' ht2,hT1]
   ·rw[<-hT1]; exact tk.sw
   ·rw[<-hT1]; exact oV.trans tk.o
   ·have y0:=(Q4.1 (hu y (List.mem_of_mem_drop hy))).1;rw[<-hT1] at hq ⊢;rw[tk.q y y0] at hq;exact(t2 ht2).2 y y0 (hdV y (I1 _ hy)) hq
 ·have Ry:=Ou Ry;have hk2:k=l.length:=Qo;subst hk2;rw[List.drop_length] at hE;rw[hE];exact fun w3 R4=>⟨m2,rfl,(Wq.step R4).close⟩
theorem ze8{c n:Int}{l:List Int}{pO:OA}{pC:Nat}{bs:List Nat}(h:XQ bs w W m)(ha:WA W)(hp:zqo bs w pO l)(hl4:l.length<=4)(c0:0<=c)(c1:c<(W.ID.length:Int))(hu:∀g∈l,Q6 W.IC g=true) :
  PX bs PR #[.agg (Qa W m).toArray,.slice pO l.length pC,I c,I n] w (I (zb1 W c l n)):=
 zfy _ _ _ _ _ _ _ _ _ _ pO l.length pC c n fun wr hx=>by
  have h:=(h.ext hx).less (cs:=[]) Qs;have hp:=(hp.ext hx).less (cs:=[]) Qs;intro _ _;refine OQ l.length 0 rfl (fun y k=>k<=l.length/\zb1 W c l n=zb1 W c (l.drop k) y) ⟨Ic _,rfl⟩ fun y k ⟨hk,hy⟩=>⟨fun IS=>?_,fun Ry=>?_⟩
  ·have CI2:=Ot IS;have IS:k<l.length:=Qo;have hdr:=zir IS;have jA:=hu _ (zis IS);rw[hdr] at hy;have mZ:=hp (k:Int) Qo Qo;generalize gi l (k:Int)=g at hy mZ jA;obtain⟨u0,u1,hgg⟩:=ha.u jA;have bM:=ha.gl;have hyy:zb1 W c (g::l.drop (k+1)) y=zb1 W c (l.drop (k+1)) (zlb W c g y):=rfl;rw[hyy] at hy;refine⟨hp.ix Jm (i:=(k:Int)) Qo Qo,g,mZ,h.g.ix u0 Qo,_,_,_,_,_,_,_,_,_,h.g.IQ u0 Qo,fun b1 dI=>⟨h.g.IQ u0 Qo,mZ,rfl,fun g1=>?_,fun g1=>?_⟩⟩
   ·have g1:=Ot g1;obtain⟨hb,hbl,_⟩:=hgg.IQ Qo;have hLo:=h.g.locals g u0 Qo;refine⟨hLo.ix Jm c0 Qo,_,hLo c c0 Qo,_,Jt,⟨Qo,Qo⟩,QJ Qo ⟨Qo,?_⟩⟩;rw[hy]; unfold zlb; rw[C' g1]
   ·have g1:=Ou g1;refine⟨⟨Qo,Qo⟩,QJ Qo ⟨Qo,?_⟩⟩;rw[hy]; unfold zlb; rw[B' g1]
  ·have Ry:=Ou Ry;have:k=l.length:=Qo;subst this;rw[List.drop_length] at hy;show I y=_;rw[hy]; rfl
end
theorem zkb{c n g:Int}{l:List Int}{W:Q8}:zh7 c n (g::l) W=zh7 c n l (zad W c n g):=rfl
theorem GZ(W:Q8)(c n g:Int):(LS W c n g).IC.length=W.IC.length:=by simp[LS,RA,Rf]
theorem zmu{W:Q8}{c n g:Int}(u0:0<=g)(u1:g<(W.IC.length:Int)):gi (LS W c n g).IC g={ gi W.IC g with IE:=(gi W.IC g).IE.set c.toNat (Ck W c n g) }:=by
 unfold LS RA;rw[YY u0 u1 u0,C' rfl]
theorem zmw{W:Q8}{c n g:Int}(u0:0<=g)(u1:g<(W.IC.length:Int)):gi (Rf (LS W c n g) g (Nd W c n g)).IC g=Nd W c n g:=by
 rw[YY u0 (by rw[GZ]; exact u1) u0,C' rfl]
theorem zae{W:Q8}{c n g:Int}(u0:0<=g)(u1:g<(W.IC.length:Int)):(Nd W c n g).IQ=(gi W.IC g).IQ:=by
 unfold Nd;rw[zmu u0 u1]
theorem zka{W:Q8}{c n g:Int}(u0:0<=g)(u1:g<(W.IC.length:Int))(h:¬(gi W.IC g).IQ.IW>0):zad W c n g=Rf (LS W c n g) g (Nd W c n g):=by
 unfold zad zgc;rw[B' h,<-zae (c:=c) (n:=n) u0 u1];have:=zmw (c:=c) (n:=n) u0 u1
 conv=>lhs; arg 3; rw[<-this]
 exact zcy u0 (by simp only[Rf,E']; rw[GZ]; exact u1)
section
variable {base:Nat}{W:Q8}{m:MW}{w:Wo}
theorem AL{K S t c n:Int}{pO:OA}{pC pb:Nat}(h:Zf 8 base w W m)(rH:base<=w.heap.size)(hp:Uz JI 1 Qb pb w pO pC (YN W t))(hpn:∀x∈QI pO,x∉QR 8 m)(sw:SW K W)(rb:RB S W)(hK:0<=K/\K<=60000000000000000)(hS:0<=S/\S<=60000000000000000)(c0:0<=c)(c1:c<(W.ID.length:Int))(up:(gi W.ID c).up=true)(WH:(gi W.ID c).WH<50)(t0:0<=t)(t1:t<12)(hu:Q6 W.IC (Q7 W t).group=true)(n0:0<=n)(n1:n<=100) :
  Cz O2 #[.agg (Qa W m).toArray,I t,.slice pO (YN W t).length pC,I c,I n] w fun e w'=>∃m',e=.returned (.agg (Qa (Qg (PD W c t n)) m').toArray)/\Mv 8 base [] w m w' (Qg (PD W c t n)) m':=by
 obtain⟨sE,rE,_,_,hlE,_,s1,r1,cp1⟩:=zh8 sw rb Qo c0 c1 up WH t0 t1 hu n0 n1;obtain⟨pin,B58⟩:=Cu sw.a hu;refine(At _ _ _ _ _ _ _ _ _ _ t pO (YN W t).length pC c n (R:=fun v w'=>∃m',v=.agg (Qa (Qg (PD W c t n)) m').toArray/\Mv 8 base [] w m w' (Qg (PD W c t n)) m') ?_).mono fun e w' ⟨v,he,m',hv,h3⟩=>⟨m',by rw[he,hv],h3⟩
 intro x hx x1 S9;have bM:=sw.a.gl;have iX:=sw.a.t;have hlg:Qi=34686091440:=rfl;have aQ:=h.rd (bs:=[]) Qs;have V':=aQ.t.ix QG t0 Qo;have htv:=sw.tv t t0 t1;have htr:=rb.t t t0 t1;have hv:=Hg n (Qf (Q7 W t).nice) n0 n1;refine⟨V',_,_,_,_,_,_,_,_,_,aQ.t t t0 Qo,fun x2 R0=>⟨_,ZK,_,Xk,⟨?_,?_⟩,⟨?_,?_⟩,⟨?_,?_⟩,V',zqn h Qs t0 Qo (j:=0) Qd,?_⟩⟩
 ·show _<=(Q7 W t).v+Za n (Qf (Q7 W t).nice); omega
 ·show (Q7 W t).v+Za n (Qf (Q7 W t).nice)<=_; omega
 ·show _<=(Q7 W t).sum+n; omega
 ·show (Q7 W t).sum+n<=_; omega
 ·show _<=(Q7 W t).used+n; omega
 ·show (Q7 W t).used+n<=_; omega
 have eT:Zf 8 base (Rl w m.tO (Int.toNat t*9) (Xv (LU W t n))) (IT W t (LU W t n)) m:=h.AA0 t0 Qo (j:=0) (vs:=Xv (LU W t n)) (x:=LU W t n) (by simp[Xv]) (by simp[Xv]);have hM1:Mv 8 base [x,x1,x2] w m (Rl w m.tO (Int.toNat t*9) (Xv (LU W t n))) (IT W t (LU W t n)) m:=((Mv.two h hx S9).add R0).Sj eT GJ
 refine⟨fun vs w2=>∃(k:Nat) (V:Q8) (m2:MW),vs=[I (k:Int)]/\k<=(YN W t).length/\Mv 8 base [x,x1,x2] w m w2 V m2/\zh7 c n (YN W t) (IT W t (LU W t n))=zh7 c n ((YN W t).drop k) V/\zv9 (K+Qi+Qi*(k:Int)) (S+100+100*(k:Int)) c n (IT W t (LU W t n)) V,
  Zq (YN W t).length 0,fun wr R4 _=>⟨0,_,m,rfl,Ic _,hM1.M' R4,rfl,⟨s1.mono Qs,r1.mono Qs,rfl,rfl,rfl,Z2.refl _,fun _ _=>rfl⟩⟩,?_⟩
 rintro i1 w2 SS ⟨k,V,m2,he,hk,Wq,hE,hC⟩;simp only[I4,I5,true_and,and_true] at he;subst he;have hkk:0<=Qi*(k:Int)/\Qi*(k:Int)<=138744365760:=by simp only[Qi]; omega
 have hk1:Qi*((k+1:Nat):Int)=Qi*(k:Int)+Qi:=by simp only[Qi]; omega
 have hmg:m2.gO=m.gO:=by rw[Wq.hd]
 have hmc:m2.cO=m.cO:=by rw[Wq.hd]
 have hr:=Wq.rd;have B22:V.IC.length=8:=hC.sw.a.gl;have A66:V.ID.length=W.ID.length:=by rw[hC.cp]; rfl
 obtain⟨_,hpr⟩:=M7 hp hpn Wq;refine⟨fun IS=>?_,fun Ry=>?_⟩
 ·have CI2:=Ot IS;have IS:k<(YN W t).length:=Qo;have hdr:=zir IS;have jA:=pin _ (zis IS);rw[hdr,zkb] at hE;have hug:Q6 V.IC (gi (YN W t) (k:Int))=true:=by rw[hC.g.cK]; exact jA
  have mZ:=hpr (k:Int) Qo Qo;have AB7:=hpr.ix Jm (i:=(k:Int)) Qo Qo;generalize qY:gi (YN W t) (k:Int)=g at hE hug mZ jA hdr;have hC2:=hC.trans (zmv hC.sw hC.rb Qo c0 (by rw[A66]; exact c1) hug n0 n1);have hC3:zv9 (K+Qi+Qi*((k+1:Nat):Int)) (S+100+100*((k+1:Nat):Int)) c n (IT W t (LU W t n)) (zad V c n g):=⟨hC2.sw.mono Qo,hC2.rb.mono Qo,hC2.now,hC2.t,hC2.cp,hC2.g,hC2.p⟩;obtain⟨u0,u1,hgg⟩:=hC.sw.a.u hug;have Rr:g<(V.IC.length:Int):=Qo;have hsl:=hC.sw.a.sl hug;have hcs:c<((gi V.IC g).IE.length:Int):=Qo;have A71:Ix m.gO W.IC.length g:=by have:=hr.g.ix (i:=g) u0 Rr; rwa[B22,<-bM,hmg] at this
  have A77:=hr.g.cells g u0 Rr;rw[hmg] at A77;have yL:=hr.g.IE g u0 Rr;have hsc:=yL c c0 hcs;have B25:=yL.ix YW c0 hcs;have hsv:=hC.sw.s g c hug c0 (by rw[A66]; exact c1);have hsr:=hC.rb.s g c hug c0 (by rw[A66]; exact c1);have hgr:=hC.rb.g g hug;have hv2:=Hg n (Qc V g c).w n0 n1;refine⟨AB7,g,mZ,A71,_,_,_,_,_,_,_,_,_,_,_,_,_,_,_,_,_,_,_,_,A77,fun b3 hb3=>⟨A77,mZ,rfl,B25,_,_,_,_,_,hsc,fun b4 hb4=>⟨AB7,g,mZ,?_⟩⟩⟩
  have eA:∀s:LI,s=Ck V c n g->Zf 8 base (Rl w2 (m2.ms g.toNat).sO (Int.toNat c*5) (PG s)) (LS V c n g) m2:=fun s hs=>by
   subst hs;exact Wq.own.Bp2 u0 Qo c0 hcs (j:=0) (vs:=PG (Ck V c n g)) (x:=Ck V c n g) (by simp[PG]) (by simp[PG])
  have CL6:=z1v Wq.own Wq.nb (i:=g) u0 Qo c0 hcs (j:=0) (k:=5) Qd;have B40:=hr.g.RC (i:=g) u0 Rr;rw[hmg] at B40;refine⟨fun g1=>?_,fun g1=>?_⟩
  ·have g1:g≠0:=by simpa using g1
   have hs:(⟨(Qc V g c).floor,(Qc V g c).on,(Qc V g c).v+Za n (Qc V g c).w,(Qc V g c).w,(Qc V g c).sum+n⟩:LI)=Ck V c n g:=by unfold Ck; rw[C' g1]
   have eA:=eA _ hs;refine⟨_,Xk,⟨?_,?_⟩,⟨?_,?_⟩,AB7,g,mZ,A71,_,_,_,B40,B25,CL6,AB7,g,?_,⟨?_,?_⟩,A71,?_,?_⟩
   ·show _<=(Qc V g c).v+Za n (Qc V g c).w; omega
   ·show (Qc V g c).v+Za n (Qc V g c).w<=_; omega
   ·show _<=(Qc V g c).sum+n; omega
   ·show (Qc V g c).sum+n<=_; omega
   ·have:=(M7 hp hpn (Wq.Sj eA (zjs Qo))).2 (k:Int) Qo Qo;rw[qY] at this;exact this
   ·show _<=(gi V.IC g).sum+n; omega
   ·show (gi V.IC g).sum+n<=_; omega
   ·have:=zqm eA Wq.nb (i:=g) u0 Qo (j:=7) (k:=1) Qd;rw[hmg] at this;exact this
   have dZ:=((Wq.add hb3).add hb4).Sj eA (zjs Qo);have eU:=eA.Az4 (i:=g) u0 Qo (g:=Nd V c n g) rfl rfl rfl (j:=7) (vs:=[I ((gi V.IC g).sum+n)]) (by unfold Nd; rw[zmu u0 Rr]; rfl) Qs;have fH:=dZ.Sj eU Cc;rw[hmg] at fH;have fH:Mv 8 base [x,x1,x2,b3,b4] w m _ (Rf (LS V c n g) g (Nd V c n g)) m2:=fH;have hgb:=zae (c:=c) (n:=n) u0 Rr;have hgi:=zmw (c:=c) (n:=n) u0 Rr;have hl5:(Rf (LS V c n g) g (Nd V c n g)).IC.length=V.IC.length:=by simp only[Rf,E']; exact GZ _ _ _ _
   have AM3:=zka (c:=c) (n:=n) u0 Rr;have SN:zad V c n g=RI (Rf (LS V c n g) g (Nd V c n g)) g (zgc V c n g):=rfl;generalize Rf (LS V c n g) g (Nd V c n g)=V5 at fH hgi hl5 AM3 SN;refine⟨fun g2 I' R4 dQ=>?_,fun g2=>⟨⟨Qo,Qo⟩,fun I' R4 _=>⟨⟨k+1,zad V c n g,m2,Qs,Qo,?_,hE,hC3⟩,Zi (k:=k) rfl rfl IS⟩⟩⟩
   ·have g2:(gi V.IC g).IQ.IW>0:=Ot g2;have hB:zgc V c n g=(ZL (gi V.IC g).IQ ⟨2,c,n⟩).1:=by unfold zgc; rw[C' g2]
    rw[hB] at SN;obtain⟨hb,hbl,_⟩:=hgg.IQ Qo;have hM6:Mv 8 base [x,x1,x2,b3,b4] w m I' V5 m2:=fH.step (R4.mono fun y hy=>by simp only[Ii,List.not_mem_nil,or_false] at hy ⊢; rcases hy with h | h | h <;> simp[h]);have hr6:=hM6.rd0;have hg5:g<(V5.IC.length:Int):=by rw[hl5]; exact Rr
    have hLo:=hr6.g.locals g u0 hg5;have hDo:=hr6.g.Rw g u0 hg5;rw[hgi,hgb] at hLo hDo;refine I3 (US (op:=⟨2,c,n⟩) hb hLo hDo) ?_;rintro e Rx ⟨p,he,hO,hy⟩;have tY:=hM6.M' hy;have hbs:base<=I'.heap.size:=by have:=hM6.ext.size; omega
    have hOb:∀y∈Yn p,I'.heap.size<=y:=fun y hy=>(hO.lt y hy).1
    have A76:=tY.own.Bo9 (i:=g) u0 Qo (hO.mono hbs) (fun y hy hm=>by have:=hOb y hy; have:=(hM6.own.lt y hm).2; omega);have tH:=zqm tY.own tY.nb (i:=g) u0 Qo (j:=8) (k:=5) Qd;have qJ:=hM6.ext.size
    have hM8:=tY.swap A76 Cc rfl fun y hy=>by
     rcases Oc y hy with h1 | h1
     ·exact .inl h1
     ·rcases Oa y h1 with h2 | h2
      ·have:=hOb y h2;exact .inr ⟨Qo,fun hm=>by have:=dQ y hm; omega⟩
      ·exact .inl (Ud Qo h2)
    rw[hmg] at tH hM8;rw[<-SN] at hM8;have Bb0:=(M7 hp hpn tY).2 (k:Int) Qo Qo;rw[qY] at Bb0;exact⟨_,_,_,_,_,_,_,_,_,_,he,Qe hy dQ,fun b5 hb5=>⟨AB7,g,Bb0,A71,tH,⟨Qo,Qo⟩,fun Sf aO _=>⟨⟨k+1,zad V c n g,_,Qs,Qo,(hM8.step aO).BB5 Qs,hE,hC3⟩,Zi (k:=k) rfl rfl IS⟩⟩⟩
   ·have g2:¬(gi V.IC g).IQ.IW>0:=Ou g2;rw[AM3 g2];exact(fH.BB5 (cs:=[x,x1,x2]) (fun y hy=>by simp only[Ii,List.not_mem_nil,or_false] at hy ⊢; rcases hy with h | h | h <;> simp[h])).step R4
  ·have g1:¬g≠0:=by simpa using g1
   have hs:(⟨(Qc V g c).floor,(Qc V g c).on,(Qc V g c).v,(Qc V g c).w,(Qc V g c).sum+n⟩:LI)=Ck V c n g:=by unfold Ck; rw[B' g1]
   have eA:=eA _ hs;refine⟨⟨?_,?_⟩,AB7,g,mZ,A71,_,_,_,B40,B25,CL6,AB7,g,?_,⟨?_,?_⟩,A71,?_,?_⟩
   ·show _<=(Qc V g c).sum+n; omega
   ·show (Qc V g c).sum+n<=_; omega
   ·have:=(M7 hp hpn (Wq.Sj eA (zjs Qo))).2 (k:Int) Qo Qo;rw[qY] at this;exact this
   ·show _<=(gi V.IC g).sum+n; omega
   ·show (gi V.IC g).sum+n<=_; omega
   ·have:=zqm eA Wq.nb (i:=g) u0 Qo (j:=7) (k:=1) Qd;rw[hmg] at this;exact this
   have dZ:=((Wq.add hb3).add hb4).Sj eA (zjs Qo);have eU:=eA.Az4 (i:=g) u0 Qo (g:=Nd V c n g) rfl rfl rfl (j:=7) (vs:=[I ((gi V.IC g).sum+n)]) (by unfold Nd; rw[zmu u0 Rr]; rfl) Qs;have fH:=dZ.Sj eU Cc;rw[hmg] at fH;have fH:Mv 8 base [x,x1,x2,b3,b4] w m _ (Rf (LS V c n g) g (Nd V c n g)) m2:=fH;have hgb:=zae (c:=c) (n:=n) u0 Rr;have hgi:=zmw (c:=c) (n:=n) u0 Rr;have hl5:(Rf (LS V c n g) g (Nd V c n g)).IC.length=V.IC.length:=by simp only[Rf,E']; exact GZ _ _ _ _
   have AM3:=zka (c:=c) (n:=n) u0 Rr;have SN:zad V c n g=RI (Rf (LS V c n g) g (Nd V c n g)) g (zgc V c n g):=rfl;generalize Rf (LS V c n g) g (Nd V c n g)=V5 at fH hgi hl5 AM3 SN;refine⟨fun g2 I' R4 dQ=>?_,fun g2=>⟨⟨Qo,Qo⟩,fun I' R4 _=>⟨⟨k+1,zad V c n g,m2,Qs,Qo,?_,hE,hC3⟩,Zi (k:=k) rfl rfl IS⟩⟩⟩
   ·have g2:(gi V.IC g).IQ.IW>0:=Ot g2;have hB:zgc V c n g=(ZL (gi V.IC g).IQ ⟨2,c,n⟩).1:=by unfold zgc; rw[C' g2]
    rw[hB] at SN;obtain⟨hb,hbl,_⟩:=hgg.IQ Qo;have hM6:Mv 8 base [x,x1,x2,b3,b4] w m I' V5 m2:=fH.step (R4.mono fun y hy=>by simp only[Ii,List.not_mem_nil,or_false] at hy ⊢; rcases hy with h | h | h <;> simp[h]);have hr6:=hM6.rd0;have hg5:g<(V5.IC.length:Int):=by rw[hl5]; exact Rr
    have hLo:=hr6.g.locals g u0 hg5;have hDo:=hr6.g.Rw g u0 hg5;rw[hgi,hgb] at hLo hDo;refine I3 (US (op:=⟨2,c,n⟩) hb hLo hDo) ?_;rintro e Rx ⟨p,he,hO,hy⟩;have tY:=hM6.M' hy;have hbs:base<=I'.heap.size:=by have:=hM6.ext.size; omega
    have hOb:∀y∈Yn p,I'.heap.size<=y:=fun y hy=>(hO.lt y hy).1
    have A76:=tY.own.Bo9 (i:=g) u0 Qo (hO.mono hbs) (fun y hy hm=>by have:=hOb y hy; have:=(hM6.own.lt y hm).2; omega);have tH:=zqm tY.own tY.nb (i:=g) u0 Qo (j:=8) (k:=5) Qd;have qJ:=hM6.ext.size
    have hM8:=tY.swap A76 Cc rfl fun y hy=>by
     rcases Oc y hy with h1 | h1
     ·exact .inl h1
     ·rcases Oa y h1 with h2 | h2
      ·have:=hOb y h2;exact .inr ⟨Qo,fun hm=>by have:=dQ y hm; omega⟩
      ·exact .inl (Ud Qo h2)
    rw[hmg] at tH hM8;rw[<-SN] at hM8;have Bb0:=(M7 hp hpn tY).2 (k:Int) Qo Qo;rw[qY] at Bb0;exact⟨_,_,_,_,_,_,_,_,_,_,he,Qe hy dQ,fun b5 hb5=>⟨AB7,g,Bb0,A71,tH,⟨Qo,Qo⟩,fun Sf aO _=>⟨⟨k+1,zad V c n g,_,Qs,Qo,(hM8.step aO).BB5 Qs,hE,hC3⟩,Zi (k:=k) rfl rfl IS⟩⟩⟩
   ·have g2:¬(gi V.IC g).IQ.IW>0:=Ou g2;rw[AM3 g2];exact(fH.BB5 (cs:=[x,x1,x2]) (fun y hy=>by simp only[Ii,List.not_mem_nil,or_false] at hy ⊢; rcases hy with h | h | h <;> simp[h])).step R4
 ·have Ry:=Ou Ry;have hk2:k=(YN W t).length:=Qo;subst hk2;rw[List.drop_length] at hE;have hE:zh7 c n (YN W t) (IT W t (LU W t n))=V:=hE;have hcV:V.ID=W.ID:=hC.cp;have cV:c<(V.ID.length:Int):=by rw[A66]; exact c1
  have AM1:Ix m.cO W.ID.length c:=by have:=hr.c.ix ZP c0 cV; rwa[A66,hmc] at this
  have hcr:=rb.c c c0 c1;have e1:=Wq.own.AV0 c0 cV (j:=3) (vs:=[I ((gi W.ID c).busy+n)]) (x:={ gi W.ID c with busy:=(gi W.ID c).busy+n }) (by rw[hcV]; rfl) Qs;have mG:(V.ID.set c.toNat { gi W.ID c with busy:=(gi W.ID c).busy+n }).length=V.ID.length:=E';have hg1:gi (V.ID.set c.toNat { gi W.ID c with busy:=(gi W.ID c).busy+n }) c={ gi W.ID c with busy:=(gi W.ID c).busy+n }:=(QE _ _ c0 cV c0).trans (C' rfl);have e2:=e1.AV0 c0 (by simpa using cV) (j:=2) (vs:=[I ((gi W.ID c).WH+n)]) (x:=zoz W c n) (by rw[hg1]; rfl) Qs;have hb:=hr.c.f c0 cV (j:=3) rfl;have uA:=zst Wq.own Wq.nb c0 cV (j:=3) (k:=1) Qd;have dZ:=Wq.Sj e1 C9;have hrn:=dZ.rd.c.f c0 (by show c<((V.ID.set c.toNat { gi W.ID c with busy:=(gi W.ID c).busy+n }).length:Int); rw[mG]; exact cV) (j:=2) rfl;have hw2:=zst e1 Wq.nb c0 (by show c<((V.ID.set c.toNat { gi W.ID c with busy:=(gi W.ID c).busy+n }).length:Int); rw[mG]; exact cV) (j:=2) (k:=1) Qd;rw[hmc] at hb uA hrn hw2;rw[hcV] at hb;rw[show gi ({ V with ID:=V.ID.set c.toNat { gi W.ID c with busy:=(gi W.ID c).busy+n } }:Q8).ID c=_ from hg1] at hrn;have fH:=dZ.Sj e2 C9
  have hW4:({ V with ID:=(V.ID.set c.toNat { gi W.ID c with busy:=(gi W.ID c).busy+n }).set c.toNat (zoz W c n) }:Q8)=PD W c t n:=by
   unfold PD RM;rw[hE,List.set_set]
  rw[hmc] at fH;have fH:Mv 8 base [x,x1,x2] w m _ ({ V with ID:=(V.ID.set c.toNat { gi W.ID c with busy:=(gi W.ID c).busy+n }).set c.toNat (zoz W c n) }:Q8) m2:=fH;rw[hW4] at fH;refine⟨AM1,_,hb,⟨?_,?_⟩,AM1,uA,AM1,_,hrn,⟨?_,?_⟩,AM1,hw2,fun SH jH hs7=>?_⟩
  ·show _<=(gi W.ID c).busy+n; omega
  ·show (gi W.ID c).busy+n<=_; omega
  ·show _<=(gi W.ID c).WH+n; omega
  ·show (gi W.ID c).WH+n<=_; omega
  have tY:=fH.step jH;have qJ:=tY.ext.size;have Rg:=Qv tY.own sE Qo Qo Qo;rw[show Qa (PD W c t n) m2=Qa W m from tY.AJ1 (by rw[show (PD W c t n).now=V.now from by rw[<-hW4]]; exact hC.now) hlE (by rw[<-hW4,show ({ V with ID:=(V.ID.set c.toNat { gi W.ID c with busy:=(gi W.ID c).busy+n }).set c.toNat (zoz W c n) }:Q8).tasks=V.tasks from rfl,hC.t]; simp[IT]) (by rw[<-hW4]; exact hC.g.len)] at Rg;refine I3 Rg ?_;rintro e wv ⟨m3,he,hy⟩;exact⟨_,_,_,_,_,_,_,_,_,_,he,tY.kept hy hs7,fun SZ oZ=>⟨m3,rfl,((tY.call hy hs7).step oZ).close⟩⟩
end
theorem znm{Q:Nat->Prop}(h:∃f,Q f):∃f,Q f/\∀g,Q g->f<=g:=by
 obtain⟨f,hf⟩:=h
 induction f using Nat.strongRecOn with
 | ind f ih=>
  by_cases h:∃g,g<f/\Q g
  ·obtain⟨g,hg,hq⟩:=h;exact ih g hg hq
  ·exact⟨f,hf,fun g hq=>Nat.le_of_not_lt fun IS=>h ⟨g,IS,hq⟩⟩
open Classical in
noncomputable def znl(Q:Nat->Prop):Nat:=if h:∃f,Q f then (znm h).choose else 0
theorem zrq{Q:Nat->Prop}(h:∃f,Q f):Q (znl Q):=by
 unfold znl;rw[dif_pos h];exact(znm h).choose_spec.1
theorem zxn{Q:Nat->Prop}{f:Nat}(h:Q f):znl Q<=f:=by
 unfold znl;rw[dif_pos ⟨f,h⟩];exact(znm ⟨f,h⟩).choose_spec.2 f h
noncomputable def Fm(W:Q8)(c n:Int):Int:=if YK n 1 100=false\/X9 W c=false then 1 else if (gi W.ID c).up=false then 6 else if QQ W=false then 10 else 0
def zr8(W:Q8)(c n:Int):Q8:=zcu c 400 W n
theorem zls{c:Int}{f:Nat}{W:Q8}{left:Int}(h:left<=0):zcu c (f+1) W left=Qg W:=by
 rw[zcu,C' h]
theorem zg2{c:Int}{f:Nat}{W:Q8}{left:Int}(h:¬left<=0)(hp:Qt W c<0):zcu c (f+1) W left=Qg (Rn (RM W c (Gd W c left)) c):=by
 rw[zcu,B' h,C' hp]
theorem zg3{c:Int}{f:Nat}{W:Q8}{left:Int}(h:¬left<=0)(hp:¬Qt W c<0):zcu c (f+1) W left=zcu c f (Fl W c left).1 (Fl W c left).2:=by
 rw[zcu,B' h,B' hp]
theorem zvg{W:Q8}{c n:Int}(hW:Qx W=true)(hb:Fm W c n=0):YK n 1 100=true/\X9 W c=true/\(gi W.ID c).up=true/\QQ W=true/\zdi 400 c W W n:=by
 unfold Fm at hb
 split at hb
 ·cases hb
 ·rename_i h1
  split at hb
  ·cases hb
  ·rename_i h2
   split at hb
   ·cases hb
   ·rename_i h3
    have h1a:YK n 1 100=true:=by
     cases h:YK n 1 100 with
     | true=>rfl
     | false=>exact Ir (.inl h) h1
    have h1b:X9 W c=true:=by
     cases h:X9 W c with
     | true=>rfl
     | false=>exact Ir (.inr h) h1
    have h2:(gi W.ID c).up=true:=by simpa using h2
    have h3:QQ W=true:=by simpa using h3
    obtain⟨c0,c1⟩:=VT h1b;have:=Qu.1 h1a;exact⟨h1a,h1b,h2,h3,zn3 (Ql.1 hW) (Ql.1 h3) c0 c1 h2 Qo Qo⟩
theorem zvd{f:Nat}{c left:Int}{W0 W:Q8}(h:zdi f c W0 W left):∃g,f=g+1:=by
 have h1:=h.f1;have h2:=h.l0;exact⟨f-1,Qo⟩
theorem zt3{f:Nat}{c left:Int}{W0 W:Q8}(h:zdi f c W0 W left):SW (Fo f) (Rn (RM W c (Gd W c left)) c)/\SW (Fo f) (RM W c (Gd W c left))/\0<=(gi W.ID c).idle+left/\(gi W.ID c).idle+left<=60000000000000000:=by
 have c0:=h.c0;have c1:=h.c1;have hcu:=h.sw.cu c c0 c1;have hl0:=h.l0;have mG:=h.l1;have hr:=h.rb.c c c0 c1;have s1:SW (Fo f) (RM W c (Gd W c left)):=h.sw.RM c0 c1 (N9 (c:=c) (by rw[E']; exact h.sw.a.c2) c0 (by rw[E']; exact c1) (by rw[show gi (W.ID.set c.toNat (Gd W c left)) c=Gd W c left from (QE _ _ c0 c1 c0).trans (C' rfl)]; exact h.up)) hcu.1 hcu.2;exact⟨s1.Rn c0 (by show c<((W.ID.set c.toNat (Gd W c left)).length:Int); rw[E']; exact c1),s1,Qo,Qo⟩
section
variable {W:Q8}{m:MW}{w:Wo}
def zqp(y y1:Nat)(w0:Wo)(c n:Int)(W:Q8)(f:Nat)(vs:List Va)(w2:Wo):Prop:=
 ∃(V:Q8) (m2:MW) (left:Int),vs=I left::Qa V m2/\Wk 8 [y,y1] w0 w2 V m2/\zdi f c W V left/\zcu c f V left=zr8 W c n
theorem AF{c n:Int}(h:XQ [] w W m)(hl:UN W) :
  Cz TW #[.agg (Qa W m).toArray,I c,I n] w fun e w'=>∃v,e=.returned v/\QL (Yp W (Fm W c n) (zr8 W c n)) w v w':=by
 refine An _ _ _ _ _ _ _ _ _ _ c n (R:=fun v w'=>QL (Yp W (Fm W c n) (zr8 W c n)) w v w') ?_;intro y hy y1 bE;have hm0:=XA;have hlc:=hl.c;refine⟨_,Ua h hl.c hl.t hl.g hl.f,fun g wr hx=>QL.bad (by simpa using g) hx,fun g wr R0 SS=>?_⟩;have hW:Qx W=true:=by simpa using g
 have wp:=Ql.1 hW;refine I3 (Pn (h.ext R0) wp.a) ?_;rintro e wv ⟨m',he,hM,Sn⟩;have hK:=Wk.begin hy bE R0 SS hM Sn;have hr:=hK.rd;refine⟨_,_,_,_,_,_,_,_,_,_,he,Qe Sn SS,_,Qp,fun _=>⟨Qo,Qo⟩,X9 W c,fun _=>Qp,fun g I' R4=>?_,fun g=>?_⟩
 ·have hb:Fm W c n=1:=by
   unfold Fm; rw[C']
   simpa using g
  exact QL.no hW (by rw[hb]; decide) (hK.step R4) hb
 have g:YK n 1 100=true/\X9 W c=true:=by simpa using g
 have hn1:¬(YK n 1 100=false\/X9 W c=false):=by rw[g.1,g.2]; simp
 obtain⟨c0,c1⟩:=VT g.2;have hro:=Kg hr hl;refine⟨hr.c.ix ZP c0 c1,_,hr.c.f c0 c1 (j:=0) rfl,fun g2 I' R4=>?_,fun g2=>⟨_,hro,fun g3 I' R4=>?_,fun g3=>?_⟩⟩
 ·have hb:Fm W c n=6:=by unfold Fm; rw[B' hn1,C' (by simpa using g2)]
  exact QL.no hW (by rw[hb]; decide) (hK.step R4) hb
 ·have g2:(gi W.ID c).up=true:=by simpa using g2
  have aQ:¬QQ W=true:=fun hr=>by
   rw[show JH (XS W/\KY W)=true from Ql.2 ⟨wp,Ql.1 hr⟩] at g3;cases g3
  have hb:Fm W c n=10:=by unfold Fm; rw[B' hn1,B' (by rw[g2]; decide),C' (by simpa using aQ)]
  exact QL.no hW (by rw[hb]; decide) (hK.step R4) hb
 have g2:(gi W.ID c).up=true:=by simpa using g2
 have aQ:QQ W=true:=by
  have hd:JH (XS W/\KY W)=true:=by simpa using g3
  exact Ql.2 (Ql.1 hd).2
 have hb:Fm W c n=0:=by unfold Fm; rw[B' hn1,B' (by rw[g2]; decide),B' (by rw[aQ]; decide)]
 obtain⟨_,_,_,_,hI0⟩:=zvg hW hb;refine⟨fun vs _ w2=>∃(V:Q8) (m2:MW) (K:Int),vs=Qa V m2/\Wk 8 [y,y1] w w2 V m2/\SW K V/\0<=K/\K<=60000000000000000/\Qg V=zr8 W c n,?_,?_⟩
 ·refine⟨fun vs w2=>∃f,zqp y y1 w c n W f vs w2,fun vs w2=>znl fun f=>zqp y y1 w c n W f vs w2,fun wr R4 _=>⟨400,W,m',n,rfl,hK.step R4,hI0,rfl⟩,?_⟩;intro left l0 RO RW Sb RR S5 Sa RY RZ S4 w2 dQ hinv;obtain⟨f0,hf0⟩:∃f0,f0=znl fun f=>zqp y y1 w c n W f [I left,I l0,.slice RO RW Sb,.slice RR S5 Sa,.slice RY RZ S4] w2:=⟨_,rfl⟩
  have hS:=zrq hinv;simp only[<-hf0] at hS ⊢;clear hf0 hinv;obtain⟨V,m2,Cw0,hv,eB,hI,hN⟩:=hS;simp only[Qa,I4,I5,Iv,true_and,and_true] at hv;obtain⟨rfl,rfl,⟨rfl,rfl,rfl⟩,⟨rfl,rfl,rfl⟩,rfl,rfl,rfl⟩:=hv;obtain⟨f,rfl⟩:=zvd hI;have BE9:∀{vs:List Va} {w9:Wo},zqp y y1 w c n W f vs w9->(∃f,zqp y y1 w c n W f vs w9)/\(znl fun f=>zqp y y1 w c n W f vs w9)<f+1:=fun hh=>⟨⟨f,hh⟩,Nat.lt_succ_of_le (zxn hh)⟩
  have sS:=eB.rd;have hf:=hI.f2;have hKu:=Fp hf;have hSu:=zjn hf;have hh0:(0:Int)<=Qj:=Qd;have c1V:=hI.c1;have AM1:=sS.c.ix ZP c0 c1V;refine⟨fun IS=>?_,fun Ry=>?_⟩
  ·have IS:=Ot IS;refine⟨_,zfa sS hI.sw.a c0 c1V,fun gp=>?_,fun gp=>?_⟩
   ·have gp:=Ot gp;rw[zg2 Qo gp] at hN;obtain⟨i1,i2,i3,i4⟩:=zt3 hI;have e1:Zf 8 w.heap.size _ (RM V c (Gd V c left)) m2:=eB.own.AV0 c0 c1V (j:=4) (vs:=[I ((gi V.ID c).idle+left)]) (x:=Gd V c left) rfl Qs;refine⟨AM1,_,sS.c.f c0 c1V (j:=4) rfl,⟨Qo,Qo⟩,AM1,zst eB.own eB.nb c0 c1V (j:=4) Qd,fun Rt SD cJ=>?_⟩;have dB:=(eB.Rl e1 C9).step SD;have Rg:=Zw dB.own c0 (by show c<((V.ID.set c.toNat (Gd V c left)).length:Int); rw[E']; exact c1V);rw[EG] at Rg;refine I3 Rg ?_;rintro e2 Rx ⟨aE,fL⟩;exact⟨_,_,_,_,_,_,_,_,_,_,aE,dB.kept fL cJ,fun RH Sg _=>⟨_,m2,_,rfl,(dB.Sj fL cJ).step Sg,i1,Qo,Qo,hN⟩⟩
   ·have gp:=Ou gp;rw[zg3 Qo gp] at hN;have hR:=zn2 hI IS gp;have t0:=hR.line.t0;have t1:=hR.line.t1;have iX:V.tasks.length=12:=hI.sw.a.t;refine⟨fun _ _ w3=>Wk 8 [y,y1] w w3 (X5 V c (Qt V c)) m2,?_,?_⟩
    ·refine⟨AM1,_,sS.c.f c0 c1V (j:=1) rfl,fun _=>AM1,_,fun _=>sS.c.f c0 c1V (j:=2) rfl,fun g5=>?_,fun g5 Rt SD _=>?_⟩
     ·have g5:Qt V c≠(gi V.ID c).cur\/(gi V.ID c).WH>=50:=by simpa using g5
      have hS:Yv V c (Qt V c)={ gi V.ID c with cur:=Qt V c,WH:=0 }:=by unfold Yv; rw[C' g5]
      have e1:=eB.own.AV0 c0 c1V (j:=1) (vs:=[I (Qt V c)]) (x:={ gi V.ID c with cur:=Qt V c }) rfl Qs;have mG:(V.ID.set c.toNat { gi V.ID c with cur:=Qt V c }).length=V.ID.length:=E';have hg1:gi (V.ID.set c.toNat { gi V.ID c with cur:=Qt V c }) c={ gi V.ID c with cur:=Qt V c }:=(QE _ _ c0 c1V c0).trans (C' rfl);have e2:=e1.AV0 c0 (by simpa using c1V) (j:=2) (vs:=[I 0]) (x:=Yv V c (Qt V c)) (by rw[hg1,hS]; rfl) Qs
      have hW2:({ V with ID:=(V.ID.set c.toNat { gi V.ID c with cur:=Qt V c }).set c.toNat (Yv V c (Qt V c)) }:Q8)=X5 V c (Qt V c):=by
       unfold X5 RM;rw[List.set_set]
      have pI:=eB.Rl e1 C9;have dB:Wk 8 [y,y1] w _ ({ V with ID:=(V.ID.set c.toNat { gi V.ID c with cur:=Qt V c }).set c.toNat (Yv V c (Qt V c)) }:Q8) m2:=pI.Rl e2 C9;rw[hW2] at dB;exact⟨AM1,zst eB.own eB.nb c0 c1V (j:=1) Qd,AM1,zst e1 eB.nb c0 (by show c<((V.ID.set c.toNat { gi V.ID c with cur:=Qt V c }).length:Int); rw[mG]; exact c1V) (j:=2) Qd,fun Rt SD _=>dB.step SD⟩
     ·have g5:¬(Qt V c≠(gi V.ID c).cur\/(gi V.ID c).WH>=50):=by simpa using g5
      have hS:X5 V c (Qt V c)=V:=by
       unfold X5 Yv RM;rw[B' g5,zsc c0 c1V]
      rw[hS];exact eB.step SD
    ·intro dA jO cQ Sf aO hs6;have tE:=cQ.step aO;have hcG:=Le (t:=Qt V c) (tE.rd.less (cs:=[]) Qs) hR.s1.a.tree t0 (by show _<((V.tasks.length:Nat):Int); omega) hR.us;have ecp:Qa (X5 V c (Qt V c)) m2=Qa V m2:=EG _ _ _ _;rw[ecp] at hcG;refine I3 hcG ?_;rintro e3 dJ ⟨pO,pC,iU,hO,hy6⟩;have hO:Uz JI 1 Qb Sf.heap.size dJ pO pC (YN V (Qt V c)):=hO;have iU:e3=.returned (.slice pO (YN V (Qt V c)).length pC):=iU;have hK7:=tE.M' hy6;refine⟨_,_,_,iU,Qe hy6 hs6,fun SZ oZ hs8=>?_⟩;have hK8:=hK7.step oZ
     have B32:∀z∈QI pO,z∉[y,y1]:=fun z hz hm=>by
      have:=(hO.lt z hz).1;have:=hs6 z hm;omega
     have hO8:=hO.ext oZ B32
     have B33:∀z∈QI pO,z∉QR 8 m2:=fun z hz hm=>by
      have:=(hO.lt z hz).1;have:=(tE.own.lt z hm).2;omega
     have hcT:=zfb hK8.own hR.s1 hK8.base hO8 B33 hR.len c0 (by rw[(Fv hI.sw hI.rb c0 c1V hI.up t0 t1).2.2.2.2.2]; exact c1V) hR.pin hR.dr;rw[ecp] at hcT;refine I3 hcT ?_;rintro e4 yN ⟨m3,he4,hy9⟩;have hK9:Wk 8 [y,y1] w yN (YV V c).1 m3:=hK8.Sj hy9 hs8;have hTk:zhi c (YN V (Qt V c)) (X5 V c (Qt V c))=YV V c:=rfl;rw[hTk] at he4 hy9;have hO9:=hO8.ext hy9.ext B33
     have Cj8:∀z∈QI pO,z∉QR 8 m3:=fun z hz hm=>by
      rcases hy9.sub z hm with h1 | h1
      ·exact B33 z hz h1
      ·have:=(hO8.lt z hz).2;omega
     have eC:(YV V c).1.ID=(X5 V c (Qt V c)).ID:=hR.tk.o.c;have lT:(YV V c).1.ID.length=V.ID.length:=by rw[eC]; exact(Fv hI.sw hI.rb c0 c1V hI.up t0 t1).2.2.2.2.2
     have cT:c<((YV V c).1.ID.length:Int):=by rw[lT]; exact c1V
     have e9:Qa (YV V c).1 m3=Qa V m2:=by
      rw[hy9.AJ1 (W0:=X5 V c (Qt V c)) hR.tk.o.n (by rw[eC]) (by rw[hR.tk.o.t]) hR.tk.o.g.len];exact ecp
     have rT:RB (BY (f+1)) (YV V c).1:=hR.r1.sum hR.tk.su hR.tk.o.g (by rw[eC]);have eT:(YV V c).1.tasks=V.tasks:=hR.tk.o.t;have eG:Z2 V.IC (YV V c).1.IC:=hR.tk.o.g;have pT:YN (YV V c).1 (Qt V c)=YN V (Qt V c):=zjj eT eG _;have uT:Q6 (YV V c).1.IC (Q7 (YV V c).1 (Qt V c)).group=true:=by rw[eG.cK,Ja eT]; exact hR.us
     have upT:(gi (YV V c).1.ID c).up=true:=by rw[eC]; exact(Fv hI.sw hI.rb c0 c1V hI.up t0 t1).2.2.1
     have BB3:(gi (YV V c).1.ID c).WH<50:=by rw[eC]; exact hR.WH
     have hnx:=hR.nx;refine⟨_,_,_,_,_,_,_,_,_,_,_,he4,hK8.kept hy9 hs8,fun gt Sd yX mH=>?_,fun gt=>?_⟩
     ·have gt:¬(YV V c).2=true:=by simpa using gt
      have hRW:Fl V c left=(Qg (Rn (YV V c).1 c),left):=by unfold Fl; rw[B' gt]
      rw[hRW] at hnx hN;have AB4:=hK9.step yX;have hcE:=Zw AB4.own c0 cT;rw[e9] at hcE;refine I3 hcE ?_;rintro e5 mT ⟨he5,BO8⟩;refine⟨_,_,_,_,_,_,_,_,_,_,he5,AB4.kept BO8 mH,fun Si uB AM5=>?_⟩;have Au2:=(AB4.Sj BO8 mH).step uB;refine I3 (Qv Au2.own (hR.tk.sw.Rn c0 cT) Qo Qo Au2.base) ?_;rintro e6 tL ⟨m4,he6,B50⟩;generalize Qg (Rn (YV V c).1 c)=V9 at he6 B50 hnx hN;exact⟨_,_,_,_,_,_,_,_,_,_,he6,Au2.kept B50 AM5,fun Wn A81 _=>BE9 ⟨V9,m4,left,rfl,(Au2.Sj B50 AM5).step A81,hnx,hN⟩⟩
     ·have gt:(YV V c).2=true:=by simpa using gt
      have hRW:Fl V c left=(Qg (PD (YV V c).1 c (Qt V c) (UK V c left)),left-UK V c left):=by unfold Fl; rw[C' gt]
      rw[hRW] at hnx hN;obtain⟨m1,m2'⟩:=hR.m gt;have mG:=hI.l1;have hcM:=ze8 (n:=left) hK9.rd hR.tk.sw.a (hO9.rd YT.len B32) (pC:=pC) hR.len c0 cT (fun z hz=>by rw[eG.cK]; exact hR.pin z hz);rw[e9] at hcM;refine⟨_,hcM,fun Sd yX mH=>?_⟩;have AB4:=hK9.step yX;have Cd9:Uz JI 1 Qb Sf.heap.size Sd pO pC (YN (YV V c).1 (Qt V c)):=by rw[pT]; exact hO9.ext yX B32
      have hcC:=AL (t:=Qt V c) (n:=UK V c left) AB4.own AB4.base Cd9 Cj8 hR.tk.sw rT ⟨Qo,Qo⟩ ⟨Qo,Qo⟩ c0 cT upT BB3 t0 t1 uT Qo Qo;rw[e9,pT] at hcC;refine I3 hcC ?_;rintro e7 mT ⟨m4,he7,BO8⟩;generalize Qg (PD (YV V c).1 c (Qt V c) (UK V c left))=V9 at he7 BO8 hnx hN;exact⟨_,_,_,_,_,_,_,_,_,_,he7,AB4.kept BO8 mH,⟨by show _<=left-UK V c left; omega,by show left-UK V c left<=_; omega⟩,fun Si uB _=>BE9 ⟨V9,m4,left-UK V c left,rfl,(AB4.Sj BO8 mH).step uB,hnx,hN⟩⟩
  ·have Ry:=Ou Ry;rw[zls Qo] at hN;exact fun Rt SD _=>⟨V,m2,_,rfl,eB.step SD,hI.sw,Qo,Qo,hN⟩
 ·rintro a0 a1O a1L a1C a2O a2L a2C a3O a3L a3C w2 dQ ⟨V,m2,K,hv,eB,sw,k0,k1,hN⟩ Rt SD cJ;simp only[Qa,I4,I5,Iv,true_and,and_true] at hv;obtain⟨rfl,⟨rfl,rfl,rfl⟩,⟨rfl,rfl,rfl⟩,rfl,rfl,rfl⟩:=hv;have dB:=eB.step SD;refine I3 (Qv dB.own sw k0 Qo dB.base) ?_;rintro e3 S6 ⟨m3,iU,hy5⟩;rw[hN] at iU hy5;exact⟨_,_,_,_,_,_,_,_,_,_,iU,dB.kept hy5 cJ,fun SZ oZ=>QL.ok hW hb ((dB.Sj hy5 cJ).step oZ)⟩
end
def cO:Code->Code
 | .loop c=>c
 | c=>c
theorem zm5{W:Q8}{g c:Int}(h:¬QU W g c<0):Zr W g c 20=true/\Z0 W g c 20=Ze W c (QU W g c).toNat:=by
 unfold Zr Z0;unfold QU at h ⊢;rw[B' h];exact⟨Ih Qo,rfl⟩
theorem zuw{W:Q8}(ha:WA W)(fl:z1y W){c:Int}(c0:0<=c)(c1:c<(W.ID.length:Int))(f:Nat):∀g:Int,Q6 W.IC g=true->(4-dep 3 W.IC g).toNat=f->(∀x∈Z7 W.IC g,(Qc W x c).v<=(Qc W (gi W.IC x).parent c).floor)->0<=Km W g c->
  (Q7 W (Km W g c)).v<=(Qc W (Q7 W (Km W g c)).group c).floor/\∀x∈Z7 W.IC (Q7 W (Km W g c)).group,(Qc W x c).v<=(Qc W (gi W.IC x).parent c).floor:=by
 induction f with
 | zero=>
  intro g hu hf;have:=LY ha hu;omega
 | succ f ih=>
  intro g hu hf hp h;rw[BI ha hu] at h ⊢
  by_cases h1:QU W g c<0
  ·rw[C' h1] at h; omega
  ·rw[B' h1] at h ⊢;obtain⟨b1,b2⟩:=zm5 h1;have pK:=fl g c hu c0 c1 b1;rw[b2] at pK
   by_cases h2:QU W g c<12
   ·rw[C' h2] at h ⊢
    have hm:Zk W g c (QU W g c).toNat=true:=by
     rcases Zo (Zk W g c) (Ze W c) 20 with ⟨a,_⟩ | ⟨_,_,a,_⟩
     ·unfold QU at h1; omega
     ·exact a
    rw[UJ Qo] at hm;unfold OD at hm;rw[show (((QU W g c).toNat:Nat):Int)=QU W g c by omega] at hm;simp only[A',Is] at hm;unfold Ze at pK;rw[C' Qo,show (((QU W g c).toNat:Nat):Int)=QU W g c by omega] at pK;rw[show (Q7 W (QU W g c)).group=g from hm.1.2];exact⟨pK,hp⟩
   ·rw[B' h2] at h ⊢;obtain⟨k1,k2,k3,k4⟩:=H2 ha hu (g:=g) (c:=c) Qo
    have hm:Zk W g c (QU W g c).toNat=true:=by
     rcases Zo (Zk W g c) (Ze W c) 20 with ⟨a,_⟩ | ⟨_,_,a,_⟩
     ·unfold QU at h1; omega
     ·exact a
    rw[show (QU W g c).toNat=12+(QU W g c-12).toNat by omega,JK] at hm;unfold XW at hm;rw[show (((QU W g c-12).toNat:Nat):Int)=QU W g c-12 by omega] at hm;simp only[A',Is] at hm;unfold Ze at pK;rw[B' Qo,show (((QU W g c).toNat-12:Nat):Int)=QU W g c-12 by omega] at pK;refine ih _ k1 Qo (fun x hx=>?_) h;rw[Yz ha.tree k1 k2] at hx;rcases Ii.1 hx with e | e
    ·rw[e,hm.1.2.2]; exact pK
    ·rw[hm.1.2.2] at e; exact hp x e
structure z0u (W:Q8) (c t WH:Int):Prop where
 r0:0<=WH
 r1:WH<50
 t1:(Q7 W t).v-(Qc W (Q7 W t).group c).floor<=Za WH (Qf (Q7 W t).nice)
 t2:(Qc W (Q7 W t).group c).floor<=(Q7 W t).v
 p1:∀x∈Z7 W.IC (Q7 W t).group,(Qc W x c).v-(Qc W (gi W.IC x).parent c).floor<=Za WH (Qc W x c).w
 p2:∀x∈Z7 W.IC (Q7 W t).group,(Qc W (gi W.IC x).parent c).floor<=(Qc W x c).v
theorem zwn{W:Q8}(iv:Jc W){c:Int}(c0:0<=c)(c1:c<(W.ID.length:Int))(hl:zoo W (Qt W c) c)(hp:¬Qt W c<0):z0u W c (Qt W c) (gi (X5 W c (Qt W c)).ID c).WH:=by
 have wp:=iv.wp;have p:=Xm wp;have h:=Ok p hl.t0 hl.t1 (by rw[hl.st]; decide);have e:gi (X5 W c (Qt W c)).ID c=Yv W c (Qt W c):=(QE _ _ c0 c1 c0).trans (C' rfl)
 have t2:(Qc W (Q7 W (Qt W c)).group c).floor<=(Q7 W (Qt W c)).v:=by
  have:=(h.f hl.st).1
  rwa[hl.IZ] at this
 have p2:∀x∈Z7 W.IC (Q7 W (Qt W c)).group,(Qc W (gi W.IC x).parent c).floor<=(Qc W x c).v:=fun x hx=>by
  obtain⟨xu,xz⟩:=YE wp.a.tree _ h.g x hx;exact((p.s x c xu c0 c1).st xz (hl.on x hx)).1
 rw[e]
 by_cases hc:(gi W.ID c).cur>=0/\(gi W.ID c).WH<50
 ·have hpk:Qt W c=(gi W.ID c).cur:=by unfold Qt; rw[C' hc]
  have hs:Yv W c (Qt W c)=gi W.ID c:=by
   unfold Yv;rw[B'];rintro (h | h)
   ·exact h hpk
   ·omega
  rw[hs];have hy:=(p.c c c0 c1).yes hc.1;have hq:=(p.c c c0 c1).q hc.1 (by rw[<-hpk]; exact hl.st) (by rw[<-hpk]; exact hl.IZ);rw[<-hpk] at hq;exact⟨Qo,hc.2,hq.1,t2,fun x hx=>(hq.2 x hx).2,p2⟩
 ·have hpk:Qt W c=Km W 0 c:=by unfold Qt; rw[B' hc]
  have hs:(Yv W c (Qt W c)).WH=0:=by
   unfold Yv;rw[C']
   by_cases h0:(gi W.ID c).cur>=0
   ·exact .inr Qo
   ·exact .inl Qo
  rw[hs];have hn:=zuw wp.a iv.fl c0 c1 _ 0 wp.a.root rfl (fun x hx=>by rw[show Z7 W.IC 0=[] from Zl _ _] at hx; cases hx) (by rw[<-hpk]; omega);rw[<-hpk] at hn;have v0:∀w:Int,0<=Za 0 w:=fun w=>(GT 0 w).1
  refine⟨I2 _,Qd,?_,t2,fun x hx=>?_,p2⟩
  ·have:=v0 (Qf (Q7 W (Qt W c)).nice);have:=hn.1;omega
  ·have:=v0 (Qc W x c).w;have:=hn.2 x hx;omega
theorem zu2{gs:List ZO}(ht:Y5 gs):∀g:Int,Q6 gs g=true->∀x∈Z7 gs g,dep 3 gs x<=dep 3 gs g:=
 M6 ht (fun x hx=>by rw[show Z7 gs 0=[] from Zl _ _] at hx; cases hx) fun h hu hz ih x hx=>by
  rw[Yz ht hu hz] at hx;rcases Ii.1 hx with e | e
  ·subst e; exact I2 _
  ·obtain⟨_,_,_,d,e1,e2,_⟩:=Y6 ht hu hz;have:=ih x e;omega
theorem zx1{gs:List ZO}(ht:Y5 gs):∀g:Int,Q6 gs g=true->(Z7 gs g++[0]).Nodup:=
 M6 ht (by rw[show Z7 gs 0=[] from Zl _ _]; simp) fun h hu hz ih=>by
  rw[Yz ht hu hz,List.cons_append,List.nodup_cons];refine⟨fun hm=>?_,ih⟩;rcases Im.1 hm with hm | hm
  ·obtain⟨hp,_,_,d,e1,e2,_⟩:=Y6 ht hu hz;have:=zu2 ht _ hp h hm;omega
  ·exact hz (Iz.1 hm)
theorem zwq{W:Q8}{c n g:Int}(bM:W.IC.length=8)(u0:0<=g)(u1:g<8)(c0:0<=c)(cs:c<((gi W.IC g).IE.length:Int))(i d:Int)(hi:0<=i)(hd:0<=d):Qc (zad W c n g) i d=if g=i/\c=d then Ck W c n g else Qc W i d:=by
 rw[<-Uv (W:=W) (s:=Ck W c n g) u0 Qo c0 cs hi hd];have hl2:g<((LS W c n g).IC.length:Int):=by rw[GZ]; omega
 have mG:g<((Rf (LS W c n g) g (Nd W c n g)).IC.length:Int):=by simp only[Rf,E']; rw[GZ]; omega
 unfold Qc;show gi (gi (zad W c n g).IC i).IE d=gi (gi (LS W c n g).IC i).IE d;unfold zad RI;rw[YY u0 mG hi,YY u0 hl2 hi,YY u0 hl2 u0,C' rfl];split
 ·rename_i e;subst e;rfl
 ·rfl
theorem zwr{K S c n:Int}(c0:0<=c)(n0:0<=n)(n1:n<=100):∀(l:List Int) {W:Q8},l.Nodup->SW K W->RB S W->S+100*(l.length:Int)<=100000000000000000->c<(W.ID.length:Int)->(∀g∈l,Q6 W.IC g=true)->
  ∀i d:Int,0<=i->0<=d->Qc (zh7 c n l W) i d=if i∈l/\c=d then Ck W c n i else Qc W i d:=by
 intro l
 induction l generalizing K S with
 | nil=>
  intro W _ _ _ _ _ _ i d _ _;rw[B' Qs]; rfl
 | cons g l ih=>
  intro W nd sw rb hS c1 hu i d hi hd;rw[List.length_cons] at hS;have hug:=hu g I9;obtain⟨u0,u1,_⟩:=sw.a.u hug;have hsl:=sw.a.sl hug;have h1:=zmv sw rb Qo c0 c1 hug n0 n1;obtain⟨hng,ndl⟩:=List.nodup_cons.1 nd;have e:=zwq (n:=n) sw.a.gl u0 u1 c0 Qo;rw[zkb,ih ndl h1.sw (h1.rb.mono (show S+n<=S+100 by omega)) Qo (by rw[h1.cp]; exact c1) (fun x hx=>by rw[h1.g.cK]; exact hu x (I1 _ hx)) i d hi hd]
  by_cases hil:i∈l
  ·have hgi:g≠i:=fun h=>hng (h▸hil)
   by_cases hcd:c=d
   ·rw[C' ⟨hil,hcd⟩,C' ⟨I1 _ hil,hcd⟩];unfold Ck;rw[e i c hi c0,B' fun h=>hgi h.1]
   ·rw[B' fun h=>hcd h.2,B' fun h=>hcd h.2,e i d hi hd,B' fun h=>hcd h.2]
  ·rw[B' fun h=>hil h.1,e i d hi hd]
   by_cases hgi:g=i
   ·subst hgi
    by_cases hcd:c=d
    ·rw[C' ⟨rfl,hcd⟩,C' ⟨I9,hcd⟩]
    ·rw[B' fun h=>hcd h.2,B' fun h=>hcd h.2]
   ·rw[B' fun h=>hgi h.1,B'];rintro⟨hm,_⟩;rcases Ii.1 hm with h | h
    ·exact hgi h.symm
    ·exact hil h
theorem zqj{a b w:Int}(ha:0<=a)(hb:0<=b)(h:a+b<=149)(w1:1<=w)(w2:w<=20):Za (a+b) w=Za a w+Za b w/\Za a w+Za b w<=ZD w:=by
 have e1:=zhk ha hb Qo w1 w2;have e2:=zhk (a:=a+b) (b:=149-(a+b)) (w:=w) Qo Qo Qo w1 w2;rw[show a+b+(149-(a+b))=149 by omega] at e2;have:=(GT (149-(a+b)) w).1;unfold ZD;omega
structure z13 (V T:Q8) (c t:Int):Prop where
 tk:T.tasks=V.tasks
 g:Z2 V.IC T.IC
 s:∀i:Int,0<=i->(gi T.IC i).IE=(gi V.IC i).IE
 cp:∀d:Int,0<=d->gi T.ID d=if c=d then Yv V c t else gi V.ID d
 l:T.ID.length=V.ID.length
theorem zzh{K S:Int}{V T:Q8}{c t m:Int}(iv:Jc V)(hM:z13 V T c t)(sw:SW K T)(rb:RB S T)(hS:0<=S/\S+500<=100000000000000000)(c0:0<=c)(c1:c<(V.ID.length:Int))(up:(gi V.ID c).up=true)(t0:0<=t)(t1:t<12)(kW:(Q7 V t).state=1)(jN:(Q7 V t).IZ=c)(pJ:(Yv V c t).cur=t)(hb:z0u V c t (Yv V c t).WH)(m0:1<=m)(m1:m<=100):Tm (PD T c t m):=by
 have wp:=iv.wp;have p:=Xm wp;have hht:=Ok p t0 t1 (by rw[kW]; decide);have bM:=wp.a.gl;have iX:=wp.a.t;have c1T:c<(T.ID.length:Int):=by rw[hM.l]; exact c1
 have eTc:gi T.ID c=Yv V c t:=(hM.cp c c0).trans (C' rfl);have upT:(gi T.ID c).up=true:=by rw[eTc]; unfold Yv; split <;> exact up
 have BB3:(gi T.ID c).WH<50:=by rw[eTc]; exact hb.r1
 have hg:Q6 V.IC (Q7 V t).group=true:=hht.g;have huT:Q6 T.IC (Q7 T t).group=true:=by rw[hM.g.cK,Ja hM.tk]; exact hg
 have pT:YN T t=YN V t:=zjj hM.tk hM.g t;obtain⟨sE,rE,_,_,hlE,_,s1,r1,cp1⟩:=zh8 sw rb hS.2 c0 c1T upT BB3 t0 t1 huT Qo m1;obtain⟨pin,B58⟩:=Cu sw.a huT;have hTG:Z2 V.IC (PD T c t m).IC:=hM.g.trans cp1.g;have shT:∀i d:Int,0<=i->Qc T i d=Qc V i d:=fun i d hi=>by unfold Qc; rw[hM.s i hi]
 have hnd:(YN T t).Nodup:=by rw[pT]; exact zx1 wp.a.tree _ hg
 have eS:∀i d:Int,0<=i->0<=d->Qc (PD T c t m) i d=if i∈YN V t/\c=d then Ck V c m i else Qc V i d:=fun i d hi hd=>by
  have e:=zwr c0 Qo m1 (YN T t) hnd s1 r1 Qo c1T pin i d hi hd;have e':Qc (PD T c t m) i d=if i∈YN T t/\c=d then Ck T c m i else Qc T i d:=e;rw[e',pT,shT i d hi];have:Ck T c m i=Ck V c m i:=by unfold Ck; rw[shT i c hi]
  rw[this]
 have fF:∀i d:Int,0<=i->0<=d->(Qc (PD T c t m) i d).floor=(Qc V i d).floor:=fun i d hi hd=>by
  rw[eS i d hi hd]; split
  ·rename_i h; rw[<-h.2]; rfl
  ·rfl
 have fO:∀i d:Int,0<=i->0<=d->(Qc (PD T c t m) i d).on=(Qc V i d).on:=fun i d hi hd=>by
  rw[eS i d hi hd]; split
  ·rename_i h; rw[<-h.2]; rfl
  ·rfl
 have fW:∀i d:Int,0<=i->0<=d->(Qc (PD T c t m) i d).w=(Qc V i d).w:=fun i d hi hd=>by
  rw[eS i d hi hd]; split
  ·rename_i h; rw[<-h.2]; rfl
  ·rfl
 have fV:∀i d:Int,0<=i->0<=d->¬(i∈Z7 V.IC (Q7 V t).group/\c=d)->(Qc (PD T c t m) i d).v=(Qc V i d).v:=fun i d hi hd hn=>by
  rw[eS i d hi hd]; split
  ·rename_i h
   have hz:¬i≠0:=fun hz=>by
    rcases Im.1 h.1 with h' | h'
    ·exact hn ⟨h',h.2⟩
    ·exact hz (Iz.1 h')
   rw[<-h.2];show (if i≠0 then _ else _)=_;rw[B' hz]
  ·rfl
 have fP:∀i:Int,i∈Z7 V.IC (Q7 V t).group->(Qc (PD T c t m) i c).v=(Qc V i c).v+Za m (Qc V i c).w:=fun i hi=>by
  obtain⟨iu,iz⟩:=YE wp.a.tree _ hg i hi;rw[eS i c (Q4.1 iu).1 c0,C' ⟨Ia _ hi,rfl⟩];show (if i≠0 then _ else _)=_;rw[C' iz]
 have eK:∀i:Int,0<=i->Q7 (PD T c t m) i=if t=i then LU V t m else Q7 V i:=fun i hi=>by
  have h1:Q7 (PD T c t m) i=gi (T.tasks.set t.toNat (LU T t m)) i:=by
   show gi (zh7 c m (YN T t) (IT T t (LU T t m))).tasks i=_;rw[cp1.t]; rfl
  have h2:LU T t m=LU V t m:=by unfold LU; rw[Ja hM.tk]
  rw[h1,QE _ _ t0 (by rw[hM.tk]; omega) hi,h2];split
  ·rfl
  ·exact Ja hM.tk i
 have eC:∀d:Int,0<=d->gi (PD T c t m).ID d=if c=d then zoz T c m else gi V.ID d:=fun d hd=>by
  have h1:gi (PD T c t m).ID d=gi (T.ID.set c.toNat (zoz T c m)) d:=by
   show gi ((zh7 c m (YN T t) (IT T t (LU T t m))).ID.set c.toNat (zoz T c m)) d=_;rw[cp1.cp]; rfl
  rw[h1,QE _ _ c0 c1T hd];split
  ·rfl
  ·rename_i h;rw[hM.cp d hd,B' h]
 have wn:1<=Qf (Q7 V t).nice/\Qf (Q7 V t).nice<=20:=by
  have:=Jb (Q7 V t).nice;have:=hht.n;omega
 have hv0:∀w:Int,0<=Za m w:=fun w=>(GT m w).1
 have Cl2:∀i d:Int,Q6 V.IC i=true->0<=d->d<(V.ID.length:Int)->1<=(Qc V i d).w/\(Qc V i d).w<=20:=fun i d hu d0 d1=>by
  have:=DT wp hu d0 d1;exact⟨this.w1,this.w2⟩
 have vt:=zqj hb.r0 (show 0<=m by omega) (by have:=hb.r1; omega) wn.1 wn.2
 have vp:∀i:Int,i∈Z7 V.IC (Q7 V t).group->Za ((Yv V c t).WH+m) (Qc V i c).w=Za (Yv V c t).WH (Qc V i c).w+Za m (Qc V i c).w/\Za (Yv V c t).WH (Qc V i c).w+Za m (Qc V i c).w<=ZD (Qc V i c).w:=fun i hi=>by
  have h:=Cl2 i c (YE wp.a.tree _ hg i hi).1 c0 c1;exact zqj hb.r0 (show 0<=m by omega) (by have:=hb.r1; omega) h.1 h.2
 have Bo8:∀i:Int,Q6 V.IC i=true->i≠0->0<=(gi V.IC i).parent:=fun i hu hz=>(Q4.1 (Y6 wp.a.tree hu hz).1).1
 have CK9:∀i:Int,i∈Z7 V.IC (Q7 V t).group->VD (PD T c t m) i c:=fun i hi=>by
  obtain⟨iu,iz⟩:=YE wp.a.tree _ hg i hi;have i0:=(Q4.1 iu).1;unfold VD;rw[hTG.p,fF _ c (Bo8 i iu iz) c0,fP i hi,fW i c i0 c0];have h1:=hb.p1 i hi;have h2:=hb.p2 i hi;have h3:=vp i hi;have:=hv0 (Qc V i c).w;omega
 refine⟨⟨sE.a,fun i a b=>?_,fun i a b n=>?_,fun k d hk d0 d1=>?_⟩,fun d d0 d1=>?_⟩
 ·have hrt:=rE.t i a b;rw[eK i a] at hrt ⊢;split
  ·rename_i he;rw[C' he] at hrt;refine .inr ⟨by show (Q7 V t).state≠0; rw[kW]; decide,hht.st,by rw[hTG.cK]; exact hg,hht.n,hht.m,hht.m0,YZ.2 ⟨hrt.1,Qo⟩,YZ.2 ⟨hrt.2.2.1,Qo⟩,hht.l1,hht.l2,fun _=>?_⟩;show (Qc (PD T c t m) (Q7 V t).group (Q7 V t).IZ).floor<=(Q7 V t).v+Za m (Qf (Q7 V t).nice)/\(Q7 V t).v+Za m (Qf (Q7 V t).nice)-(Qc (PD T c t m) (Q7 V t).group (Q7 V t).IZ).floor<=ZD (Qf (Q7 V t).nice);rw[jN,fF _ c (Q4.1 hg).1 c0];have:=hb.t1;have:=hb.t2;have:=hv0 (Qf (Q7 V t).nice);omega
  ·rcases p.t i a b with h | ⟨h1,h2⟩
   ·exact .inl h
   ·refine .inr ⟨h1,h2.st,by rw[hTG.cK]; exact h2.g,h2.n,h2.m,h2.m0,h2.s,h2.u,h2.l1,h2.l2,fun hs=>?_⟩;rw[fF _ _ (Q4.1 h2.g).1 (p.l i a b h1).1];exact h2.f hs
 ·rw[hlE,hM.l];rw[eK i a] at n ⊢;split
  ·show 0<=(Q7 V t).IZ/\(Q7 V t).IZ<_;rw[jN]; exact⟨c0,c1⟩
  ·rename_i he;rw[B' he] at n;exact p.l i a b n
 ·have hrs:=rE.s k d hk d0 d1;rw[hTG.cK] at hk;rw[hlE,hM.l] at d1;have k0:=(Q4.1 hk).1;have hp:=p.s k d hk d0 d1;refine⟨YZ.2 ⟨hrs.1,Qo⟩,fun hz=>?_,fun hz ho=>?_⟩
  ·have h:=hp.root hz;rw[fO k d k0 d0,fW k d k0 d0,fV k d k0 d0 fun h=>(YE wp.a.tree _ hg k h.1).2 hz];exact h
  ·rw[fO k d k0 d0] at ho
   by_cases sR:k∈Z7 V.IC (Q7 V t).group/\c=d
   ·obtain⟨h1,rfl⟩:=sR;exact CK9 k h1
   ·have h:=hp.st hz ho;unfold VD at h ⊢;rw[hTG.p,fF _ d (Bo8 k hk hz) d0,fV k d k0 d0 sR,fW k d k0 d0];exact h
 ·have hrc:=rE.c d d0 d1;rw[hlE,hM.l] at d1
  by_cases hd:c=d
  ·subst hd;have e:=(eC c c0).trans (C' rfl);have Cb7:(gi (PD T c t m).ID c).cur=t:=by rw[e]; show (gi T.ID c).cur=t; rw[eTc]; exact pJ
   have Cc0:(gi (PD T c t m).ID c).WH=(Yv V c t).WH+m:=by rw[e]; show (gi T.ID c).WH+m=_; rw[eTc]
   have aQ:=hb.r0;have tQ:=hb.r1;refine⟨YZ.2 ⟨hrc.1,Qo⟩,YZ.2 ⟨hrc.2.2.1,by have:=hrc.2.2.2.1; omega⟩,Qo,Qo,fun h0=>by omega,fun _=>⟨by rw[e]; exact upT,Qo,Qo⟩,fun _ _ _=>?_⟩;rw[Cb7,Cc0,eK t t0,C' rfl];refine⟨?_,fun x hx=>?_⟩
   ·show (Q7 V t).v+Za m (Qf (Q7 V t).nice)-(Qc (PD T c t m) (Q7 V t).group c).floor<=Za ((Yv V c t).WH+m) (Qf (Q7 V t).nice);rw[fF _ c (Q4.1 hg).1 c0,vt.1];have:=hb.t1;omega
   ·have hx:x∈Z7 (PD T c t m).IC (Q7 V t).group:=hx;rw[Tk hTG] at hx;obtain⟨xu,xz⟩:=YE wp.a.tree _ hg x hx;refine⟨CK9 x hx,?_⟩;rw[hTG.p,fF _ c (Bo8 x xu xz) c0,fP x hx,fW x c (Q4.1 xu).1 c0,(vp x hx).1];have:=hb.p1 x hx;omega
  ·have e:=(eC d d0).trans (B' hd);have h:=p.c d d0 d1;refine⟨by rw[e]; exact h.b,by rw[e]; exact h.i,by rw[e]; exact h.c1,by rw[e]; exact h.c2,by rw[e]; exact h.no,by rw[e]; exact h.yes,?_⟩;rw[e];intro h0 h1 h2;rw[eK _ h0] at h1 h2 ⊢
   by_cases ht:t=(gi V.ID d).cur
   ·rw[C' ht] at h2;have h2:(Q7 V t).IZ=d:=h2;exact Ir (jN.symm.trans h2) hd
   ·rw[B' ht] at h1 h2 ⊢;obtain⟨q1,q2⟩:=h.q h0 h1 h2;have jA:=(Ok p h0 h.c2 (by rw[h1]; decide)).g;refine⟨by rw[fF _ d (Q4.1 jA).1 d0]; exact q1,fun x hx=>?_⟩;rw[Tk hTG] at hx;obtain⟨xu,xz⟩:=YE wp.a.tree _ jA x hx;have x0:=(Q4.1 xu).1;have:=q2 x hx;unfold VD at this ⊢;rw[hTG.p,fF _ d (Bo8 x xu xz) d0,fV x d x0 d0 fun h=>hd h.2,fW x d x0 d0];exact this
theorem zyc(W:Q8)(c n g:Int):VL W (zad W c n g):=
 ((zc4 W g c (Ck W c n g)).trans (zob (W:=LS W c n g) (g:=g) (x:=Nd W c n g) rfl rfl rfl rfl rfl)).trans (zoa _ _ _)
theorem zp7(c n:Int):∀(l:List Int) (W:Q8),VL W (zh7 c n l W)
 | [],W=>VL.refl _
 | g::l,W=>(zyc W c n g).trans (zp7 c n l _)
theorem zp8(W:Q8)(c g:Int):VL W (CB W c g).1:=by
 unfold CB;split
 ·exact VL.refl _
 ·exact zoa _ _ _
theorem zp9(c:Int):∀(l:List Int) (W:Q8),VL W (zhi c l W).1
 | [],W=>VL.refl _
 | g::l,W=>by
  simp only[zhi];split
  ·exact(zp8 W c g).trans (zp9 c l _)
  ·exact zp8 W c g
theorem zvo(W:Q8)(c t:Int):VL W (X5 W c t):=zjq (by unfold Yv; split <;> rfl)
theorem zq6(W:Q8)(c t:Int):XU (Yv W c t)=XU (gi W.ID c):=by unfold Yv; split <;> rfl
theorem zw3{f:Nat}{c left:Int}{W0 V:Q8}(h:zdi f c W0 V left)(iv:Jc V):Jc (Qg (Rn (RM V c (Gd V c left)) c)):=by
 have p:=Xm iv.wp;have c0:=h.c0;have c1:=h.c1;have hK:=Fp h.f2;have hh0:(0:Int)<=Qj:=Qd;have kW:UL=173430457200:=rfl;obtain⟨sE,s1,i3,i4⟩:=zt3 h;have hl:(RM V c (Gd V c left)).ID.length=V.ID.length:=E'
 have hP:Tm (RM V c (Gd V c left)):=by
  refine⟨⟨s1.a,fun t t0 t1=>(p.t t t0 t1).imp id fun h=>⟨h.1,h.2.gr rfl⟩,fun t t0 t1 n=>?_,fun k d hk d0 d1=>?_⟩,fun d d0 d1=>?_⟩
  ·rw[hl]; exact p.l t t0 t1 n
  ·rw[hl] at d1; exact(p.s k d hk d0 d1).BY2 rfl fun _=>rfl
  ·rw[hl] at d1;have hd:=p.c d d0 d1;have e:gi (RM V c (Gd V c left)).ID d=if c=d then Gd V c left else gi V.ID d:=QE _ _ c0 c1 d0
   by_cases he:c=d
   ·subst he;have e:=e.trans (C' rfl);exact⟨by rw[e]; exact hd.b,by rw[e]; exact YZ.2 ⟨i3,by show (gi V.ID c).idle+left<=_; omega⟩,by rw[e]; exact hd.c1,by rw[e]; exact hd.c2,by rw[e]; exact hd.no,by rw[e]; exact hd.yes,by rw[e]; exact hd.q⟩
   ·have e:=e.trans (B' he);exact⟨by rw[e]; exact hd.b,by rw[e]; exact hd.i,by rw[e]; exact hd.c1,by rw[e]; exact hd.c2,by rw[e]; exact hd.no,by rw[e]; exact hd.yes,by rw[e]; exact hd.q⟩
 exact Zu sE Qo Qo (hP.Rn c0 (by rw[hl]; exact c1)) (((zjq (W:=V) (c:=c) (x:=Gd V c left) rfl).loc rfl (UI iv.wp)).Rn _)
theorem zx8{f:Nat}{c left:Int}{W0 V:Q8}(h:zdi (f+1) c W0 V left)(iv:Jc V)(hl:0<left)(hp:¬Qt V c<0):Jc (Fl V c left).1:=by
 have hR:=zn2 h hl hp;have c0:=h.c0;have c1:=h.c1;have hK:=Fp h.f2;have hSu:=zjn h.f2;have hh0:(0:Int)<=Qj:=Qd;have kW:UL=173430457200:=rfl;have hlg:Qi=34686091440:=rfl;have t0:=hR.line.t0;have t1:=hR.line.t1;obtain⟨q1,q2,q3,q4,q5,q6⟩:=Fv h.sw h.rb c0 c1 h.up t0 t1;have eC:(YV V c).1.ID=(X5 V c (Qt V c)).ID:=hR.tk.o.c;have lT:(YV V c).1.ID.length=V.ID.length:=by rw[eC]; exact q6
 have cT:c<((YV V c).1.ID.length:Int):=by rw[lT]; exact c1
 have rT:RB (BY (f+1)) (YV V c).1:=hR.r1.sum hR.tk.su hR.tk.o.g (by rw[eC]);have eT:(YV V c).1.tasks=V.tasks:=hR.tk.o.t;have eG:Z2 V.IC (YV V c).1.IC:=hR.tk.o.g;have eN:(YV V c).1.now=V.now:=hR.tk.o.n;have eSh:∀i:Int,0<=i->(gi (YV V c).1.IC i).IE=(gi V.IC i).IE:=hR.tk.o.s;have sT:VL V (YV V c).1:=(zvo V c (Qt V c)).trans (zp9 c _ _);have lcT:CE (YV V c).1:=sT.loc eT (UI iv.wp)
 have eCp:∀d:Int,0<=d->gi (YV V c).1.ID d=if c=d then Yv V c (Qt V c) else gi V.ID d:=fun d hd=>by
  rw[eC]; exact QE _ _ c0 c1 hd
 have hRW:Fl V c left=if (YV V c).2=true then (Qg (PD (YV V c).1 c (Qt V c) (UK V c left)),left-UK V c left) else (Qg (Rn (YV V c).1 c),left):=rfl;rw[hRW]
 by_cases gt:(YV V c).2=true
 ·rw[C' gt];obtain⟨m1,m2⟩:=hR.m gt;obtain⟨sC,rC⟩:=hR.ch gt;have mG:=h.l1;have hb:=zwn iv c0 c1 hR.line hp;have es:gi (X5 V c (Qt V c)).ID c=Yv V c (Qt V c):=(QE _ _ c0 c1 c0).trans (C' rfl);rw[es] at hb q5;have hP:Tm (PD (YV V c).1 c (Qt V c) (UK V c left)):=zzh iv ⟨eT,eG,eSh,eCp,lT⟩ hR.tk.sw rT ⟨Qo,Qo⟩ c0 c1 h.up t0 t1 hR.line.st hR.line.IZ q5 hb m1 Qo;refine Zu sC Qo Qo hP ?_;have uT:Q6 (YV V c).1.IC (Q7 (YV V c).1 (Qt V c)).group=true:=by rw[eG.cK,Ja eT]; exact hR.us
  have upT:(gi (YV V c).1.ID c).up=true:=by rw[eC]; exact q3
  have BB3:(gi (YV V c).1.ID c).WH<50:=by rw[eC]; exact hR.WH
  have cp1:=(zh8 (t:=Qt V c) (n:=UK V c left) hR.tk.sw rT Qo c0 cT upT BB3 t0 t1 uT Qo Qo).2.2.2.2.2.2.2.2;have l1:CE (IT (YV V c).1 (Qt V c) (LU (YV V c).1 (Qt V c) (UK V c left))):=lcT.IT hR.tk.sw.a t0 t1 fun n=>lcT _ t0 t1 n
  have l2:=(zp7 c (UK V c left) (YN (YV V c).1 (Qt V c)) (IT (YV V c).1 (Qt V c) (LU (YV V c).1 (Qt V c) (UK V c left)))).loc cp1.t l1;refine VL.loc (zjq ?_) rfl l2;show (gi (YV V c).1.ID c).up=(gi (zh7 c (UK V c left) (YN (YV V c).1 (Qt V c)) (IT (YV V c).1 (Qt V c) (LU (YV V c).1 (Qt V c) (UK V c left)))).ID c).up;rw[cp1.cp]; rfl
 ·rw[B' gt]
  have hE:Rn (YV V c).1 c=Rn { (YV V c).1 with ID:=V.ID } c:=by
   have e1:=(eCp c c0).trans (C' rfl);show ({ (YV V c).1 with ID:=(YV V c).1.ID.set c.toNat (XU (gi (YV V c).1.ID c)) }:Q8)={ (YV V c).1 with ID:=V.ID.set c.toNat (XU (gi V.ID c)) };rw[e1,zq6,eC];show ({ (YV V c).1 with ID:=(V.ID.set c.toNat (Yv V c (Qt V c))).set c.toNat (XU (gi V.ID c)) }:Q8)=_;rw[List.set_set]
  have ha:WA ({ (YV V c).1 with ID:=V.ID }:Q8):=hR.tk.sw.a.cp lT.symm iv.wp.a.sZ;have p2:Tm ({ (YV V c).1 with ID:=V.ID }:Q8):=(Xm iv.wp).Az2 ⟨eN,rfl,eT,eG,eSh⟩ ha;have pM:=lcT.Rn c;have sE:=hR.tk.sw.Rn c0 cT;rw[hE] at pM sE ⊢;exact Zu sE Qo Qo (p2.Rn c0 c1) pM
theorem zlt{c:Int}{W0:Q8}:∀(f:Nat) {V:Q8} {left:Int},zdi f c W0 V left->Jc V->Jc (zcu c f V left)
 | 0,V,left,h,_=>by
  have:=h.f1;have:=h.l0;omega
 | f+1,V,left,h,iv=>by
  have hK:=Fp h.f2;have hh0:(0:Int)<=Qj:=Qd;have kW:UL=173430457200:=rfl
  by_cases hl:left<=0
  ·rw[zls hl];exact Zu h.sw Qo Qo (Xm iv.wp) (UI iv.wp)
  ·by_cases hp:Qt V c<0
   ·rw[zg2 hl hp];exact zw3 h iv
   ·rw[zg3 hl hp];have hR:=zn2 h Qo hp;exact zlt f hR.nx (zx8 h iv Qo hp)
theorem zxc{W:Q8}{c n:Int}(iv:Jc W)(hb:Fm W c n=0):Jc (zr8 W c n):=zlt 400 (zvg (Ql.2 iv.wp) hb).2.2.2.2 iv
theorem zsp{W:Q8}(wp:XS W){c:Int}(c0:0<=c)(c1:c<(W.ID.length:Int)):XS (Rn W c):=by
 have hl:(Rn W c).ID.length=W.ID.length:=E';have e:∀d:Int,0<=d->gi (Rn W c).ID d=if c=d then XU (gi W.ID c) else gi W.ID d:=fun d d0=>QE _ _ c0 c1 d0
 have sta:=MB W c
 have ha:WA (Rn W c):=wp.a.cp (cs:=W.ID.set c.toNat (XU (gi W.ID c))) E' (by
  rw[show Ju (W.ID.set c.toNat (XU (gi W.ID c)))=Ju W.ID from sta.sZ];exact wp.a.sZ)
 refine⟨ha,fun t t0 t1=>?_,fun k d k0 k1 d0 d1=>?_,fun d d0 d1=>?_⟩
 ·rcases wp.t t t0 t1 with hz | ⟨n,hx⟩
  ·exact .inl hz
  ·refine .inr ⟨n,hx.st,hx.g,hx.n,hx.m,hx.m0,hx.v,hx.s,hx.u,hx.l1,hx.l2,?_,hx.f⟩;rw[sta.wh]; exact hx.c
 ·have hs:=wp.s k d k0 k1 d0 d1;exact⟨hs.f,hs.v,hs.s,hs.w1,hs.w2,hs.root,hs.on,hs.st⟩
 ·rw[hl] at d1;have h:=wp.c d d0 d1
  by_cases hd:c=d
  ·subst hd;have e1:=(e c c0).trans (C' rfl);refine⟨by rw[e1]; exact h.b,by rw[e1]; exact h.i,by rw[e1]; show (-1:Int)<=-1; decide,by rw[e1]; show (-1:Int)<_; have:=wp.a.t; show (-1:Int)<(W.tasks.length:Int); omega,fun _=>by rw[e1]; rfl,fun h0=>?_⟩;rw[e1] at h0;have h0:(0:Int)<=-1:=h0;omega
  ·have e1:=(e d d0).trans (B' hd);refine⟨by rw[e1]; exact h.b,by rw[e1]; exact h.i,by rw[e1]; exact h.c1,by rw[e1]; exact h.c2,by rw[e1]; exact h.no,fun h0=>?_⟩;rw[e1] at h0 ⊢;obtain⟨y1,y2,y3,y4,y5,y6⟩:=h.yes h0;refine⟨y1,y2,y3,y4,y5,?_⟩;unfold Mc at y6 ⊢;rw[e1];exact y6
theorem zrf{W:Q8}(iv:Jc W){c:Int}(c0:0<=c)(c1:c<(W.ID.length:Int)):Jc (Rn W c):=
 ⟨zsp iv.wp c0 c1,fun k d hu d0 d1 hb=>by
  have hl:(Rn W c).ID.length=W.ID.length:=E';rw[hl] at d1;exact iv.fl k d hu d0 d1 hb⟩
def F7(W:Q8)(t g:Int):Int:=if QX (Qw W g (Q7 W t).mask) (Q7 W t).IZ=true then (Q7 W t).IZ else Tv (Qw W g (Q7 W t).mask)
noncomputable def zbz(W:Q8)(t g:Int):Int:=if Yb W t=false\/Q6 W.IC g=false then 2 else if QQ W=false then 10 else 0
def zfc(W:Q8)(t g:Int):Q8:=if (Q7 W t).group=g then W else Qg (Jd (Z1 W t) t g (F7 W t g))
theorem zpn{W:Q8}(wp:XS W){t g:Int}(t0:0<=t)(t1:t<12)(n:(Q7 W t).state≠0):0<=F7 W t g/\F7 W t g<(W.ID.length:Int)/\QX (Qw W g (Q7 W t).mask) (F7 W t g)=true:=by
 unfold F7;split
 ·rename_i h;have:=(Xm wp).l t t0 t1 n;exact⟨this.1,this.2,h⟩
 ·have hw:=GV wp.a g (Q7 W t).mask;have hf:=Kz wp.a g (Q7 W t).mask;exact⟨hf.1,hf.2,F5 hw.1 hw.2⟩
theorem zw9{W:Q8}{t g:Int}(iv:Jc W)(hb:zbz W t g=0):Jc (zfc W t g):=by
 have wp:=iv.wp;unfold zbz at hb
 split at hb
 ·cases hb
 ·rename_i h1
  split at hb
  ·cases hb
  ·rename_i h3;have hth:Yb W t=true:=by cases h:Yb W t with | true=>rfl | false=>exact Ir (.inl h) h1
   have hu:Q6 W.IC g=true:=by cases h:Q6 W.IC g with | true=>rfl | false=>exact Ir (.inr h) h1
   have hr:QQ W=true:=by simpa using h3
   obtain⟨t0,t1,n⟩:=YQ hth;have iX:=wp.a.t;unfold zfc;split
   ·exact iv
   ·obtain⟨m0,m1,m2⟩:=zpn wp (g:=g) t0 Qo n;have sw:=Md wp (Ql.1 hr);obtain⟨c0,c1⟩:=(Xm wp).l t t0 Qo n
    have key:Tm (Z1 W t)/\VL W (Z1 W t)/\SW Qj (Z1 W t)/\Q7 (Z1 W t) t=Q7 W t/\(Z1 W t).tasks=W.tasks/\(Z1 W t).IC=W.IC:=by
     unfold Z1;split
     ·exact⟨(Xm wp).Rn c0 c1,MB _ _,sw.Rn c0 c1,rfl,rfl,rfl⟩
     ·exact⟨Xm wp,VL.refl _,sw,rfl,rfl,rfl⟩
    obtain⟨k1,k2,k3,k4,k5,k6⟩:=key;have hlo:=k2.loc k5 (UI wp);have hu2:Q6 (Z1 W t).IC g=true:=by rw[k6]; exact hu
    have hm1:F7 W t g<((Z1 W t).ID.length:Int):=by rw[k2.len]; exact m1
    have sf:=(Cv (Kv k3) (I2 _) (t:=t) t0 Qo hu2 m0 hm1).2;refine Zu sf.w (by simp only[Qi]; decide) (by simp only[Qi,UL]; decide) (zcr k1 t0 Qo (by rw[k4]; exact n) hu2 m0 hm1) fun i i0 i1 hn=>?_
    rw[(CA (Z1 W t) t g (F7 W t g)).wh];rw[znz k1.a.t t0 Qo i0] at hn ⊢
    split at hn
    ·rename_i he;rw[C' he];show QX (Qw (Z1 W t) g (Q7 (Z1 W t) t).mask) (F7 W t g)=true;rw[k4,k2.wh]; exact m2
    ·rename_i he;rw[B' he];exact hlo i i0 i1 hn
structure zf6 (W:Q8) (g:Int):Prop where
 g1:1<=g
 us:Q6 W.IC g=true
 nk:∀h:Int,1<=h->h<8->(gi W.IC h).used=true->(gi W.IC h).parent≠g
 nt:∀t:Int,0<=t->t<12->(Q7 W t).state≠0->(Q7 W t).group≠g
def XT(W:Q8)(g:Int):Q8:=Rf W g zde
section
variable {W:Q8}{g:Int}
theorem zf6.g8(h:zf6 W g)(ha:WA W):g<8:=by
 have:=ha.gl;have:=(Q4.1 h.us).2.1;omega
theorem HI(ha:WA W)(h:zf6 W g){i:Int}(hi:0<=i):gi (XT W g).IC i=if g=i then zde else gi W.IC i:=YY (by have:=h.g1; omega) (Q4.1 h.us).2.1 hi
theorem Di(ha:WA W)(h:zf6 W g){k:Int}(hu:Q6 W.IC k=true)(hk:k≠g):gi (XT W g).IC k=gi W.IC k:=by
 rw[HI ha h (Q4.1 hu).1,B' fun e=>hk e.symm]
theorem zic(ha:WA W):(XT W g).IC.length=8:=by
 have:=ha.gl;simp[XT,Rf]; omega
theorem zaf(ha:WA W)(h:zf6 W g){k:Int}(hu:Q6 W.IC k=true)(hz:k≠0):(gi W.IC k).parent≠g:=by
 obtain⟨a,b,c⟩:=Q4.1 hu;have:=ha.gl;exact h.nk k Qo Qo c
theorem Cl(ha:WA W)(h:zf6 W g){k:Int}:Q6 (XT W g).IC k=true↔Q6 W.IC k=true/\k≠g:=by
 have bM:=ha.gl;rw[Q4,Q4,zic ha,bM];constructor
 ·rintro⟨x,y,z⟩;rw[HI ha h x] at z
  by_cases e:g=k
  ·rw[C' e] at z; cases z
  ·rw[B' e] at z;exact⟨⟨x,y,z⟩,fun e2=>e e2.symm⟩
 ·rintro⟨⟨x,y,z⟩,e⟩;refine⟨x,y,?_⟩;rw[HI ha h x,B' fun e2=>e e2.symm];exact z
theorem ztn(ha:WA W)(h:zf6 W g):∀(f:Nat) (k:Int),Q6 W.IC k=true->k≠g->dep f (XT W g).IC k=dep f W.IC k
 | 0,_,_,_=>rfl
 | f+1,k,hu,hk=>by
  by_cases hz:k=0
  ·subst hz; rw[ZZ,ZZ]
  ·have ih:=ztn ha h f _ (Y6 ha.tree hu hz).1 (zaf ha h hu hz);simp only[dep];rw[Di ha h hu hk,ih]
theorem zid(ha:WA W)(h:zf6 W g):∀(f:Nat) (k:Int),Q6 W.IC k=true->k≠g->UA f (XT W g).IC k=UA f W.IC k
 | 0,_,_,_=>rfl
 | f+1,k,hu,hk=>by
  by_cases hz:k=0
  ·subst hz; rw[Zl,Zl]
  ·have ih:=zid ha h f _ (Y6 ha.tree hu hz).1 (zaf ha h hu hz);simp only[UA];rw[Di ha h hu hk,ih]
theorem zmx(ha:WA W)(h:zf6 W g):∀k:Int,Q6 W.IC k=true->k≠g->∀x∈Z7 W.IC k,x≠g:=
 M6 ha.tree (fun _ x hx=>by rw[show Z7 W.IC 0=[] from Zl _ _] at hx; cases hx) fun k hu hz ih hk x hx=>by
  rw[Yz ha.tree hu hz] at hx;rcases Ii.1 hx with e | e
  ·rw[e]; exact hk
  ·exact ih (zaf ha h hu hz) x e
theorem zwv(ha:WA W)(h:zf6 W g):Y5 (XT W g).IC:=by
 have ht:=ha.tree;have r:=Di ha h ha.root (by have:=h.g1; omega)
 have sp:∀{k:Int},1<=k->k<8->(gi (XT W g).IC k).used=true->Q6 W.IC k=true/\k≠g/\gi (XT W g).IC k=gi W.IC k:=fun {k} b d hh=>by
  have:=(Cl ha h).1 (Q4.2 ⟨Qo,by rw[zic ha]; omega,hh⟩);exact⟨this.1,this.2,Di ha h this.1 this.2⟩
 refine⟨zic ha,by rw[r]; exact ht.ru,by rw[r]; exact ht.rp,by rw[r]; exact ht.rn,fun k b d hh=>?_,fun k b d hh=>?_,fun k b d hh=>?_,fun x k b d e hx hk=>?_⟩
 ·obtain⟨_,_,e⟩:=sp b d hh;rw[e] at hh ⊢; exact ht.nm k b d hh
 ·obtain⟨_,_,e⟩:=sp b d hh;rw[e] at hh ⊢;exact(Cl ha h).2 ⟨ht.par k b d hh,h.nk k b d hh⟩
 ·obtain⟨u,n,_⟩:=sp b d hh;rw[ztn ha h 3 k u n]; exact ht.dp k b d (Q4.1 u).2.2
 ·rintro⟨q1,q2⟩;obtain⟨u1,_,e1⟩:=sp Qo e hx;obtain⟨u2,_,e2⟩:=sp b Qo hk;rw[e1,e2] at q1 q2;exact ht.uniq x k b d e (Q4.1 u1).2.2 (Q4.1 u2).2.2 ⟨q1,q2⟩
theorem KG(ha:WA W)(h:zf6 W g){k c:Int}(hu:Q6 W.IC k=true)(hk:k≠g):Qc (XT W g) k c=Qc W k c:=by
 unfold Qc;rw[Di ha h hu hk]
theorem zwu(wp:XS W)(h:zf6 W g){c:Int}:QT W g c=false:=by
 have hl:=wp.a.gl;have ht:=wp.a.t
 have e1:∀j,j<W.tasks.length->OD W g c j=false:=fun j hj=>by
  unfold OD
  cases hs:((gi W.tasks (j:Int)).state==1) with
  | false=>rfl
  | true=>
   have hs:(gi W.tasks (j:Int)).state=1:=by simpa using hs
   have:(gi W.tasks (j:Int)).group≠g:=h.nt (j:Int) Qo Qo (by rw[show (Q7 W (j:Int)).state=1 from hs]; decide);rw[show ((gi W.tasks (j:Int)).group==g)=false by simpa using this];rfl
 have e2:∀j,j<W.IC.length->XW W g c j=false:=fun j hj=>by
  unfold XW
  by_cases hj1:1<=j
  ·cases hs:(gi W.IC (j:Int)).used with
   | false=>simp
   | true=>
    have:=h.nk (j:Int) Qo Qo hs;rw[show ((gi W.IC (j:Int)).parent==g)=false by simpa using this];simp
  ·rw[decide_eq_false hj1]; rfl
 unfold QT;rw[K8 e1,K8 e2];rfl
theorem zzk(wp:XS W)(h:zf6 W g){c:Int}(c0:0<=c)(c1:c<(W.ID.length:Int)):(Qc W g c).on=false:=by
 have g1:=h.g1;have:=(wp.s g c Qo (h.g8 wp.a) c0 (by rw[wp.a.sl h.us]; exact c1)).on Qo;rw[this,zwu wp h]; rfl
theorem zo3(wp:XS W)(h:zf6 W g){k c:Int}(c0:0<=c)(c1:c<(W.ID.length:Int))(j:Nat):XW (XT W g) k c j=XW W k c j:=by
 have ha:=wp.a;unfold XW
 by_cases e:g=(j:Int)
 ·rw[HI ha h Qo,C' e,<-e,zzk wp h c0 c1];simp[zde]
 ·rw[HI ha h Qo,B' e]
  have:Qc (XT W g) (j:Int) c=Qc W (j:Int) c:=by
   unfold Qc;rw[HI ha h Qo,B' e]
  rw[this]
theorem zzj(wp:XS W)(h:zf6 W g){k c:Int}(c0:0<=c)(c1:c<(W.ID.length:Int)):QT (XT W g) k c=QT W k c:=by
 unfold QT;rw[show Ts (OD (XT W g) k c) (XT W g).tasks.length=Ts (OD W k c) W.tasks.length from rfl,zic wp.a,wp.a.gl];rw[K7 fun j _=>zo3 wp h c0 c1 j]
theorem zzl(ha:WA W)(h:zf6 W g){k:Int}(hu:Q6 W.IC k=true)(hk:k≠g)(u:Int):VN (XT W g).IC k u=VN W.IC k u:=by
 have e:Z7 (XT W g).IC k=Z7 W.IC k:=zid ha h 3 k hu hk;have g1:=h.g1;unfold VN;rw[e];refine Bm _ _ fun s x hx=>?_
 have hxu:Q6 W.IC x=true/\x≠g:=by
  rcases Im.1 hx with hx | hx
  ·exact⟨(YE ha.tree k hu x hx).1,zmx ha h k hu hk x hx⟩
  ·rw[Iz.1 hx]; exact⟨ha.root,Qo⟩
 rw[Di ha h hxu.1 hxu.2]
theorem z05(ha:WA W)(h:zf6 W g){k:Int}(hu:Q6 W.IC k=true)(hk:k≠g)(m:Int):Qw (XT W g) k m=Qw W k m:=zv8 (W:=W) (W':=XT W g) rfl (zzl ha h hu hk) m
theorem zw6(iv:Jc W)(h:zf6 W g):Jc (XT W g):=by
 have wp:=iv.wp;have ha:=wp.a;have g1:=h.g1;have g8:=h.g8 ha;have bM:=ha.gl;have hpu:∀{k:Int},Q6 W.IC k=true->k≠0->Q6 W.IC (gi W.IC k).parent=true:=fun hu hz=>(Y6 ha.tree hu hz).1
 have hA:WA (XT W g):=by
  refine⟨ha.n1,ha.n2,ha.c1,ha.c2,ha.t,zwv ha h,ha.sZ,fun k k0 k1=>?_⟩;unfold MK;rw[HI ha h k0];split
  ·exact⟨fun _=>⟨rfl,rfl,rfl,rfl,rfl,rfl,rfl,rfl,show O8 ⟨0,0,0,[],[]⟩=true by decide⟩,fun hh=>by cases hh⟩
  ·have:=ha.grp k k0 k1;exact⟨this.1,fun hu=>by have:=this.2 hu; exact⟨this.w1,this.w2,this.m,this.m0,this.s,this.len,this.root,this.none,this.IQ⟩⟩
 refine⟨⟨hA,fun t t0 t1=>?_,fun k c k0 k1 c0 c1=>?_,fun c c0 c1=>?_⟩,fun k c hu c0 c1 hb=>?_⟩
 ·rcases wp.t t t0 t1 with hz | ⟨n,hx⟩
  ·exact .inl hz
  ·have hn:=h.nt t t0 t1 n;refine .inr ⟨n,hx.st,(Cl ha h).2 ⟨hx.g,hn⟩,hx.n,hx.m,hx.m0,hx.v,hx.s,hx.u,hx.l1,hx.l2,?_,fun hs=>?_⟩
   ·rw[show (Q7 (XT W g) t)=Q7 W t from rfl,z05 ha h hx.g hn]; exact hx.c
   ·rw[show (Q7 (XT W g) t)=Q7 W t from rfl,KG ha h hx.g hn]; exact hx.f hs
 ·by_cases e:g=k
  ·subst e;rw[HI ha h k0,C' rfl] at c1;have c1:c<(0:Int):=c1;omega
  ·have hg:gi (XT W g).IC k=gi W.IC k:=by rw[HI ha h k0,B' e]
   have e2:k≠g:=fun h=>e h.symm
   rw[hg] at c1
   have hu:Q6 W.IC k=true:=by
    cases hh:(gi W.IC k).used with
    | true=>exact Q4.2 ⟨k0,Qo,hh⟩
    | false=>
     have:=((ha.grp k k0 k1).1 hh).l;omega
   have cl:c<(W.ID.length:Int):=by rw[<-ha.sl hu]; exact c1
   have hs:=wp.s k c k0 k1 c0 c1;have es:=KG ha h (c:=c) hu e2;refine⟨by rw[es]; exact hs.f,by rw[es]; exact hs.v,by rw[es]; exact hs.s,by rw[es]; exact hs.w1,by rw[es]; exact hs.w2,fun hz=>by rw[es]; exact hs.root hz,fun hz=>?_,fun hz ho=>?_⟩
   ·rw[es,zzj wp h c0 cl,show JY (XT W g) k c=JY W k c by unfold JY; rw[hg]];exact hs.on hz
   ·rw[es] at ho;rw[es,hg,KG ha h (hpu hu hz) (zaf ha h hu hz)];exact hs.st hz ho
 ·have hc:=wp.c c c0 c1;refine⟨hc.b,hc.i,hc.c1,hc.c2,hc.no,fun h0=>?_⟩;have h0:0<=(gi W.ID c).cur:=h0;obtain⟨y1,y2,y3,y4,y5,y6⟩:=hc.yes h0;have hl:=ha.t;have hc2:=hc.c2
  have jA:Q6 W.IC (Q7 W (gi W.ID c).cur).group=true/\(Q7 W (gi W.ID c).cur).group≠g:=by
   rcases wp.t _ h0 Qo with hz | ⟨n,hx⟩
   ·unfold ZA at y5;rw[hz.1] at y5;simp at y5
   ·exact⟨hx.g,h.nt _ h0 Qo n⟩
  obtain⟨jA,hgn⟩:=jA;have hpt:Z7 (XT W g).IC (Q7 W (gi W.ID c).cur).group=Z7 W.IC (Q7 W (gi W.ID c).cur).group:=zid ha h 3 _ jA hgn;refine⟨y1,y2,y3,y4,?_,?_⟩
  ·unfold ZA UU at y5 ⊢;rw[show (gi (XT W g).ID c).cur=(gi W.ID c).cur from rfl,show Q7 (XT W g) (gi W.ID c).cur=Q7 W (gi W.ID c).cur from rfl,hpt];rw[A',List.all_eq_true] at y5 ⊢;exact⟨y5.1,fun x hx=>by rw[KG ha h (YE ha.tree _ jA x hx).1 (zmx ha h _ jA hgn x hx)]; exact y5.2 x hx⟩
  ·unfold Mc TH at y6 ⊢;rw[show (gi (XT W g).ID c).cur=(gi W.ID c).cur from rfl,show (gi (XT W g).ID c).WH=(gi W.ID c).WH from rfl,show Q7 (XT W g) (gi W.ID c).cur=Q7 W (gi W.ID c).cur from rfl,hpt,KG ha h jA hgn];rw[A',List.all_eq_true] at y6 ⊢;refine⟨y6.1,fun x hx=>?_⟩;obtain⟨xu,xz⟩:=YE ha.tree _ jA x hx;have xg:=zmx ha h _ jA hgn x hx;rw[KG ha h xu xg,Di ha h xu xg,KG ha h (hpu xu xz) (zaf ha h xu xz)];exact y6.2 x hx
 ·have cl:c<(W.ID.length:Int):=c1;obtain⟨hk,hkg⟩:=(Cl ha h).1 hu
  have AU5:∀j,j<20->Zk (XT W g) k c j=Zk W k c j:=fun j hj=>by
   by_cases tF:j<12
   ·rw[UJ tF,UJ tF]; rfl
   ·rw[show j=12+(j-12) by omega,JK,JK,zo3 wp h c0 cl (j-12)]
  have hv:∀j,j<20->Zk (XT W g) k c j=true->Ze (XT W g) c j=Ze W c j:=fun j hj hm=>by
   unfold Ze;split
   ·rfl
   ·rename_i tF;have hm2:=hm;rw[show j=12+(j-12) by omega,JK] at hm2;unfold XW at hm2;simp only[A'] at hm2
    have dE:((j-12:Nat):Int)≠g:=fun e=>by
     have hu2:=hm2.1.2.1;rw[HI ha h Qo,C' e.symm] at hu2;cases hu2
    rw[AU5 j hj,show j=12+(j-12) by omega,JK] at hm;unfold XW at hm;simp only[A'] at hm;rw[KG ha h (Q4.2 ⟨Qo,Qo,hm.1.2.1⟩) dE]
  have e:QW (Zk (XT W g) k c) (Ze (XT W g) c) 20=QW (Zk W k c) (Ze W c) 20:=MA AU5 hv;have pK:=iv.fl k c hk c0 cl (by unfold Zr at hb ⊢; rwa[e] at hb);rw[KG ha h hk hkg];refine Int.le_trans (Int.le_of_eq ?_) pK;unfold Zr at hb;have hb:=Ot hb;rw[e] at hb;unfold Z0;rw[e,B' Qo,B' Qo];rcases Zo (Zk W k c) (Ze W c) 20 with ⟨q,_⟩ | ⟨_,q2,q3,_⟩
  ·omega
  ·have IS:(QW (Zk W k c) (Ze W c) 20).toNat<20:=Qo;exact hv _ IS (by rw[AU5 _ IS]; exact q3)
def zsw(W:Q8)(g:Int):Prop:=(∃h:Int,1<=h/\h<8/\(gi W.IC h).used=true/\(gi W.IC h).parent=g)\/∃t:Int,0<=t/\t<12/\(Q7 W t).state≠0/\(Q7 W t).group=g
noncomputable def B9(W:Q8)(g:Int):Int:=if g=0 then 1 else if Q6 W.IC g=false then 2 else if JH (zsw W g)=true then 4 else if QQ W=false then 10 else 0
theorem zto{W:Q8}{g:Int}(hb:B9 W g=0):zf6 W g/\QQ W=true:=by
 unfold B9 at hb
 split at hb
 ·cases hb
 rename_i h1
 split at hb
 ·cases hb
 rename_i h2
 split at hb
 ·cases hb
 rename_i h3
 split at hb
 ·cases hb
 rename_i h4;have h3:¬zsw W g:=fun h=>h3 (Ql.2 h)
 have hu:Q6 W.IC g=true:=by simpa using h2
 have:=(Q4.1 hu).1;exact⟨⟨Qo,hu,fun h a b c d=>h3 (.inl ⟨h,a,b,c,d⟩),fun t a b c d=>h3 (.inr ⟨t,a,b,c,d⟩)⟩,by simpa using h4⟩
end
def Ce(W:Q8)(c:Int):Int:=if X9 W c=false then 1 else if (gi W.ID c).cur<0 then 6 else 0
theorem z0o{W:Q8}{c:Int}(h:Ce W c=0):X9 W c=true/\0<=(gi W.ID c).cur:=by
 unfold Ce at h
 split at h
 ·cases h
 ·rename_i h1
  split at h
  ·cases h
  ·exact⟨by simpa using h1,Qo⟩
section
variable {W:Q8}{m:MW}{w:Wo}{bs:List Nat}
theorem EU{c:Int}(h:XQ [] w W m)(hl:UN W) :
  Cz Vv #[.agg (Qa W m).toArray,I c] w fun e w'=>∃v,e=.returned v/\QL (Yp W (Ce W c) (Rn W c)) w v w':=by
 refine EB _ _ _ _ _ _ _ _ _ _ c (R:=fun v w'=>QL (Yp W (Ce W c) (Rn W c)) w v w') ?_;intro y hy y1 bE;have hm0:=XA;have hlc:=hl.c;refine⟨_,Ua h hl.c hl.t hl.g hl.f,fun g wr hx=>QL.bad (by simpa using g) hx,fun g wr R0 SS=>?_⟩;have hW:Qx W=true:=by simpa using g
 have wp:=Ql.1 hW;refine I3 (Pn (h.ext R0) wp.a) ?_;rintro e wv ⟨m',he,hM,Sn⟩;have hK:=Wk.begin hy bE R0 SS hM Sn;have hr:=hK.rd;refine⟨_,_,_,_,_,_,_,_,_,_,he,Qe Sn SS,⟨Qo,Qo⟩,X9 W c,Qp,fun g I' R4=>?_,fun g=>?_⟩
 ·have hb:Ce W c=1:=by unfold Ce; rw[C' (by simpa using g)]
  exact QL.no hW (by rw[hb]; decide) (hK.step R4) hb
 have g:X9 W c=true:=by simpa using g
 obtain⟨c0,c1⟩:=VT g;refine⟨hr.c.ix ZP c0 c1,_,hr.c.f c0 c1 (j:=1) rfl,fun g2 J' R4=>?_,fun g2 Rt SD cJ=>?_⟩
 ·have g2:=Ot g2;have hb:Ce W c=6:=by unfold Ce; rw[B' (by rw[g]; decide),C' g2]
  exact QL.no hW (by rw[hb]; decide) (hK.step R4) hb
 have g2:=Ou g2;have hb:Ce W c=0:=by unfold Ce; rw[B' (by rw[g]; decide),B' g2]
 have dB:=hK.step SD;refine I3 (Zw dB.own c0 c1) ?_;rintro e1 R1 ⟨fJ,fK⟩;exact⟨_,_,_,_,_,_,_,_,_,_,fJ,dB.kept fK cJ,fun RH Sg=>QL.ok hW hb ((dB.Sj fK cJ).step Sg)⟩
theorem zq5(V:Q8)(t g c:Int)(m:MW):Qa (Jd V t g c) m=Qa V m:=by
 unfold Jd
 split <;> simp[Qa,Rn,RM,IT]
theorem zzz{K:Int}{W:Q8}(sw:SW K W){t:Int}(t0:0<=t)(t1:t<12)(n:(Q7 W t).state≠0):SW K (Z1 W t):=by
 unfold Z1;split
 ·have:=sw.t t t0 t1 n;exact sw.Rn this.2.1 this.2.2
 ·exact sw
theorem AA{t g:Int}(h:XQ [] w W m)(hl:UN W) :
  Cz TP #[.agg (Qa W m).toArray,I t,I g] w fun e w'=>∃v,e=.returned v/\QL (Yp W (zbz W t g) (zfc W t g)) w v w':=by
 refine Ai _ _ _ _ _ _ _ _ _ _ t g (R:=fun v w'=>QL (Yp W (zbz W t g) (zfc W t g)) w v w') ?_;intro y hy y1 bE wr R0 SS;refine I3 (Zc (h.ext R0) hl) ?_;rintro e wv (⟨hW,he,Sn⟩ | ⟨hW,m',he,hM,Sn⟩)
 ·exact⟨_,_,_,_,_,_,_,_,_,_,_,he,Qe Sn SS,fun _ I' R4=>QL.bad hW ((R0.trans Sn).fresh R4 fun z hm=>.inl (Yi hy bE z hm)),fun g=>by simp at g⟩
 have hK:=Wk.begin hy bE R0 SS hM Sn;have hr:=hK.rd;have wp:=Ql.1 hW;have iX:=wp.a.t;refine⟨_,_,_,_,_,_,_,_,_,_,_,he,Qe Sn SS,fun g=>by split at g <;> simp at g,fun _=>⟨_,JB hr hl.t,_,fun _=>Xb hr.g,fun q J' R4=>?_,fun q=>?_⟩⟩
 ·have hb:zbz W t g=2:=by
   unfold zbz;rw[C']
   simpa using q
  exact QL.no hW (by rw[hb]; decide) (hK.step R4) hb
 simp only[H',I6] at q;obtain⟨q1,q2⟩:=q;have n1:¬(Yb W t=false\/Q6 W.IC g=false):=by rw[q1,q2]; simp
 obtain⟨t0,t1,tn⟩:=YQ q1;have V':=hr.t.ix QG t0 t1;refine⟨fun g3 Rt R4=>?_,fun g3=>?_⟩
 ·have aQ:¬QQ W=true:=fun hr=>by rw[C' hr] at g3; simp at g3
  have hb:zbz W t g=10:=by unfold zbz; rw[B' n1,C' (by simpa using aQ)]
  rw[B' aQ];exact QL.no hW (by rw[hb]; decide) (hK.step R4) hb
 have aQ:QQ W=true:=Iq fun hr=>by rw[B' hr] at g3; simp at g3
 have hb:zbz W t g=0:=by unfold zbz; rw[B' n1,B' (by rw[aQ]; decide)]
 have sw:=Md wp (Ql.1 aQ);obtain⟨hu,c0,c1⟩:=sw.t t t0 Qo tn;refine⟨V',_,_,_,_,_,_,_,_,_,hr.t t t0 t1,fun b2 bT=>⟨fun g4 Rt SD=>?_,fun g4=>?_⟩⟩
 ·have g4:(Q7 W t).group=g:=by simpa[Q7] using g4
  have hE:zfc W t g=W:=by unfold zfc; rw[C' g4]
  have:=QL.ok (W':=zfc W t g) hW hb (m':=m') (hE.symm▸hK.step SD)
  rwa[hE] at this ⊢
 have g4:¬(Q7 W t).group=g:=by simpa[Q7] using g4
 have hE:zfc W t g=Qg (Jd (Z1 W t) t g (F7 W t g)):=by unfold zfc; rw[B' g4]
 obtain⟨m0,m1,_⟩:=zpn wp (g:=g) t0 Qo tn;have hK0:=hK.add bT;refine⟨_,J6 hr wp.a.c2 wp.a.tree q2,fun vs bs w1=>bs=[]/\vs=[I (F7 W t g)]/\Q0 [y,y1] wv w1,⟨_,Y2,fun g5=>⟨_,Kf,fun RH Sg _=>⟨rfl,?_,Sg⟩⟩,fun g5 Sf aO _=>⟨rfl,?_,aO⟩⟩,?_⟩
 ·have g5:¬QX (Qw W g (Q7 W t).mask) (Q7 W t).IZ=true:=by simpa[Q7] using g5
  unfold F7; rw[B' g5]; rfl
 ·have g5:QX (Qw W g (Q7 W t).mask) (Q7 W t).IZ=true:=by simpa[Q7] using g5
  unfold F7; rw[C' g5]; rfl
 rintro cv R1 cX ⟨-,hv,hxv⟩;simp only[I4,I5,true_and,and_true] at hv;subst hv;have Cl6:Q0 ([y,y1]++[b2]) wv R1:=hxv.mono fun x hm=>Ia _ hm
 have hK1:=hK0.step Cl6;have e5:Qa (Rn W (Q7 W t).IZ) m'=Qa W m':=by simp[Qa,Rn,RM]
 refine⟨fun vs bs w1=>bs=[]/\vs=Qa W m'/\Wk 8 ([y,y1]++[b2]) w w1 (Z1 W t) m',⟨hK1.rd.c.ix ZP c0 c1,_,hK1.rd.c.f c0 c1 (j:=1) rfl,fun g6 SH jH hs7=>?_,fun g6 WT lB _=>⟨rfl,rfl,?_⟩⟩,?_⟩
 ·have g6:(gi W.ID (Q7 W t).IZ).cur=t:=by simpa using g6
  have eB:=hK1.step jH;refine I3 (Zw eB.own c0 c1) ?_;rintro e1 Rx ⟨fJ,fK⟩;rw[show Qa (Rn W (gi W.tasks t).IZ) m'=Qa W m' from e5] at fJ;refine⟨_,_,_,_,_,_,_,_,_,_,fJ,eB.kept fK hs7,fun SZ oZ _=>⟨rfl,rfl,?_⟩⟩;have hlv:Z1 W t=Rn W (Q7 W t).IZ:=by unfold Z1; rw[C' g6]
  rw[hlv];exact(eB.Sj fK hs7).step oZ
 ·have g6:¬(gi W.ID (Q7 W t).IZ).cur=t:=by simpa using g6
  have hlv:Z1 W t=W:=by unfold Z1; rw[B' g6]
  rw[hlv];exact hK1.step lB
 rintro l RO RW Sb RR S5 Sa RY RZ S4 S6 dQ ⟨-,hv,pI⟩;simp only[Qa,I4,I5,Iv,true_and,and_true] at hv;obtain⟨rfl,⟨rfl,rfl,rfl⟩,⟨rfl,rfl,rfl⟩,rfl,rfl,rfl⟩:=hv;have swl:=zzz sw t0 Qo tn;have ht:(Z1 W t).tasks=W.tasks:=by unfold Z1; split <;> rfl
 have hg:(Z1 W t).IC=W.IC:=by unfold Z1; split <;> rfl
 have rJ:(Z1 W t).ID.length=W.ID.length:=by
  unfold Z1; split
  ·exact E'
  ·rfl
 have hn:(Z1 W t).now=W.now:=by unfold Z1; split <;> rfl
 have eL:∀mm,Qa (Z1 W t) mm=Qa W mm:=fun mm=>by simp[Qa,ht,hg,rJ,hn]
 have tn2:(Q7 (Z1 W t) t).state≠0:=by rw[Ja ht]; exact tn
 have hu2:Q6 (Z1 W t).IC g=true:=by rw[hg]; exact q2
 have hm1:F7 W t g<((Z1 W t).ID.length:Int):=by rw[rJ]; exact m1
 rw[hE];generalize Z1 W t=V at pI swl eL tn2 hu2 hm1;generalize F7 W t g=c at m0 hm1;intro Sd yX mH;have dB:=pI.step yX;have Rg:=UT dB.own (Kv swl) (I2 _) (by simp only[Qi]; decide) (t:=t) (g:=g) (c:=c) t0 Qo tn2 hu2 m0 hm1;rw[eL] at Rg;refine I3 Rg ?_;rintro e2 bB ⟨aE,fL⟩;have cQ:=dB.Sj fL mH;have sf2:=(Cv (Kv swl) (I2 _) (t:=t) t0 Qo hu2 m0 hm1).2;have eP:Qa (Jd V t g c) m'=Qa W m':=by rw[<-eL]; exact zq5 V t g c m'
 refine⟨_,_,_,_,_,_,_,_,_,_,aE,dB.kept fL mH,fun Se AM6 yW=>?_⟩;have tE:=cQ.step AM6;have rI:=Qv tE.own sf2.w (by simp only[Qi]; decide) (by simp only[Qi]; decide) tE.base;rw[eP] at rI;refine I3 rI ?_;rintro e3 dA ⟨m2,iU,hy5⟩;exact⟨_,_,_,_,_,_,_,_,_,_,iU,tE.kept hy5 yW,fun Si uB=>QL.ok hW hb ((tE.Sj hy5 yW).step uB)⟩
theorem AG{g:Int}(h:XQ bs w W m)(hg8:W.IC.length=8)(B44:W.tasks.length=12) :
  PX bs TX #[.agg (Qa W m).toArray,I g] w (.bool (JH (zsw W g))):=
 C0 _ _ _ _ _ _ _ _ _ _ g fun wr hx=>by
  have h:=(h.ext hx).less (cs:=[]) Qs;intro b hb;refine Xw 8 1 rfl (fun k=>1<=k/\k<=8/\∀j:Int,1<=j->j<(k:Int)->¬((gi W.IC j).used=true/\(gi W.IC j).parent=g)) ⟨Qo,Qo,fun j a b=>by omega⟩ fun k ⟨hk1,hk8,iW⟩=>⟨fun IS=>?_,fun Ry=>?_⟩
  ·have IS:=Ot IS;have k0:(0:Int)<=(k:Int):=Qo;refine⟨h.g.ix k0 IS,_,h.g.used k0 IS,fun _=>h.g.ix k0 IS,_,fun _=>h.g.parent k0 IS,fun q=>?_,fun q=>⟨⟨Qo,Qo⟩,QB Qo ⟨Qo,Qo,fun j a b=>?_⟩⟩⟩
   ·rw[A',Is] at q;exact zmf (.inl ⟨(k:Int),Qo,Qo,q.1,q.2⟩)
   ·by_cases e:j<(k:Int)
    ·exact iW j a e
    ·have:j=(k:Int):=Qo;subst this;rintro⟨q1,q2⟩;rw[q1,Is.2 q2] at q;cases q
  ·have Ry:=Ou Ry;refine Xw 12 0 rfl (fun k=>k<=12/\∀j:Int,0<=j->j<(k:Int)->¬((Q7 W j).state≠0/\(Q7 W j).group=g)) ⟨Qo,fun j a b=>by omega⟩ fun k2 ⟨qT,hnt⟩=>⟨fun Rr=>?_,fun aP=>?_⟩
   ·have Rr:=Ot Rr;have k0:(0:Int)<=(k2:Int):=Qo;refine⟨h.t.ix QG k0 Rr,_,h.t.f k0 Rr (j:=0) rfl,fun _=>h.t.ix QG k0 Rr,_,fun _=>h.t.f k0 Rr (j:=1) rfl,fun q=>?_,fun q=>⟨⟨Qo,Qo⟩,QB Qo ⟨Qo,fun j a b=>?_⟩⟩⟩
    ·rw[A',Is,It] at q;exact zmf (.inr ⟨(k2:Int),Qo,Qo,q.1,q.2⟩)
    ·by_cases e:j<(k2:Int)
     ·exact hnt j a e
     ·have:j=(k2:Int):=Qo;subst this;rintro⟨q1,q2⟩;have q1:(gi W.tasks (k2:Int)).state≠0:=q1;have q2:(gi W.tasks (k2:Int)).group=g:=q2;rw[It.2 q1,Is.2 q2] at q;cases q
   ·have aP:=Ou aP;refine Lt ?_;rintro (⟨j,a,b,c,d⟩ | ⟨j,a,b,c,d⟩)
    ·exact iW j a Qo ⟨c,d⟩
    ·exact hnt j a Qo ⟨c,d⟩
theorem Bx{g:Int}(h:XQ [] w W m)(hl:UN W) :
  Cz T4 #[.agg (Qa W m).toArray,I g] w fun e w'=>∃v,e=.returned v/\QL (Yp W (B9 W g) (XT W g)) w v w':=by
 refine Be _ _ _ _ _ _ _ _ _ _ g (R:=fun v w'=>QL (Yp W (B9 W g) (XT W g)) w v w') ?_;intro x hx x1 S9 wr R0 SS;refine I3 (Vh (g:=g) (ok:=true) (h.ext R0) hl) ?_;rintro e wv (⟨hW,he,hy⟩ | ⟨hW,m',he,hM,hy⟩)
 ·exact⟨_,_,_,_,_,_,_,_,_,_,_,he,Qe hy SS,fun _ I' R4=>QL.bad hW ((R0.trans hy).fresh R4 fun y hm=>.inl (Yi hx S9 y hm)),fun g=>by simp at g⟩
 have hK:=Wk.begin hx S9 R0 SS hM hy;have hr:=hK.rd;have wp:=Ql.1 hW;refine⟨_,_,_,_,_,_,_,_,_,_,_,he,Qe hy SS,fun g1 I' R4=>?_,fun g1=>⟨_,AG hr wp.a.gl wp.a.t,fun g2 J' R4=>?_,fun g2=>⟨fun g3 Rp R4=>?_,fun g3=>?_⟩⟩⟩
 ·have hb:B9 W g=MT W g true:=by
   by_cases h0:g=0
   ·unfold B9 MT;rw[C' h0,C' (.inr h0)]
   ·have e0:¬(true=false\/g=0):=by simp[h0]
    by_cases h1:Q6 W.IC g=false
    ·unfold B9 MT;rw[B' h0,B' e0,C' h1,C' h1]
    ·exfalso
     unfold MT at g1;rw[B' e0,B' h1] at g1
     split at g1 <;> simp at g1
  exact QL.no hW (fun h0=>by rw[<-hb,h0] at g1; simp at g1) (hK.step R4) hb
 all_goals
  have g1':¬g=0/\¬Q6 W.IC g=false:=by
   unfold MT at g1
   by_cases h0:g=0
   ·rw[C' (.inr h0)] at g1; simp at g1
   ·refine⟨h0,fun h1=>?_⟩;rw[B' (show ¬(true=false\/g=0) by simp[h0]),C' h1] at g1;simp at g1
  have hgB:MT W g true=if QQ W=false then 10 else 0:=by
   unfold MT;rw[B' (show ¬(true=false\/g=0) by simp[g1'.1]),B' g1'.2]
 ·have hb:B9 W g=4:=by unfold B9; rw[B' g1'.1,B' g1'.2,C' g2]
  exact QL.no hW (by rw[hb]; decide) (hK.step R4) hb
 ·have aQ:QQ W=false:=by
   cases hq:QQ W with
   | false=>rfl
   | true=>rw[hgB,hq] at g3; simp at g3
  have hb:B9 W g=10:=by unfold B9; rw[B' g1'.1,B' g1'.2,B' (by rw[g2]; decide),C' aQ]
  rw[hgB,C' aQ];exact QL.no hW (by rw[hb]; decide) (hK.step R4) hb
 ·have aQ:QQ W=true:=by
   cases hq:QQ W with
   | true=>rfl
   | false=>rw[hgB,hq] at g3; simp at g3
  have hb:B9 W g=0:=by unfold B9; rw[B' g1'.1,B' g1'.2,B' (by rw[g2]; decide),B' (by rw[aQ]; decide)]
  have hu:Q6 W.IC g=true:=by simpa using g1'.2
  obtain⟨u0,u1,_⟩:=Q4.1 hu;have bM:=wp.a.gl
  have SE:Wk 8 [x,x1] w (Rl wv m'.gO (Int.toNat g*14) (Yq zde AM)) (XT W g) (LD m' g.toNat AM):=
   ⟨hK.s.call Cc fun y hy=>(hK.own.lt y hy).1,⟨hK.own.Be1 u0 Qo (g:=zde) (p:=AM) (j:=0) (vs:=Yq zde AM) ⟨.inl ⟨rfl,rfl,rfl⟩,.inl ⟨rfl,rfl,rfl⟩,.inl ⟨rfl,rfl,rfl⟩⟩ (fun y hy=>by simp[Qr,AM,QI] at hy) (by simp[Yq]) (by simp[Yq]),fun y hy hm=>by
    rcases Oc y hy with h1 | h1
    ·exact hK.nb y h1 hm
    ·simp[Qr,AM,QI] at h1⟩⟩
  refine⟨hr.g.ix u0 u1,zqm hK.own hK.nb u0 Qo (j:=0) Qd,fun Rt SD=>?_⟩;have Au9:=QL.ok hW hb (SE.step SD);have ew:Qa (XT W g) (LD m' g.toNat AM)=Qa W m':=by simp[Qa,XT,Rf,LD]
  rw[ew] at Au9;have hgz:MT W g true=0:=by rw[hgB,B' (by rw[aQ]; decide)]
  exact Au9
end
theorem zpf{V:Q8}(ha:WA V):UN V:=by
 have h1:=ha.c2;have h2:=ha.t;have h3:=ha.gl;have hm:=ZH;have hn1:=ha.n1;have hn2:=ha.n2;refine⟨Qo,Qo,Qo,fun i a b=>?_⟩;have hb:=LR ha a Qo;have hg:=ha.grp i a Qo;have hz:(⟨[].toArray⟩:ByteArray).size=0:=rfl;refine⟨?_,?_,Qo,Qo,Qo⟩
 ·cases hu:(gi V.IC i).used with
  | false=>rw[(hg.1 hu).n,hz]; omega
  | true=>
   by_cases e:i=0
   ·rw[e,ha.tree.rn,hz]; omega
   ·have:=(KM.1 (ha.tree.nm i Qo Qo hu)).1;omega
 cases hu:(gi V.IC i).used with
 | false=>rw[(hg.1 hu).ne]; exact⟨Qd,Qd⟩
 | true=>
  have hg:=hg.2 hu
  by_cases hq:(gi V.IC i).IQ.IW=0
  ·rw[(hg.none hq).2.2]; exact⟨Qd,Qd⟩
  ·have:=hg.IQ hq;exact⟨Qo,Qo⟩
theorem Gk{n:Nat}{p:Int}{name:ByteArray}{w:Wo}(hn:n<=4) :
  Cz Vb #[I (n:Int),I p,.string name] w fun e w'=>∃mg,e=.returned (.agg (Yq (Pp n p name) mg).toArray)/\Pj w.heap.size w' (Pp n p name,mg)/\Q0 [] w w':=by
 refine(zao (n:Int) p name (R:=fun v w'=>∃mg,v=.agg (Yq (Pp n p name) mg).toArray/\Pj w.heap.size w' (Pp n p name,mg)/\Q0 [] w w') ?_).mono fun e w' ⟨v,he,mg,hv,h3⟩=>⟨mg,by rw[he,hv],h3⟩
 intro b hb b1 dI
 refine⟨fun vs w2=>∃(k:Nat) (o:OA) (cap:Nat),vs=[I (k:Int),.bool true,I p,.string name,I 10,I 15,I 0,I 0,I 0,I 0,I 0,I 0,.slice none 0 0,.slice none 0 0,.slice o k cap]/\k<=n/\Sc w [b,b1] w2/\Ob PG 5 YF w.heap.size [b,b1] w2 o cap (List.replicate k zfd),
  Zq n 0,fun wr hx _=>⟨0,none,0,rfl,Ic _,(((Sc.start w).add hb).add dI).M' hx,⟨.inl ⟨rfl,rfl,rfl⟩,by simp[QI]⟩⟩,?_⟩
 rintro c1 l l1 l2 l3 l4 l5 l6 l7 l8 l9 l10 mO mN mM AI1 AI0 AH9 AI3 tI AI2 wv SS ⟨k,o,cap,he,hk,s1,hO⟩;simp only[I4,I5,Value.bool.injEq,Value.string.injEq,Iv,true_and,and_true] at he;obtain⟨rfl,rfl,rfl,rfl,rfl,rfl,rfl,rfl,rfl,rfl,rfl,rfl,⟨rfl,rfl,rfl⟩,⟨rfl,rfl,rfl⟩,rfl,rfl,rfl⟩:=he;refine⟨fun IS=>?_,fun Ry=>?_⟩
 ·have IS:=Ot IS;intro b3 hb3 Rp R4 dQ Wr;have s2:=s1.put R4 hb3;have mD:=hO.put R4 hb3;obtain⟨o2,c2,w2,Wp,hk2,hO3,R0⟩:=mD.AK7 Pt Pb (x:=zfd) dQ s2.ext.size Wr (z0c _) (by simp; omega) Qd Z5 #[false,false];have s3:=s2.call R0 fun x hm=>(mD.own.lt x hm).1
  have hL:List.replicate tI zfd++[zfd]=List.replicate (tI+1) zfd:=by rw[List.replicate_succ']
  rw[hL] at Wp hO3;rw[List.length_replicate,List.length_replicate] at Wp;exact⟨_,_,_,w2,Wp,hk2,⟨Qo,Qo⟩,fun Rt SD _=>⟨⟨tI+1,o2,c2,Qs,Qo,(s3.step SD).sub Qs,(hO3.step SD).sub Qs⟩,Zi (k:=tI) rfl rfl Qo⟩⟩
 ·have Ry:=Ou Ry;have:tI=n:=Qo;subst this;intro RH Sg;refine⟨⟨none,0,none,0,AI3,AI2⟩,?_,⟨.inl ⟨rfl,rfl,rfl⟩,.inl ⟨rfl,rfl,rfl⟩,(hO.step Sg).own⟩,(s1.step Sg).ext⟩;simp[Yq,Pp,Zv]
theorem z1i:QD≠Zt:=Qd
theorem zyx:QS≠Zt:=Qd
theorem z1h:QS≠QD:=Qd
theorem EJ{i:Int}(h0:0<=i)(h1:i<8):gi (List.replicate 8 OU) i=OU:=by
 obtain⟨k,rfl⟩:=Int.eq_ofNat_of_zero_le h0;rw[VG (by rw[List.length_replicate]; omega)];exact List.getElem_replicate _
theorem zrz{base:Nat}{w:Wo}{o:OA}{cap:Nat}(h:Uz TL 14 QS base w o cap (List.replicate 8 OU)):KC base w o cap (List.replicate 8 OU):=by
 refine⟨h,fun i h0 h1=>?_,fun i j h0 h1 _ _ _ x hm=>?_⟩
 ·rw[EJ h0 (by simpa using h1)];exact⟨.inl ⟨rfl,rfl,rfl⟩,.inl ⟨rfl,rfl,rfl⟩,.inl ⟨rfl,rfl,rfl⟩⟩
 ·rw[EJ h0 (by simpa using h1)] at hm;simp[Qr,OU,QI] at hm
section
variable {w:Wo}{b:Nat}
def z14(b:Nat)(w:Wo)(vs:List Va)(bs:List Nat)(w2:Wo):Prop:=
 ∃(bx:Nat) (tO gO:OA) (tC gC:Nat),bs=[bx]/\vs=[I 0,.slice none 0 0,.slice tO 12 tC,.slice gO 8 gC]/\Sc w [b,bx] w2/\Ob Xv 9 QD w.heap.size [b,bx] w2 tO tC (List.replicate 12 TI)/\Ob TL 14 QS w.heap.size [b,bx] w2 gO gC (List.replicate 8 OU)
theorem zup{bs:List Nat}{w1:Wo}(s:Sc w bs w1)(hs:∀x∈bs,x<w1.heap.size):∃(o:OA) (c:Nat) (w2:Wo),(Instr.makeSlice QZ (I 12) (I 12):Sem Va).run Tryz.prog w1=.ok (.slice o 12 c) w2/\Q9 bs w1 w2/\Q0 [] w1 w2/\Ob Xv 9 QD w.heap.size bs w2 o c (List.replicate 12 TI):=
 ⟨_,_,_,K3 PF Mf 12 Qd (by have:=ZH; omega) w1,Qe (Z4 _ _) hs,Z4 _ _,(Ob.of (UV (enc:=Xv) PF.len QD 12 TI w1) hs).mono s.ext.size⟩
theorem zuo{bs:List Nat}{w1:Wo}(s:Sc w bs w1)(hs:∀x∈bs,x<w1.heap.size):∃(o:OA) (c:Nat) (w2:Wo),(Instr.makeSlice Qz (I 8) (I 8):Sem Va).run Tryz.prog w1=.ok (.slice o 8 c) w2/\Q9 bs w1 w2/\Q0 [] w1 w2/\Ob TL 14 QS w.heap.size bs w2 o c (List.replicate 8 OU):=
 ⟨_,_,_,K3 Yk Pa 8 Qd (by have:=ZH; omega) w1,Qe (Z4 _ _) hs,Z4 _ _,(Ob.of (UV (enc:=TL) Yk.len QS 8 OU w1) hs).mono s.ext.size⟩
theorem AE{n:Nat}(n0:1<=n)(n1:n<=4) :
  Cz TV #[I (n:Int)] w fun e w'=>∃m,e=.returned (.tuple #[.agg (Qa (JZ n) m).toArray,.bool true])/\Zf 8 w.heap.size w' (JZ n) m/\Q0 [] w w':=by
 refine(Am (n:Int) (R:=fun v w'=>∃m,v=.tuple #[.agg (Qa (JZ n) m).toArray,.bool true]/\Zf 8 w.heap.size w' (JZ n) m/\Q0 [] w w') ?_).mono fun e w' ⟨v,he,m,hv,h3⟩=>⟨m,by rw[he,hv],h3⟩
 intro b hb;have sR:YK (n:Int) 1 4=true:=Qu.2 ⟨Qo,Qo⟩;have s0:Sc w [b] w:=(Sc.start w).add hb;refine⟨_,Qp,fun g=>(by rw[sR] at g; cases g),fun _=>⟨z14 b w,?_,?_⟩⟩
 ·refine⟨fun I' S9 cX=>?_,fun Sf aO hs6=>?_,fun b5 hb5=>⟨fun Se AM6 yW=>?_,fun Wn A81 Ck5=>?_⟩⟩
  ·have s1:=s0.M' S9;obtain⟨tO,tC,w2,hr,hk,he,hT⟩:=zup s1 cX;have s2:=s1.M' he;refine⟨_,_,_,w2,hr,hk,fun J' R0 SS=>?_,fun b2 bT Rt SD cJ=>?_⟩
   ·have s3:=s2.step R0;obtain⟨gO,gC,w3,hr3,hk3,iU,hG⟩:=zuo s3 SS;exact⟨_,_,_,w3,hr3,hk3,fun b1 dI Rp R4 _=>⟨b1,tO,gO,tC,gC,rfl,rfl,(s3.M' iU).put R4 dI,((hT.step R0).M' iU).put R4 dI,hG.put R4 dI⟩⟩
   ·have s3:=s2.put SD bT;obtain⟨gO,gC,w3,hr3,hk3,iU,hG⟩:=zuo s3 cJ;exact⟨_,_,_,w3,hr3,hk3,fun RH Sg _=>⟨b2,tO,gO,tC,gC,rfl,rfl,(s3.M' iU).step Sg,((hT.put SD bT).M' iU).step Sg,hG.step Sg⟩⟩
  ·have s1:=s0.M' aO;obtain⟨gO,gC,w2,hr,hk,he,hG⟩:=zuo s1 hs6;have s2:=s1.M' he;refine⟨_,_,_,w2,hr,hk,fun J' R0 SS=>?_,fun b2 bT Rt SD cJ=>?_⟩
   ·have s3:=s2.step R0;obtain⟨tO,tC,w3,hr3,hk3,iU,hT⟩:=zup s3 SS;exact⟨_,_,_,w3,hr3,hk3,fun b1 dI Rp R4 _=>⟨b1,tO,gO,tC,gC,rfl,rfl,(s3.M' iU).put R4 dI,hT.put R4 dI,((hG.step R0).M' iU).put R4 dI⟩⟩
   ·have s3:=s2.put SD bT;obtain⟨tO,tC,w3,hr3,hk3,iU,hT⟩:=zup s3 cJ;exact⟨_,_,_,w3,hr3,hk3,fun RH Sg _=>⟨b2,tO,gO,tC,gC,rfl,rfl,(s3.M' iU).step Sg,hT.step Sg,((hG.put SD bT).M' iU).step Sg⟩⟩
  ·have s1:=(s0.add hb5).M' AM6;obtain⟨tO,tC,w2,hr,hk,he,hT⟩:=zup s1 yW;refine⟨_,_,_,w2,hr,hk,fun J' R0 SS=>?_⟩;have s3:=(s1.M' he).step R0;obtain⟨gO,gC,w3,hr3,hk3,iU,hG⟩:=zuo s3 SS;exact⟨_,_,_,w3,hr3,hk3,fun RH Sg _=>⟨b5,tO,gO,tC,gC,rfl,rfl,(s3.M' iU).step Sg,((hT.step R0).M' iU).step Sg,hG.step Sg⟩⟩
  ·have s1:=(s0.add hb5).M' A81;obtain⟨gO,gC,w2,hr,hk,he,hG⟩:=zuo s1 Ck5;refine⟨_,_,_,w2,hr,hk,fun J' R0 SS=>?_⟩;have s3:=(s1.M' he).step R0;obtain⟨tO,tC,w3,hr3,hk3,iU,hT⟩:=zup s3 SS;exact⟨_,_,_,w3,hr3,hk3,fun RH Sg _=>⟨b5,tO,gO,tC,gC,rfl,rfl,(s3.M' iU).step Sg,hT.step Sg,((hG.step R0).M' iU).step Sg⟩⟩
 ·rintro l RO RW Sb RR S5 Sa RY RZ S4 b6 fR mH ⟨bx,tO,gO,tC,gC,hbx,hv,s1,hT,hG⟩;simp only[I4,I5,Iv,true_and,and_true] at hbx hv;subst hbx;obtain⟨rfl,⟨rfl,rfl,rfl⟩,⟨rfl,rfl,rfl⟩,rfl,rfl,rfl⟩:=hv
  refine⟨fun vs w2=>∃(k:Nat) (o:OA) (cap:Nat),vs=[I (k:Int),I 0,.slice o k cap,.slice RR 12 Sa,.slice RY 8 S4]/\k<=n/\Sc w [b,b6] w2/\Ob Hy 5 Zt w.heap.size [b,b6] w2 o cap (List.replicate k (⟨true,-1,0,0,0⟩:Mj))/\Ob Xv 9 QD w.heap.size [b,b6] w2 RR Sa (List.replicate 12 TI)/\Ob TL 14 QS w.heap.size [b,b6] w2 RY S4 (List.replicate 8 OU),
   Zq n 0,fun wr hx _=>⟨0,none,0,rfl,Ic _,s1.step hx,⟨.inl ⟨rfl,rfl,rfl⟩,by simp[QI]⟩,hT.step hx,hG.step hx⟩,?_⟩
  rintro c1 l4 lF gS lD kY nM kX jI mQ lG wv SS ⟨k,o,cap,he,hk,s2,hC,hT2,hG2⟩;simp only[I4,I5,Iv,true_and,and_true] at he;obtain⟨rfl,rfl,⟨rfl,rfl,rfl⟩,⟨rfl,rfl,rfl⟩,rfl,rfl,rfl⟩:=he;clear hT hG;refine⟨fun IS=>?_,fun Ry=>?_⟩
  ·have IS:=Ot IS;intro b3 hb3 Rp R4 dQ Wr;have s3:=s2.put R4 hb3;have hC2:=hC.put R4 hb3;obtain⟨o2,c2,w2,Wp,hk2,hC3,R0⟩:=hC2.AK7 H1 K5 (x:=(⟨true,-1,0,0,0⟩:Mj)) dQ s3.ext.size Wr (z0a _) (by simp; omega) Qd Zm #[false,false];have s4:=s3.call R0 fun x hm=>(hC2.own.lt x hm).1
   have hT3:=(hT2.put R4 hb3);have hT4:Ob Xv 9 QD w.heap.size [b,b6,b3] w2 kY kX (List.replicate 12 TI):=⟨hT3.own.ext R0 (hT3.own.SR hC2.own z1i),hT3.nb⟩;have hG3:=(hG2.put R4 hb3);have hG4:Ob TL 14 QS w.heap.size [b,b6,b3] w2 jI lG (List.replicate 8 OU):=⟨hG3.own.ext R0 (hG3.own.SR hC2.own zyx),hG3.nb⟩;have hL:List.replicate gS (⟨true,-1,0,0,0⟩:Mj)++[⟨true,-1,0,0,0⟩]=List.replicate (gS+1) (⟨true,-1,0,0,0⟩:Mj):=by rw[List.replicate_succ']
   rw[hL] at Wp hC3;rw[List.length_replicate,List.length_replicate] at Wp;exact⟨_,_,_,w2,Wp,hk2,⟨Qo,Qo⟩,fun Rt SD _=>⟨⟨gS+1,o2,c2,Qs,Qo,(s4.step SD).sub Qs,(hC3.step SD).sub Qs,(hT4.step SD).sub Qs,(hG4.step SD).sub Qs⟩,Zi (k:=gS) rfl rfl Qo⟩⟩
  ·have Ry:=Ou Ry;have:gS=n:=Qo;subst this;intro RH Sg jO;have s3:=s2.step Sg;have hC3:=hC.step Sg;have hT3:=hT2.step Sg;have hG3:=hG2.step Sg;refine(Gk n1).mono fun e w3 ⟨mg,he,hM,R4⟩=>?_
   have s4:=s3.M' R4;have hC4:=hC3.M' R4;have hT4:=hT3.M' R4;have hG4:=hG3.M' R4;have G:=zrz hG4.own
   have hmb:∀x∈Qr mg,x∉[b,b6]:=fun x hm hx=>by
    have h1:=(hM.lt x hm).1;have h2:=jO x hx;omega
   have P:=G.put (i:=0) (I2 _) Qs (p:=(Pp gS (-1) ⟨[].toArray⟩,mg)) (hM.mono s3.ext.size) fun j j0 j1 _ x hm=>by
    rw[EJ j0 (by simpa using j1)] at hm;simp[Qr,OU,QI] at hm
   have hxs:=hG4.own.qC (Int.toNat 0*14) (TL (Pp gS (-1) ⟨[].toArray⟩,mg));have s5:Sc w [b,b6] (Rl w3 jI (Int.toNat 0*14) (TL (Pp gS (-1) ⟨[].toArray⟩,mg))):=⟨hG4.own.CQ0 _ _ s4.ext (I7 _),s4.new⟩;have hC5:=hC4.own.ext hxs (hC4.own.SR hG4.own zyx.symm);have hT5:=hT4.own.ext hxs (hT4.own.SR hG4.own z1h.symm);refine⟨_,_,_,_,_,_,_,_,_,_,_,_,_,_,_,_,_,_,_,_,he,Qe R4 jO,rfl,hG4.own.ix (I2 _) Qs,hG4.own.wr Yk.len hG4.nb (i:=0) (j:=0) (I2 _) Qs Qd,fun wr hx=>⟨⟨lF,lD,kY,kX,jI,lG,fun k=>if k=0 then mg else OU.2⟩,?_,⟨?_,?_,?_,rfl⟩,(s5.step hx).ext⟩⟩
   ·simp[Qa,JZ]
   ·exact hC5.ext hx hC4.nb
   ·exact hT5.ext hx hT4.nb
   ·have hps:zpx (JZ gS) ⟨lF,lD,kY,kX,jI,lG,fun k=>if k=0 then mg else OU.2⟩=(List.replicate 8 OU).set (Int.toNat 0) (Pp gS (-1) ⟨[].toArray⟩,mg):=rfl;rw[hps];refine⟨P.row.ext hx hG4.nb,fun i i0 i1=>(P.each i i0 i1).ext hx fun x hm=>?_,P.dj⟩;have hi8:i<8:=by simpa using i1
    have:=QE (List.replicate 8 OU) (Pp gS (-1) ⟨[].toArray⟩,mg) (i:=0) (j:=i) (I2 _) Qs i0;rw[this] at hm
    split at hm
    ·exact hmb x hm
    ·rw[EJ i0 hi8] at hm;simp[Qr,OU,QI] at hm
end
end Go.Proofs.YtnclplgaicdapaaGreatDoor
