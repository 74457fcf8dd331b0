/- Part 18 of what the law FnYield needs: the engine, the functions' propositions, the contracts. -/
import Derived.Test.YtnclplgaicdapaaGreatDoorFnYieldPq
namespace Go.Proofs.YtnclplgaicdapaaGreatDoor
open Go.RowKit
set_option linter.unusedVariables false
set_option linter.unusedSimpArgs false
set_option maxRecDepth 10000
set_option maxHeartbeats 8000000
def zvg(W:Q7)(t b c:Int):Bool:=(HH W c==0)||decide (HH W c+Qe (Q8 W t).nice<=HH W b-Qe (Q8 W t).nice)
def zbb(W:Q7)(b c:Int)(t:Nat):Bool:=(((Q8 W (t:Int)).cpu==b)&&JV W (t:Int) c)&&zvg W (t:Int) b c
def Ts(W:Q7)(b c:Int):Nat->Nat->Int
 | 0,_ => -1
 | f+1,j=>if zbb W b c j=true then (j:Int) else Ts W b c f (j+1)
theorem zl2{W:Q7}{b c:Int}{f j:Nat}(h:zbb W b c j=true):Ts W b c (f+1) j=(j:Int):=if_pos h
theorem zh7{W:Q7}{b c:Int}{f j:Nat}(h:zbb W b c j=false):Ts W b c (f+1) j=Ts W b c f (j+1):=if_neg (by rw[h]; decide)
noncomputable def zgm(W:Q7)(c:Int):Nat->Nat->Int
 | 0,_ => -1
 | f+1,k=>if Tn W c (k:Int)<0 then zgm W c f (k+1) else if Ts W (Tn W c (k:Int)) c 12 0<0 then zgm W c f (k+1) else Ts W (Tn W c (k:Int)) c 12 0
noncomputable def M1(W:Q7)(c:Int):Int:=zgm W c (BO (W.cpus.length:Int)).toNat 0
theorem zgo{W:Q7}{c:Int}{f k:Nat}(h:Tn W c (k:Int)<0):zgm W c (f+1) k=zgm W c f (k+1):=if_pos h
theorem zgn{W:Q7}{c:Int}{f k:Nat}(h:Ts W (Tn W c (k:Int)) c 12 0<0):zgm W c (f+1) k=zgm W c f (k+1):=by
 simp only[zgm]
 by_cases h0:Tn W c (k:Int)<0
 ·rw[if_pos h0]
 ·rw[if_neg h0,if_pos h]
theorem zgp{W:Q7}{c:Int}{f k:Nat}(h0:¬Tn W c (k:Int)<0)(h:¬Ts W (Tn W c (k:Int)) c 12 0<0):zgm W c (f+1) k=Ts W (Tn W c (k:Int)) c 12 0:=by
 simp only[zgm];rw[if_neg h0,if_neg h]
theorem Al{W:Q7}(wp:Xs W)(c:Int):0<=HH W c/\HH W c<=240:=by
 have:=UN (EW W c) W.tasks.length;have ht:=wp.a.t;unfold HH;omega
section
variable {W:Q7}{m:MW}{w:Wo}{bs:List Nat}{p:OA}
theorem Ad{t b c:Int}(h:YZ bs w W m)(wp:Xs W)(t0:0<=t)(t1:t<(W.tasks.length:Int)):PX bs TN #[.agg (Qa W m).toArray,.int .i64 t,.int .i64 b,.int .i64 c] w (.bool (zvg W t b c)):=
 AF W.now m.cO W.cpus.length m.cC m.tO W.tasks.length m.tC m.gO W.groups.length m.gC t b c fun wr hx=>by
  have h:=(h.ext hx).less (cs:=[]) (by simp);have r1:=Al wp c;have r2:=Al wp b;have r3:0<=Qe (gi W.tasks t).nice/\Qe (gi W.tasks t).nice<=20:=XG _;exact fun _ _=>⟨_,Vn h wp,h.t.ix QI t0 t1,_,h.t.f t0 t1 (j:=3) rfl,_,ZB,fun _=>⟨by omega,by omega⟩,_,fun _=>Vn h wp,fun _=>⟨by omega,by omega⟩,rfl⟩
theorem Ae{c:Int}(h:YZ bs w W m)(wp:Xs W)(c0:0<=c)(c1:c<(W.cpus.length:Int)):PX bs TO #[.agg (Qa W m).toArray,.int .i64 c] w (.int .i64 (M1 W c)):=
 AH W.now m.cO W.cpus.length m.cC m.tO W.tasks.length m.tC m.gO W.groups.length m.gC c fun wr hx=>by
  have h:=(h.ext hx).less (cs:=[]) (by simp);have hlv:=zkg (W.cpus.length:Int);have htl:=wp.a.t;intro _ _;refine YE 2 0 rfl (fun k=>(k:Int)<=BO (W.cpus.length:Int)/\zgm W c ((BO (W.cpus.length:Int)).toNat-k) k=M1 W c) ⟨hlv.1,rfl⟩ fun k ⟨hk,hI⟩=>⟨_,O1,fun hlt=>?_,fun hge=>?_⟩
  ·have hlt:=Ot hlt;have ek:(BO (W.cpus.length:Int)).toNat-k=((BO (W.cpus.length:Int)).toNat-(k+1))+1:=by omega
   rw[ek] at hI;have nxt:zgm W c ((BO (W.cpus.length:Int)).toNat-(k+1)) (k+1)=M1 W c->((k+1:Nat):Int)<=BO (W.cpus.length:Int)/\zgm W c ((BO (W.cpus.length:Int)).toNat-(k+1)) (k+1)=M1 W c:=fun hp=>⟨by omega,hp⟩
   refine⟨_,Hy,_,HB h wp c0 c1,fun g=>⟨⟨by omega,by omega⟩,Qr (by omega) (nxt ?_)⟩,fun g=>?_⟩
   ·rw[<-hI,zgo (show Tn W c (k:Int)<0 from Ot g)]
   ·have g:¬Tn W c (k:Int)<0:=Ou g;refine YE 12 0 rfl (fun j=>j<=12/\Ts W (Tn W c (k:Int)) c (12-j) j=Ts W (Tn W c (k:Int)) c 12 0) ⟨Nat.zero_le _,rfl⟩ fun j ⟨hj,hF⟩=>⟨fun hlt2=>?_,fun hge2=>?_⟩
    ·have hlt2:=Ot hlt2;have hj12:j<12:=by omega
     rw[show 12-j=(12-(j+1))+1 by omega] at hF;refine⟨h.t.ix QI (by omega) hlt2,_,h.t.f (by omega) hlt2 (j:=2) rfl,_,fun _=>MI h wp (by omega) hlt2 c0 c1,_,fun _=>Ad h wp (by omega) hlt2,fun g2=>?_,fun g2=>⟨⟨by omega,by omega⟩,Qr hj12 ⟨by omega,?_⟩⟩⟩
     ·have g2:zbb W (Tn W c (k:Int)) c j=true:=g2;rw[zl2 g2] at hF;rw[<-hI,zgp g (by rw[<-hF]; omega),<-hF]
     ·have g2:zbb W (Tn W c (k:Int)) c j=false:=g2;rw[<-hF,zh7 g2]
    ·have hge2:=Ou hge2;have:j=12:=by omega
     subst this;refine⟨⟨by omega,by omega⟩,Qr (by omega) (nxt ?_)⟩;rw[<-hI,zgn (by rw[<-hF]; show (-1:Int)<0; decide)]
  ·have hge:=Ou hge;have:(BO (W.cpus.length:Int)).toNat-k=0:=by omega
   rw[this] at hI;rw[<-hI]; rfl
theorem ziz(W:Q7)(c:Int) : -1<=M1 W c:=by
 have hf:∀(b:Int) (f j:Nat),-1<=Ts W b c f j:=fun b f=>by
  induction f with
  | zero=>intro j; exact Int.le_refl _
  | succ f ih=>
   intro j;simp only[Ts];split
   ·omega
   ·exact ih _
 have hp:∀(f k:Nat),-1<=zgm W c f k:=fun f=>by
  induction f with
  | zero=>intro k; exact Int.le_refl _
  | succ f ih=>
   intro k;simp only[zgm];split
   ·exact ih _
   ·split
    ·exact ih _
    ·exact hf _ _ _
 exact hp _ _
end
def CS(W:Q7)(g:Int)(j:Nat):Int:=A1 W g (j:Int)
theorem OE(W:Q7)(g c:Int)(h:W.tasks.length=12):0<=A1 W g c/\A1 W g c<=240:=by
 have:=UN (A0 W g c) W.tasks.length;unfold A1;omega
def zuc(a b:Int):Int:=if a>b then a else b
def OR(W:Q7)(g c:Int):Int:=
 if XH (CS W g) W.cpus.length=0 then (gi W.groups g).weight else zuc 1 (Int.tdiv ((gi W.groups g).weight*A1 W g c) (XH (CS W g) W.cpus.length))
theorem ztn{a b:Int}(ha:0<=a)(ha2:a<=100000)(hb:0<b):Qn .i64 (Int.tdiv a b):=by
 have h1:=Int.tdiv_nonneg ha (Int.le_of_lt hb);have h2:Int.tdiv a b<=a:=by rw[Int.tdiv_eq_ediv_of_nonneg ha]; exact Int.ediv_le_self _ ha
 exact⟨by omega,by omega⟩
theorem zab{a b:Int}{w:Wo}{bs:List Nat}:PX bs Ym #[.int .i64 a,.int .i64 b] w (.int .i64 (zuc a b)):=Vo
section
variable {W:Q7}{m:MW}{w:Wo}{bs:List Nat}{p:OA}
theorem zi8{g c:Int}(wp:TU W)(hu:Q6 W.groups g=true):0<=(gi W.groups g).weight*A1 W g c/\(gi W.groups g).weight*A1 W g c<=4800:=by
 have hw:=(wp.a.u hu).2.2;have hi:=OE W g c wp.a.t;have w1:=hw.w1;have w2:=hw.w2;refine⟨Int.mul_nonneg (by omega) hi.1,?_⟩;have:=Int.mul_le_mul w2 hi.2 hi.1 (show (0:Int)<=20 by decide);omega
theorem DB{g:Int}(wp:TU W)(k:Nat):0<=XH (CS W g) k/\XH (CS W g) k<=(k:Int)*240:=UN (fun j=>OE W g (j:Int) wp.a.t) k
theorem Bd{g c:Int}(h:YZ bs w W m)(wp:TU W)(hl:Xc W)(hu:Q6 W.groups g=true):PX bs VZ #[.agg (Qa W m).toArray,.int .i64 g,.int .i64 c] w (.int .i64 (OR W g c)):=
 Bu W.now m.cO W.cpus.length m.cC m.tO W.tasks.length m.tC m.gO W.groups.length m.gC g c fun wr hx=>by
  have h:=(h.ext hx).less (cs:=[]) (by simp);have hcl:=wp.a.c2;obtain⟨u1,u2,_⟩:=Q5.1 hu;intro _ _;refine Tx W.cpus.length 0 rfl (fun x k=>k<=W.cpus.length/\x=XH (CS W g) k) ⟨Nat.zero_le _,rfl⟩ fun x k ⟨hk,hx2⟩=>⟨fun hlt=>?_,fun hge=>⟨fun g2=>⟨h.g.ix u1 u2,_,(h.g.cells g u1 u2).get 3 _ rfl,?_⟩,fun g2=>?_⟩⟩
  ·have hlt:=Ot hlt;have hr:=DB (g:=g) wp k;have hi:=OE W g (k:Int) wp.a.t;exact⟨_,PR h wp hl hu,⟨by omega,by omega⟩,⟨by omega,by omega⟩,QA (by omega) ⟨by omega,by simp only[XH]; rw[hx2]; rfl⟩⟩
  ·have hge:=Ou hge;have:k=W.cpus.length:=by omega
   subst this;unfold OR;rw[if_pos (by rw[<-hx2]; simpa using g2)]
  ·have hge:=Ou hge;have:k=W.cpus.length:=by omega
   subst this;have hr:=DB (g:=g) wp W.cpus.length;have hp:=zi8 (c:=c) wp hu;have hne:x≠0:=by simpa using g2
   refine⟨h.g.ix u1 u2,_,(h.g.cells g u1 u2).get 3 _ rfl,A1 W g c,PR h wp hl hu,⟨by omega,by omega⟩,⟨hne,ztn hp.1 (by omega) (by omega)⟩,_,zab,?_⟩;unfold OR;rw[if_neg (by rw[<-hx2]; exact hne),hx2]
end
theorem zom{gs:List ZA}(ht:ZU gs){g:Int}:∀h:Int,Q6 gs h=true->g∈QX gs h->VF 3 gs g h=true:=
 OO ht (fun hx=>by rw[show QX gs 0=[] from Zc _ _] at hx; cases hx) fun h hu hz ih hx=>by
  by_cases e:h=g
  ·subst e; simp[VF]
  ·rw[zbp ht hu hz e];rw[Yi ht hu hz] at hx;rcases List.mem_cons.1 hx with e2 | e2
   ·exact absurd e2.symm e
   ·exact ih e2
theorem zk5(W:Q7)(g c x:Int):VA W (Mt W g c x):=by
 unfold Mt;split
 ·exact VA.refl _
 ·split
  ·exact(C5 _ _ _ _).trans (L5 _ _)
  ·exact C5 _ _ _ _
theorem Vx.wei{W:Q7}(p:Vx W){g c x:Int}(hu:Q6 W.groups g=true)(hz:g≠0)(c0:0<=c)(c1:c<(W.cpus.length:Int)):Vx (Mt W g c x):=by
 obtain⟨u0,u1,_⟩:=Q5.1 hu;have hl:=p.a.gl;have hsl:=p.a.sl hu;have c1':c<((gi W.groups g).shelves.length:Int):=by omega
 have e:∀{i j:Int},0<=i->0<=j->Qc (Jt W g c x) i j=if g=i/\c=j then Cc W g c x else Qc W i j:=fun hi hj=>J8 u0 u1 c0 c1' hi hj
 have hT:QS W.groups (Jt W g c x).groups:=Xm u0 u1
 have ef:∀{i j:Int},0<=i->0<=j->(Qc (Jt W g c x) i j).floor=(Qc W i j).floor:=fun {i j} hi hj=>by
  rw[e hi hj]; split
  ·rename_i h; obtain⟨rfl,rfl⟩:=h; rfl
  ·rfl
 have hpu:=p.a.up hu hz;have p0:=(Q5.1 hpu).1
 have same:∀{i j:Int},Q6 W.groups i=true->i≠0->0<=j->¬(g=i/\c=j)->UM W i j->UM (Jt W g c x) i j:=fun {i j} iu iz j0 hn h=>by
  unfold UM at h ⊢;rw[hT.p,ef (Q5.1 (p.a.up iu iz)).1 j0,e (Q5.1 iu).1 j0,if_neg hn];exact h
 have hA:PreA (Jt W g c x):=by
  refine⟨p.a.setSh u0 (by omega),fun t t0 t1=>?_,fun t t0 t1 n=>p.l t t0 t1 n,fun i j iu j0 j1=>?_⟩
  ·rcases p.t t t0 t1 with h | ⟨n,h⟩
   ·exact .inl h
   ·exact .inr ⟨n,h.st,by rw[hT.usd]; exact h.g,h.n,h.m,h.m0,h.s,h.u,h.l1,h.l2,fun h1=>by
     show (Qc (Jt W g c x) (Q8 W t).group (Q8 W t).cpu).floor<=(Q8 W t).v/\(Q8 W t).v-(Qc (Jt W g c x) (Q8 W t).group (Q8 W t).cpu).floor<=_;rw[ef (Q5.1 h.g).1 (p.l t t0 t1 n).1]; exact h.f h1⟩
  ·rw[hT.usd] at iu;have hs:=p.s i j iu j0 j1;have i0:=(Q5.1 iu).1
   by_cases h:g=i/\c=j
   ·obtain⟨rfl,rfl⟩:=h;refine⟨by rw[e i0 j0,if_pos ⟨rfl,rfl⟩]; exact hs.s,fun h0=>absurd h0 hz,fun _ ho=>?_⟩;rw[e i0 j0,if_pos ⟨rfl,rfl⟩] at ho;have ho:(Qc W g c).on=true:=ho;unfold UM;rw[hT.p,ef p0 j0,e i0 j0,if_pos ⟨rfl,rfl⟩];simp only[Cc];rw[if_pos ho];have:=ZQ ((Qc W g c).v-(Qc W (gi W.groups g).parent c).floor) x;omega
   ·refine⟨by rw[e i0 j0,if_neg h]; exact hs.s,by rw[e i0 j0,if_neg h]; exact hs.root,fun iz ho=>?_⟩;rw[e i0 j0,if_neg h] at ho;exact same iu iz j0 h (hs.st iz ho)
 have hC:∀d:Int,0<=d->d<(W.cpus.length:Int)->(d=c->ze5 (Jt W g c x) g c=false)->ztf (Jt W g c x) d:=fun d d0 d1 hd=>by
  have h:=p.c d d0 d1;refine⟨h.b,h.i,h.c1,h.c2,h.no,h.yes,fun h0 h1 h2=>?_⟩;obtain⟨q1,q2⟩:=h.q h0 h1 h2
  have hcu:Q6 W.groups (Q8 W (gi W.cpus d).cur).group=true:=by
   rcases p.t _ h0 h.c2 with hz | ⟨_,hx⟩
   ·have h1:(Q8 W (gi W.cpus d).cur).state=1:=h1;have h3:(Q8 W (gi W.cpus d).cur).state=0:=hz.1;rw[h3] at h1; cases h1
   ·exact hx.g
  refine⟨by show (Q8 W (gi W.cpus d).cur).v-(Qc (Jt W g c x) (Q8 W (gi W.cpus d).cur).group d).floor<=_; rw[ef (Q5.1 hcu).1 d0]; exact q1,fun y hy=>?_⟩;have hy:y∈QX W.groups (Q8 W (gi W.cpus d).cur).group:=by rw[<-Vs hT]; exact hy
  obtain⟨yu,yz⟩:=Yq p.a.tree _ hcu y hy;have y0:=(Q5.1 yu).1
  have hn:¬(g=y/\c=d):=by
   rintro⟨rfl,rfl⟩;have h3:=hd rfl;unfold ze5 at h3;have h4:=zom (hT.tree p.a.tree) (g:=g) (Q8 W (gi W.cpus c).cur).group (by rw[hT.usd]; exact hcu) (by rw[Vs hT]; exact hy);rw[show (gi (Jt W g c x).cpus c).cur=(gi W.cpus c).cur from rfl,decide_eq_true (show (gi W.cpus c).cur>=0 from h0),Bool.true_and] at h3;rw[show (Q8 (Jt W g c x) (gi W.cpus c).cur).group=(Q8 W (gi W.cpus c).cur).group from rfl,h4] at h3;cases h3
  obtain⟨s1,s2⟩:=q2 y hy;refine⟨same yu yz d0 hn s1,?_⟩;rw[hT.p,ef (Q5.1 (p.a.up yu yz)).1 d0,e y0 d0,if_neg hn];exact s2
 unfold Mt;split
 ·exact p
 ·split
  ·refine⟨hA.endW c0 c1,fun d d0 d1=>?_⟩;have hlen:(YtnclplgaicdapaaGreatDoor.endW (Jt W g c x) c).cpus.length=W.cpus.length:=List.length_set;have hcp:gi (YtnclplgaicdapaaGreatDoor.endW (Jt W g c x) c).cpus d=if c=d then Xd (gi W.cpus c) else gi W.cpus d:=Qw _ _ c0 c1 d0;rw[hlen] at d1
   by_cases ed:c=d
   ·subst ed;have h:=p.c c c0 c1;rw[if_pos rfl] at hcp;have n1:(Xd (gi W.cpus c)).cur = -1:=rfl;exact⟨by rw[hcp]; exact h.b,by rw[hcp]; exact h.i,by rw[hcp,n1]; exact Int.le_refl _,by rw[hcp,n1]; decide,fun _=>by rw[hcp]; rfl,fun h=>by rw[hcp,n1] at h; omega,fun h=>by rw[hcp,n1] at h; omega⟩
   ·have h:=hC d d0 d1 fun hd=>absurd hd.symm ed
    rw[if_neg ed] at hcp;exact⟨by rw[hcp]; exact h.b,by rw[hcp]; exact h.i,by rw[hcp]; exact h.c1,by rw[hcp]; exact h.c2,by rw[hcp]; exact h.no,by rw[hcp]; exact h.yes,by rw[hcp]; exact h.q⟩
  ·rename_i he;exact⟨hA,fun d d0 d1=>hC d d0 d1 fun _=>by simpa using he⟩
theorem SW.tu{K:Int}{W:Q7}(h:SW K W):TU W:=⟨h.a,fun t0 t1 hs=>h.li t0 t1 hs⟩
theorem zk8{f:Nat->Int}(h:∀j,0<=f j):∀m:Nat,0<=XH f m
 | 0=>Int.le_refl _
 | m+1=>by
  have ih:=zk8 h m;have:=h m;simp only[XH];omega
theorem zk7{f:Nat->Int}(h:∀j,0<=f j){k:Nat}:∀n:Nat,k<n->f k<=XH f n
 | 0,hk=>absurd hk (Nat.not_lt_zero k)
 | n+1,hk=>by
  simp only[XH];have hn:=zk8 h
  by_cases e:k=n
  ·subst e; have:=hn k; omega
  ·have:=zk7 h (k:=k) n (by omega);have:=h n;omega
theorem zg4{W:Q7}(wp:TU W){g c:Int}(hu:Q6 W.groups g=true)(c0:0<=c)(c1:c<(W.cpus.length:Int)):1<=OR W g c/\OR W g c<=(gi W.groups g).weight:=by
 have hg:=(wp.a.u hu).2.2;have w1:=hg.w1;have hi:=OE W g c wp.a.t
 have hall:A1 W g c<=XH (CS W g) W.cpus.length:=by
  have:=zk7 (f:=CS W g) (fun j=>(OE W g (j:Int) wp.a.t).1) (k:=c.toNat) W.cpus.length (by omega);unfold CS at this
  rwa[show ((c.toNat:Nat):Int)=c by omega] at this
 unfold OR;split
 ·omega
 ·rename_i hn
  have hp:0<XH (CS W g) W.cpus.length:=by
   have:=(DB (g:=g) wp W.cpus.length).1;omega
  have hq:Int.tdiv ((gi W.groups g).weight*A1 W g c) (XH (CS W g) W.cpus.length)<=(gi W.groups g).weight:=by
   rw[Int.tdiv_eq_ediv_of_nonneg (Int.mul_nonneg (by omega) hi.1)];refine Int.ediv_le_of_le_mul hp ?_;exact Int.mul_le_mul_of_nonneg_left hall (by omega)
  unfold zuc
  split <;> omega
theorem zg3{W:Q7}(wp:TU W){g c:Int}(hu:Q6 W.groups g=true)(c0:0<=c)(c1:c<(W.cpus.length:Int)):1<=OR W g c/\OR W g c<=20:=by
 have h:=zg4 wp hu c0 c1;have:=(wp.a.u hu).2.2.w2;omega
def Pn(W:Q7)(c:Int):Nat->Q7
 | 0=>W
 | k+1=>if k≠0/\(gi (Pn W c k).groups (k:Int)).used=true then Mt (Pn W c k) (k:Int) c (OR (Pn W c k) (k:Int) c) else Pn W c k
def Us(W:Q7)(c:Int):Q7:=Qg (Pn W c 8)
noncomputable def VD(W:Q7)(c:Int):Int:=M1 (Us W c) c
noncomputable def zc9(W:Q7)(c:Int):Q7:=if VD W c<0 then Us W c else Qg (UJ (Us W c) (VD W c) (Q8 (Us W c) (VD W c)).group c)
noncomputable abbrev Hc(W:Q7)(c:Int):Int:=Uu W c true 0
structure zsz (W V:Q7):Prop where
 sf:SF Qp (Qp+Qk) V
 fr:Fr W V
 cu:LQ V
 pre:Vx V
 sta:VA W V
theorem zc8{W:Q7}(wp:Xs W)(hr:Lx W){c:Int}(c0:0<=c)(c1:c<(W.cpus.length:Int)):∀k:Nat,k<=8->zsz W (Pn W c k)
 | 0,_=>⟨M3 (OT wp hr),Fr.refl _,zj0 wp,X5 wp,VA.refl _⟩
 | k+1,hk=>by
  have ih:=zc8 wp hr c0 c1 k (by omega);simp only[Pn];split
  ·rename_i h;have hl:=ih.sf.w.a.gl;have hu:Q6 (Pn W c k).groups (k:Int)=true:=Q5.2 ⟨by omega,by omega,h.2⟩;have c1':c<((Pn W c k).cpus.length:Int):=by rw[ih.fr.c]; exact c1
   have hs:=zg3 ih.sf.w.tu hu c0 c1';obtain⟨a,b,d⟩:=zlf ih.sf (Int.le_refl _) ih.cu hu (by omega) c0 c1' hs.1 hs.2;exact⟨a,ih.fr.trans b,d,ih.pre.wei hu (by omega) c0 c1',ih.sta.trans (zk5 _ _ _ _)⟩
  ·exact ih
theorem zda{W:Q7}{c:Int}(hW:Qv W=true)(hb:Hc W c=0):0<=c/\c<(W.cpus.length:Int)/\zsz W (Pn W c 8)/\Xs (Us W c)/\SW (Qp+Qk+UL) (Us W c)/\Fr W (Us W c):=by
 obtain⟨h1,_,_,h4⟩:=zdi hb;have wp:=Qh.1 hW;obtain⟨c0,c1⟩:=JG h1;have hB:=zc8 wp (Qh.1 h4) c0 c1 8 (Nat.le_refl _);have hs:=Tb hB.sf.w (by simp only[Qk]; decide);exact⟨c0,c1,hB,(C2 hB.sf.w (by simp only[Qk]; decide) (by simp only[Qk,UL]; decide) hB.pre (hB.sta.loc hB.fr.t (U1 wp))).1,hs.1,hB.fr.trans hs.2⟩
theorem NR{W:Q7}{b c:Int}:∀f j:Nat,0<=Ts W b c f j->∃i:Nat,Ts W b c f j=(i:Int)/\j<=i/\i<j+f/\zbb W b c i=true
 | 0,j,h=>by
  have:(0:Int)<=-1:=h;omega
 | f+1,j,h=>by
  simp only[Ts] at h ⊢;split
  ·rename_i hp;exact⟨j,rfl,Nat.le_refl _,by omega,hp⟩
  ·rename_i hp;rw[if_neg hp] at h;obtain⟨i,a,b',c',d⟩:=NR f (j+1) h;exact⟨i,a,by omega,by omega,d⟩
theorem zb7{W:Q7}{c:Int}(h:¬M1 W c<0):∃(i:Nat) (b:Int),M1 W c=(i:Int)/\i<12/\zbb W b c i=true:=by
 have key:∀f k:Nat,0<=zgm W c f k->∃(i:Nat) (b:Int),zgm W c f k=(i:Int)/\i<12/\zbb W b c i=true:=fun f=>by
  induction f with
  | zero=>intro k h; have:(0:Int)<=-1:=h; omega
  | succ f ih=>
   intro k h
   by_cases h0:Tn W c (k:Int)<0
   ·rw[zgo h0] at h ⊢; exact ih _ h
   ·by_cases h1:Ts W (Tn W c (k:Int)) c 12 0<0
    ·rw[zgn h1] at h ⊢; exact ih _ h
    ·rw[zgp h0 h1] at h ⊢;obtain⟨i,a,_,b,d⟩:=NR 12 0 h;exact⟨i,_,a,by omega,d⟩
 exact key _ _ (by have:=ziz W c; unfold M1 at *; omega)
theorem zsk{W:Q7}{c:Int}(h:¬M1 W c<0):0<=M1 W c/\M1 W c<12/\(Q8 W (M1 W c)).state=1:=by
 obtain⟨i,b,e,hi,hp⟩:=zb7 h;unfold zbb at hp;simp only[Bool.and_eq_true] at hp;rw[e];exact⟨by omega,by omega,(ER hp.1.2).1⟩
theorem zr2{W V:Q7}(hl:Xc W)(ha:WA V)(hT:QS W.groups V.groups):Xc V:=by
 have h1:=ha.c2;have h2:=ha.t;have h3:=ha.gl;have hm:=Zb;have hn1:=ha.n1;have hn2:=ha.n2;refine⟨by omega,by omega,by omega,fun i a b=>?_⟩;have hb:=PG ha a (by omega);have hg:=ha.grp i a (by omega);refine⟨by rw[hT.n]; exact(hl.f i a (by rw[<-hT.len]; exact b)).nm,?_,by omega,by omega,by omega⟩
 cases hu:(gi V.groups i).used with
 | false=>rw[(hg.1 hu).ne]; exact⟨by decide,by decide⟩
 | true=>
  have hg:=hg.2 hu
  by_cases hq:(gi V.groups i).band.quota=0
  ·rw[(hg.none hq).2.2]; exact⟨by decide,by decide⟩
  ·have:=hg.band hq;exact⟨by omega,by omega⟩
theorem zjv{W:Q7}{c:Int}(hW:Qv W=true)(hb:Hc W c=0)(hp:¬VD W c<0):0<=VD W c/\VD W c<12/\(Q8 (Us W c) (VD W c)).state=1/\Q6 (Us W c).groups (Q8 (Us W c) (VD W c)).group=true/\SF (Qp+Qk+UL) (Qp+Qk+UL+Qk) (Us W c)/\
  SF (Qp+Qk+UL) (Qp+Qk+UL+Qk) (UJ (Us W c) (VD W c) (Q8 (Us W c) (VD W c)).group c):=by
 obtain⟨c0,c1,_,wp,sw,fr⟩:=zda hW hb;obtain⟨p0,p1,ps⟩:=zsk hp;have sf:SF (Qp+Qk+UL) (Qp+Qk+UL+Qk) (Us W c):=sw.sf.mono (Int.le_refl _) (by simp only[Qk]; omega);have hu:=(sw.t _ p0 p1 (show (Q8 (Us W c) (VD W c)).state≠0 by unfold VD; rw[ps]; decide)).1;exact⟨p0,p1,ps,hu,sf,(BS sf (Int.le_refl _) p0 p1 hu c0 (by rw[fr.c]; exact c1)).2⟩
section
variable {base pb:Nat}{W W':Q7}{m:MW}{w:Wo}
theorem Hx{c:Int}(h:YZ [] w W m)(hl:Xc W) :
  Cz UB #[.agg (Qa W m).toArray,.int .i64 c] w fun e w'=>∃v,e=.returned v/\QG (YG W (Hc W c) (zc9 W c)) w v w':=by
 refine Hf W.now m.cO W.cpus.length m.cC m.tO W.tasks.length m.tC m.gO W.groups.length m.gC c (R:=fun v w'=>QG (YG W (Hc W c) (zc9 W c)) w v w') ?_;intro y hy y1 hy1 wr hx2 hs2;have hm0:=Xa;have hlc:=hl.c;refine Calls.mono (Z5 (h.ext hx2) hl) ?_;rintro e wv (⟨hW,he,hy2⟩ | ⟨hW,m',he,hM,hy2⟩)
 ·exact⟨_,_,_,_,_,_,_,_,_,_,_,he,Qd hy2 hs2,fun g=>by simp at g,true,fun g=>by simp at g,fun _ wr1 hx3=>QG.bad hW ((hx2.trans hy2).fresh hx3 fun z hm=>.inl (Yr hy hy1 z hm)),fun g=>by simp at g⟩
 have hK:=Wk.begin hy hy1 hx2 hs2 hM hy2;have hr:=hK.rd;have wp:=Qh.1 hW;refine⟨_,_,_,_,_,_,_,_,_,_,_,he,Qd hy2 hs2,fun _=>⟨by omega,by omega⟩,YJ W c,fun _=>Qj,fun g wr1 hx3=>?_,fun g=>?_⟩
 ·have g:YJ W c=false:=by
   cases hc:YJ W c with
   | false=>rfl
   | true=>rw[hc] at g; split at g <;> simp at g
  have hb:Hc W c=1:=by unfold Hc Uu; rw[if_pos g]
  exact QG.no hW (by rw[hb]; decide) (hK.step hx3) hb
 have g:YJ W c=true:=by
  cases hc:YJ W c with
  | true=>rfl
  | false=>rw[hc] at g; simp at g
 obtain⟨c0,c1⟩:=JG g;refine⟨hr.c.ix Zh c0 c1,_,hr.c.f c0 c1 (j:=0) rfl,fun g2 wr2 hx3=>?_,fun g2=>⟨fun g3 wr3 hx3=>?_,fun g3=>?_⟩⟩
 ·have g2:(gi W.cpus c).up=false:=by simpa using g2
  have hb:Hc W c=6:=by unfold Hc Uu; rw[if_neg (by rw[g]; decide),if_pos (by rw[g2]; decide)]
  exact QG.no hW (by rw[hb]; decide) (hK.step hx3) hb
 ·have g2:(gi W.cpus c).up=true:=by simpa using g2
  have hr0:¬QK W=true:=fun hr=>by rw[if_pos hr] at g3; simp at g3
  have hb:Hc W c=10:=by unfold Hc; rw[KQ g g2 rfl,if_pos (by simpa using hr0)]
  rw[if_neg hr0];exact QG.no hW (by rw[hb]; decide) (hK.step hx3) hb
 have g2:(gi W.cpus c).up=true:=by simpa using g2
 have hr0:QK W=true:=Decidable.byContradiction fun hr=>by rw[if_neg hr] at g3; simp at g3
 have hb:Hc W c=0:=by unfold Hc; rw[KQ g g2 rfl,if_neg (by rw[hr0]; decide)]
 obtain⟨_,_,hB8,wpS,swS,frS⟩:=zda hW hb;refine⟨fun vs w1=>∃k:Nat,vs=.int .i64 (k:Int)::Qa W m'/\1<=k/\k<=8/\Wk 8 [y,y1] w w1 (Pn W c k) m',Zu 8 0,fun w1 hx0 _=>⟨1,rfl,by decide,by decide,hK.step hx0⟩,?_⟩;rintro g1 l l1O l1L l1C l2O l2L l2C l3O l3L l3C wv2 hs3 ⟨k,he2,hk1,hk8,hKk⟩;have hOk:=zc8 wp (Qh.1 hr0) c0 c1 k hk8;have e0:Qa (Pn W c k) m'=Qa W m':=O4 hOk.fr;have hdef:Pn W c (k+1)=if k≠0/\(gi (Pn W c k).groups (k:Int)).used=true then Mt (Pn W c k) (k:Int) c (OR (Pn W c k) (k:Int) c) else Pn W c k:=rfl;have hgl:=hOk.sf.w.a.gl;have hWgl:=wp.a.gl;simp only[Qa,List.cons.injEq,Value.int.injEq,Value.slice.injEq,true_and,and_true] at he2;obtain⟨rfl,rfl,⟨rfl,rfl,rfl⟩,⟨rfl,rfl,rfl⟩,rfl,rfl,rfl⟩:=he2;refine⟨fun hlt=>?_,fun hge wr10 hx10 hs10=>?_⟩
 ·have hlt:=Ot hlt;have hrk:=hKk.rd;have hix:=hrk.g.ix (i:=(k:Int)) (by omega) (by omega);rw[hgl] at hix;rw[hWgl] at hlt ⊢;refine⟨hix,_,Ut ((hrk.g.cells (k:Int) (by omega) (by omega)).get 0 _ rfl),fun gu=>?_,fun gu=>⟨⟨by omega,by omega⟩,fun wr9 hx9 _=>⟨⟨k+1,by rw[<-hWgl]; rfl,by omega,by omega,?_⟩,?_⟩⟩⟩
  ·have hu:Q6 (Pn W c k).groups (k:Int)=true:=Q5.2 ⟨by omega,by omega,gu⟩;have c1':c<((Pn W c k).cpus.length:Int):=by rw[hOk.fr.c]; exact c1
   have hsh:=zg3 hOk.sf.w.tu hu c0 c1';have hshare:=Bd (c:=c) hrk hOk.sf.w.tu (zr2 hl hOk.sf.w.a hOk.fr.g) hu;rw[e0] at hshare;simp only[Qa] at hshare;rw[hWgl] at hshare;refine⟨_,hshare,fun wr7 hx7 hs7=>?_⟩;have hK7:=hKk.step hx7;have hcall:=PP hK7.own hOk.sf (Int.le_refl _) (by simp only[Qk]; decide) hOk.cu (x:=OR (Pn W c k) (k:Int) c) hu (by omega) c0 c1';rw[e0] at hcall;simp only[Qa] at hcall;rw[hWgl] at hcall;refine Calls.mono hcall ?_;rintro e1 wv3 ⟨he1,hy3⟩;refine⟨_,_,_,_,_,_,_,_,_,_,he1,hK7.kept hy3 hs7,⟨by omega,by omega⟩,fun wr8 hx8 _=>⟨⟨k+1,by rw[<-hWgl]; rfl,by omega,by omega,?_⟩,?_⟩⟩
   ·rw[hdef,if_pos ⟨by omega,gu⟩];exact(hK7.deed hy3 hs7).step hx8
   ·simp only[Zu,XK,Y5,List.getElem?_cons_zero]; omega
  ·rw[hdef,if_neg (by rintro⟨_,h⟩; rw[show (gi (Pn W c k).groups (k:Int)).used=false from gu] at h; cases h)];exact hKk.step hx9
  ·simp only[Zu,XK,Y5,List.getElem?_cons_zero]; omega
 ·have hge:=Ou hge;have:k=8:=by omega
  subst this;have hK10:=hKk.step hx10;have hcall:=Qq hK10.own hB8.sf.w (by simp only[Qk]; decide) (by simp only[Qk]; decide) hK10.base;rw[e0] at hcall;refine Calls.mono hcall ?_;rintro e3 wv5 ⟨m2,he3,hy5⟩;have hK11:Wk 8 [y,y1] w wv5 (Us W c) m2:=hK10.deed hy5 hs10;have hr11:=hK11.rd;have hpull:=Ae hr11 wpS c0 (by rw[frS.c]; exact c1);refine⟨_,_,_,_,_,_,_,_,_,_,he3,hK10.kept hy5 hs10,_,hpull,fun g5=>?_,fun g5 wr14 hx14=>?_⟩
  ·have g5:¬VD W c<0:=by have:=Ot g5; unfold VD; omega
   obtain⟨p0,p1,ps,hu,sf,sfP⟩:=zjv hW hb g5;have htl:=wpS.a.t;refine⟨hr11.t.ix QI p0 (by rw[htl]; exact p1),_,hr11.t.f p0 (by rw[htl]; exact p1) (j:=1) rfl,fun wr11 hx11 hs11=>?_⟩;have hK12:=hK11.step hx11;refine Calls.mono (U7 hK12.own sf (Int.le_refl _) (by simp only[Qk,UL]; decide) (t:=VD W c) (g:=(Q8 (Us W c) (VD W c)).group) (c:=c) p0 p1 (by rw[ps]; decide) hu c0 (by rw[frS.c]; exact c1)) ?_;rintro e4 wv6 ⟨he4,hy6⟩;refine⟨_,_,_,_,_,_,_,_,_,_,he4,hK12.kept hy6 hs11,fun wr12 hx12 hs12=>?_⟩;have hK13:=(hK12.deed hy6 hs11).step hx12
   have ePut:Qa (UJ (Us W c) (VD W c) (Q8 (Us W c) (VD W c)).group c) m2=Qa (Us W c) m2:=by
    obtain⟨q1,q2,q3,q4⟩:=zps (Us W c) (VD W c) (Q8 (Us W c) (VD W c)).group c;simp only[Qa,q1,q2,q3,q4]
   have hcall2:=Qq hK13.own sfP.w (by simp only[Qk,UL]; decide) (by simp only[Qk,UL]; decide) hK13.base;rw[ePut] at hcall2;refine Calls.mono hcall2 ?_;rintro e5 wv7 ⟨m3,he5,hy7⟩;refine⟨_,_,_,_,_,_,_,_,_,_,he5,hK13.kept hy7 hs12,fun wr13 hx13=>?_⟩;have hE:zc9 W c=Qg (UJ (Us W c) (VD W c) (Q8 (Us W c) (VD W c)).group c):=by unfold zc9; rw[if_neg g5]
   rw[hE];exact QG.ok hW hb ((hK13.deed hy7 hs12).step hx13)
  ·have g5:VD W c<0:=by have:=Ou g5; unfold VD; omega
   have hE:zc9 W c=Us W c:=by unfold zc9; rw[if_pos g5]
   rw[hE];exact QG.ok hW hb (hK11.step hx14)
end
theorem zf6{W:Q7}{g n x:Int}(hW:Qv W=true)(hb:Tt W g n x=0):XU (zfx W g n x):=by
 have wp:=Qh.1 hW;have h:=zj5 hW hb;have p:=X5 wp
 have hT:GP W (Kh W g n x):=⟨.inl rfl,h.u,h.w,h.m,h.m0,by show Zz 0=true; decide,by show Zz 0=true; decide,Int.le_refl _,by show (0:Int)<=8000000; decide,fun _=>by
  have:=(ZN (Qe n)).1;show (Qc W g (MA W g x)).floor<=(Qc W g (MA W g x)).floor/\(Qc W g (MA W g x)).floor-(Qc W g (MA W g x)).floor<=Zq (Qe n);omega⟩
 exact Zn (h.sw2.endW h.c0 h.c1) (by decide) (by decide) (BQ p h.f0 h.f1 (show (1:Int)≠0 by decide) hT rfl h.c0 h.c1) (((U1 wp).setTk wp.a h.f0 h.f1 (x:=Kh W g n x) fun _=>h.ch).endW _)
theorem zrs{W:Q7}{g x:Int}(hW:Qv W=true)(hb:zhi W g x=0):XU (zqj W g x):=by
 have wp:=Qh.1 hW;obtain⟨h1,hz,hu,_,_,sf,cu,hT⟩:=zqk hW hb;have hx:=Qo.1 h1;have hu':Q6 (setGr W g (M6 W g x)).groups g=true:=by rw[hT.usd]; exact hu
 have p1:Vx (setGr W g (M6 W g x)):=(X5 wp).same sf.w.a rfl rfl hT (zi9 rfl);have l1:BZ (setGr W g (M6 W g x)):=(U1 wp).same rfl hT (fun i=>Yw (f:=ZA.cpus) W.groups g (x:=M6 W g x) rfl i) rfl;have hlen:(setGr W g (M6 W g x)).cpus.length=W.cpus.length:=rfl;show XU (Qg (KL (setGr W g (M6 W g x)) g x W.cpus.length));rw[<-hlen];generalize setGr W g (M6 W g x)=V at sf cu hu' p1 l1
 have all:∀k:Nat,k<=V.cpus.length->Vx (KL V g x k)/\VA V (KL V g x k):=by
  intro k
  induction k with
  | zero=>exact fun _=>⟨p1,VA.refl _⟩
  | succ k ih=>
   intro hk;obtain⟨a,b⟩:=ih (by omega);exact⟨a.wei (by rw[b.g.usd]; exact hu') hz (by omega) (by rw[b.len]; omega),b.trans (zk5 _ _ _ _)⟩
 obtain⟨a,b⟩:=all _ (Nat.le_refl _);obtain⟨sf2,fr,_⟩:=ze6 sf (Int.le_refl _) cu hu' hz hx.1 hx.2 V.cpus.length (Nat.le_refl _);exact Zn sf2.w (by simp only[Qk]; decide) (by simp only[Qk,UL]; decide) a (b.loc fr.t l1)
theorem zlt{W:Q7}{t c:Int}(h:JV W t c=true):Z8 (Qs W (Q8 W t).group (Q8 W t).mask) c=true:=by
 unfold JV at h;simp only[Bool.and_eq_true,Bool.not_eq_true',Bool.or_eq_false_iff,Bool.not_eq_false'] at h;exact h.1.2
theorem zrj{W:Q7}{c:Int}(hW:Qv W=true)(hb:Hc W c=0):XU (zc9 W c):=by
 have wp:=Qh.1 hW;obtain⟨c0,c1,hB,wpS,swS,frS⟩:=zda hW hb;have iS:XU (Us W c):=Zn hB.sf.w (by simp only[Qk]; decide) (by simp only[Qk,UL]; decide) hB.pre (hB.sta.loc hB.fr.t (U1 wp));unfold zc9;split
 ·exact iS
 ·rename_i hp;obtain⟨p0,p1,ps,pu,_,sf⟩:=zjv hW hb hp;obtain⟨i,b,e,hi,ht⟩:=zb7 hp;have e:VD W c=(i:Int):=e;unfold zbb at ht;simp only[Bool.and_eq_true] at ht;have hcd:=zlt ht.1.2;rw[<-e] at hcd;have cS:c<((Us W c).cpus.length:Int):=by rw[frS.c]; exact c1
  clear hp iS swS frS hB ht e;have hK0:0<=Qp+Qk+UL+Qk:=by decide
  have hK1:Qp+Qk+UL+Qk+UL<=100000000000000000:=by decide
  have hcd:Z8 (Qs (Us W c) (Q8 (Us W c) (VD W c)).group (Q8 (Us W c) (VD W c)).mask) c=true:=hcd;generalize VD W c=q at *;generalize Us W c=V at *;refine Zn sf.w hK0 hK1 (AS (X5 wpS) p0 p1 (by rw[ps]; decide) pu c0 cS) fun t t0 t1 n=>?_
  rw[(BU V _ _ _).wh];rw[zi1 wpS.a.t p0 p1 t0] at n ⊢
  split at n
  ·rename_i he;rw[if_pos he];exact hcd
  ·rename_i he;rw[if_neg he];exact U1 wpS t t0 t1 n
def zak:Mx:=⟨0,false,0,10,0⟩
def Oa(n:Nat)(p:Int)(name:ByteArray):ZA:=⟨true,p,name,10,15,0,0,0,⟨0,0,0,[],[]⟩,List.replicate n zak⟩
def Ce:ZA:=⟨false,0,⟨[].toArray⟩,0,0,0,0,0,⟨0,0,0,[],[]⟩,[]⟩
def Js(n:Nat):Q7:=⟨0,List.replicate n ⟨true,-1,0,0,0⟩,List.replicate 12 VK,(List.replicate 8 Ce).set 0 (Oa n (-1) ⟨[].toArray⟩)⟩
section
variable {n:Nat}
theorem Gn(k:Int)(k0:0<=k)(k1:k<8):gi (Js n).groups k=if k=0 then Oa n (-1) ⟨[].toArray⟩ else Ce:=by
 have:=Qw (List.replicate 8 Ce) (Oa n (-1) ⟨[].toArray⟩) (i:=0) (j:=k) (Int.le_refl _) (by decide) k0;show gi ((List.replicate 8 Ce).set (0:Int).toNat _) k=_;rw[this]
 by_cases h:k=0
 ·rw[if_pos h.symm,if_pos h]
 ·rw[if_neg fun e=>h e.symm,if_neg h,TR _ _ k0 (by omega)]
theorem zpd:(Js n).groups.length=8:=by simp[Js]
theorem zpc(c:Int)(c0:0<=c)(c1:c<(n:Int)):gi (Js n).cpus c=⟨true,-1,0,0,0⟩:=TR _ _ c0 c1
theorem zpe(t:Int)(t0:0<=t)(t1:t<12):Q8 (Js n) t=VK:=TR 12 _ t0 (by omega)
theorem zug(c:Int)(c0:0<=c)(c1:c<(n:Int)):Qc (Js n) 0 c=zak:=by
 unfold Qc;rw[Gn 0 (Int.le_refl _) (by decide),if_pos rfl];exact TR _ _ c0 c1
theorem zmk:ZU (Js n).groups:=by
 have g0:gi (Js n).groups 0=Oa n (-1) ⟨[].toArray⟩:=by rw[Gn 0 (Int.le_refl _) (by decide),if_pos rfl]
 have un:∀g:Int,1<=g->g<8->(gi (Js n).groups g).used=true->False:=fun g a b h=>by
  rw[Gn g (by omega) b,if_neg (by omega)] at h; cases h
 exact⟨zpd,by rw[g0]; rfl,by rw[g0]; rfl,by rw[g0]; rfl,fun g a b h=>(un g a b h).elim,fun g a b h=>(un g a b h).elim,fun g a b h=>(un g a b h).elim,fun g k a b d h=>(un g (by omega) d h).elim⟩
theorem zsd(n0:1<=n)(n1:n<=4):WA (Js n):=by
 have hcl:(Js n).cpus.length=n:=by simp[Js]
 refine⟨Int.le_refl _,by show (0:Int)<=_; decide,by omega,by omega,by simp[Js],zmk,EL (c:=0) (by omega) (Int.le_refl _) (by omega) (by rw[zpc 0 (Int.le_refl _) (by omega)]),fun k k0 k1=>?_⟩;unfold Pl;rw[Gn k k0 k1];split
 ·refine⟨fun h=>(by cases h),fun _=>⟨show (1:Int)<=10 by decide,show (10:Int)<=20 by decide,show O9 15=true by decide,show (15:Int)≠0 by decide,show Zz 0=true by decide,by simp[Oa,hcl],fun _=>⟨rfl,rfl,rfl⟩,fun _=>⟨show T7 ⟨0,0,0,[],[]⟩=true by decide,rfl,rfl⟩,fun h=>absurd rfl h⟩⟩
 ·exact⟨fun _=>⟨rfl,rfl,rfl,rfl,rfl,rfl,rfl,rfl,by decide⟩,fun h=>by cases h⟩
theorem zro(n0:1<=n)(n1:n<=4):XU (Js n):=by
 have ha:=zsd n0 n1;have hcl:(Js n).cpus.length=n:=by simp[Js]
 have hmt:∀(k c:Int) (j:Nat),j<12->TH (Js n) k c j=false:=fun k c j hj=>by
  unfold TH;rw[show gi (Js n).tasks (j:Int)=VK from zpe (j:Int) (by omega) (by omega)];rfl
 have hmg:∀(k c:Int) (j:Nat),j<8->XV (Js n) k c j=false:=fun k c j hj=>by
  unfold XV;rw[Gn (j:Int) (by omega) (by omega)]
  by_cases h:(j:Int)=0
  ·rw[show decide (1<=j)=false from decide_eq_false (by omega)]; rfl
  ·rw[if_neg h];simp[Ce]
 refine⟨⟨ha,fun t t0 t1=>.inl ?_,fun k c k0 k1 c0 c1=>?_,fun c c0 c1=>?_⟩,fun k c hu c0 c1 hb=>?_⟩
 ·rw[zpe t t0 t1]; exact⟨rfl,rfl⟩
 ·by_cases hk:k=0
  ·subst hk;rw[Gn 0 k0 k1,if_pos rfl] at c1;have c1:c<(n:Int):=by simpa[Oa] using c1
   have e:=zug c c0 c1;refine⟨?_,?_,?_,?_,?_,fun _=>?_,fun h=>absurd rfl h,fun h=>absurd rfl h⟩ <;> rw[e]
   ·decide
   ·decide
   ·decide
   ·decide
   ·decide
   ·exact⟨rfl,rfl,rfl⟩
  ·rw[Gn k k0 k1,if_neg hk] at c1;have c1:c<0:=c1;omega
 ·rw[hcl] at c1;have e:=zpc c c0 c1;refine⟨by rw[e]; decide,by rw[e]; decide,by rw[e]; decide,by rw[e]; show (-1:Int)<((Js n).tasks.length:Int); simp[Js],fun _=>by rw[e],fun h=>?_⟩;rw[e] at h;have h:(0:Int)<=-1:=h;omega
 ·unfold ZH at hb;have hb:=Ot hb;rcases Zf (Zi (Js n) k c) (Zj (Js n) c) 20 with ⟨a,_⟩ | ⟨_,h2,h3,_⟩
  ·rw[a] at hb; omega
  ·exfalso
   have hlt:(QM (Zi (Js n) k c) (Zj (Js n) c) 20).toNat<20:=by omega
   generalize (QM (Zi (Js n) k c) (Zj (Js n) c) 20).toNat=j at h3 hlt
   by_cases hj:j<12
   ·rw[Vq hj,hmt k c j hj] at h3; cases h3
   ·rw[show j=12+(j-12) by omega,JA,hmg k c (j-12) (by omega)] at h3; cases h3
end
theorem zfl{gs:List ZA}(ht:ZU gs):∀(f:Nat) (h:Int),Q6 gs h=true->dep 3 gs h<=(f:Int)->dep f gs h=dep 3 gs h
 | 0,h,hu,hd=>by
  by_cases hz:h=0
  ·subst hz; rw[Y8,Y8]
  ·obtain⟨_,_,_,d,e,_⟩:=ZZ ht hu hz;omega
 | f+1,h,hu,hd=>by
  by_cases hz:h=0
  ·subst hz; rw[Y8,Y8]
  ·obtain⟨hp,_,_,d,e,e2,_⟩:=ZZ ht hu hz;have ih:=zfl ht f _ hp (by omega);show (if h=0 then 0 else if dep f gs (gi gs h).parent<0 then -1 else dep f gs (gi gs h).parent+1)=_;rw[if_neg hz,ih,e2,if_neg (by omega),e]
structure Ch (W:Q7) (a p:Int) (name:ByteArray):Prop where
 a1:1<=a
 a8:a<8
 fr:(gi W.groups a).used=false
 up:Q6 W.groups p=true
 nm:JC name=true
 no:∀h:Int,1<=h->h<8->(gi W.groups h).used=true->¬((gi W.groups h).parent=p/\(gi W.groups h).name=name)
 dp:dep 3 W.groups p≠3
def TF(W:Q7)(a p:Int)(name:ByteArray):Q7:=setGr W a (Oa W.cpus.length p name)
section
variable {W:Q7}{a p:Int}{name:ByteArray}
theorem EX(ha:WA W)(h:Ch W a p name){i:Int}(hi:0<=i):gi (TF W a p name).groups i=if a=i then Oa W.cpus.length p name else gi W.groups i:=Yj (by have:=h.a1; omega) (by have:=ha.gl; have:=h.a8; omega) hi
theorem zpa(h:Ch W a p name){k:Int}(hu:Q6 W.groups k=true):a≠k:=fun e=>by
 have:=(Q5.1 hu).2.2;rw[<-e,h.fr] at this;cases this
theorem Gm(ha:WA W)(h:Ch W a p name){k:Int}(hu:Q6 W.groups k=true):gi (TF W a p name).groups k=gi W.groups k:=by
 rw[EX ha h (Q5.1 hu).1,if_neg (zpa h hu)]
theorem Ks(ha:WA W)(h:Ch W a p name):gi (TF W a p name).groups a=Oa W.cpus.length p name:=by
 rw[EX ha h (by have:=h.a1; omega),if_pos rfl]
theorem zec(ha:WA W):(TF W a p name).groups.length=8:=by
 have:=ha.gl;simp[TF,setGr]; omega
theorem HJ(ha:WA W)(h:Ch W a p name){k:Int}:Q6 (TF W a p name).groups k=true↔Q6 W.groups k=true\/k=a:=by
 have hgl:=ha.gl;have a1:=h.a1;have a8:=h.a8;rw[Q5,Q5,zec ha,hgl];constructor
 ·rintro⟨x,y,z⟩;rw[EX ha h x] at z
  by_cases e:a=k
  ·exact .inr e.symm
  ·rw[if_neg e] at z;exact .inl ⟨x,y,z⟩
 ·rintro (⟨x,y,z⟩ | rfl)
  ·refine⟨x,y,?_⟩;rw[EX ha h x,if_neg fun e=>by rw[<-e,h.fr] at z; cases z];exact z
  ·refine⟨by omega,by omega,?_⟩;rw[Ks ha h]; rfl
theorem zio(ha:WA W)(h:Ch W a p name):∀(f:Nat) (k:Int),Q6 W.groups k=true->dep f (TF W a p name).groups k=dep f W.groups k
 | 0,_,_=>rfl
 | f+1,k,hu=>by
  by_cases hz:k=0
  ·subst hz; rw[Y8,Y8]
  ·have ih:=zio ha h f _ (ZZ ha.tree hu hz).1;simp only[dep];rw[Gm ha h hu,ih]
theorem zee(ha:WA W)(h:Ch W a p name):∀(f:Nat) (k:Int),Q6 W.groups k=true->JS f (TF W a p name).groups k=JS f W.groups k
 | 0,_,_=>rfl
 | f+1,k,hu=>by
  by_cases hz:k=0
  ·subst hz; rw[Zc,Zc]
  ·have ih:=zee ha h f _ (ZZ ha.tree hu hz).1;simp only[JS];rw[Gm ha h hu,ih]
theorem zvj(ha:WA W)(h:Ch W a p name):dep 3 (TF W a p name).groups a=dep 3 W.groups p+1/\0<=dep 3 W.groups p:=by
 have hr:=Kb ha h.up;have hd:=h.dp;have e:=zfl ha.tree 2 p h.up (by omega);refine⟨?_,hr.1⟩;show (if a=0 then 0 else if dep 2 (TF W a p name).groups (gi (TF W a p name).groups a).parent<0 then -1 else dep 2 (TF W a p name).groups (gi (TF W a p name).groups a).parent+1)=_;rw[if_neg (by have:=h.a1; omega),Ks ha h];show (if dep 2 (TF W a p name).groups p<0 then -1 else dep 2 (TF W a p name).groups p+1)=_;rw[zio ha h 2 p h.up,e,if_neg (by omega)]
theorem zsc(ha:WA W)(h:Ch W a p name):ZU (TF W a p name).groups:=by
 have ht:=ha.tree;have hgl:=ha.gl;have a1:=h.a1;have r:=Gm ha h ha.root
 have sp:∀{g:Int},1<=g->g<8->(gi (TF W a p name).groups g).used=true->g=a\/(Q6 W.groups g=true/\gi (TF W a p name).groups g=gi W.groups g):=fun {g} b d hh=>by
  rcases (HJ ha h).1 (Q5.2 ⟨by omega,by rw[zec ha]; omega,hh⟩) with e | e
  ·exact .inr ⟨e,Gm ha h e⟩
  ·exact .inl e
 refine⟨zec ha,by rw[r]; exact ht.ru,by rw[r]; exact ht.rp,by rw[r]; exact ht.rn,fun g b d hh=>?_,fun g b d hh=>?_,fun g b d hh=>?_,fun g k b d e hg hk=>?_⟩
 ·rcases sp b d hh with rfl | ⟨hu,e⟩
  ·rw[Ks ha h]; exact h.nm
  ·rw[e] at hh ⊢; exact ht.nm g b d hh
 ·rcases sp b d hh with rfl | ⟨hu,e⟩
  ·rw[Ks ha h]; exact(HJ ha h).2 (.inl h.up)
  ·rw[e] at hh ⊢; exact(HJ ha h).2 (.inl (ht.par g b d hh))
 ·rcases sp b d hh with rfl | ⟨hu,e⟩
  ·have:=zvj ha h; omega
  ·rw[zio ha h 3 g hu]; exact ht.dp g b d (Q5.1 hu).2.2
 ·rintro⟨q1,q2⟩;rcases sp (by omega) e hg with hga | ⟨hu,eg⟩
  ·rcases sp b (by omega) hk with hka | ⟨hu2,ek⟩
   ·omega
   ·rw[hga,Ks ha h,ek] at q1 q2;exact h.no k b (by omega) (Q5.1 hu2).2.2 ⟨q1,q2⟩
  ·rcases sp b (by omega) hk with hka | ⟨hu2,ek⟩
   ·rw[hka,Ks ha h,eg] at q1 q2;exact h.no g (by omega) e (Q5.1 hu).2.2 ⟨q1.symm,q2.symm⟩
   ·rw[eg,ek] at q1 q2;exact ht.uniq g k b d e (Q5.1 hu).2.2 (Q5.1 hu2).2.2 ⟨q1,q2⟩
end
section
variable {W:Q7}{a p:Int}{name:ByteArray}
theorem Mj(ha:WA W)(h:Ch W a p name){k c:Int}(hu:Q6 W.groups k=true):Qc (TF W a p name) k c=Qc W k c:=by
 unfold Qc;rw[Gm ha h hu]
theorem zkj(ha:WA W)(h:Ch W a p name){c:Int}(c0:0<=c)(c1:c<(W.cpus.length:Int)):Qc (TF W a p name) a c=zak:=by
 unfold Qc;rw[Ks ha h];exact TR _ _ c0 c1
theorem zki(ha:WA W)(h:Ch W a p name){k c:Int}(c0:0<=c)(c1:c<(W.cpus.length:Int))(j:Nat)(hj:j<8):XV (TF W a p name) k c j=XV W k c j:=by
 have a1:=h.a1;unfold XV
 by_cases e:a=(j:Int)
 ·rw[<-e,zkj ha h c0 c1,h.fr];show (_&&_&&zak.on)=_;simp[zak]
 ·rw[EX ha h (by omega),if_neg e]
  have:Qc (TF W a p name) (j:Int) c=Qc W (j:Int) c:=by
   unfold Qc;rw[EX ha h (by omega),if_neg e]
  rw[this]
theorem zo9(ha:WA W)(h:Ch W a p name){k c:Int}(c0:0<=c)(c1:c<(W.cpus.length:Int)):QP (TF W a p name) k c=QP W k c:=by
 unfold QP;rw[show VC (TH (TF W a p name) k c) (TF W a p name).tasks.length=VC (TH W k c) W.tasks.length from rfl,zec ha,ha.gl];rw[PE fun j hj=>zki ha h c0 c1 j hj]
theorem zed(wp:Xs W)(h:Ch W a p name){c:Int}(j:Nat)(hj:j<20):Zi W a c j=false:=by
 by_cases hj12:j<12
 ·rw[Vq hj12];unfold TH;rcases wp.t (j:Int) (by omega) (by omega) with hz | ⟨_,hx⟩
  ·have:(gi W.tasks (j:Int)).state=0:=hz.1;rw[this]; rfl
  ·have hg:(gi W.tasks (j:Int)).group≠a:=fun e=>zpa h hx.g e.symm
   rw[show ((gi W.tasks (j:Int)).group==a)=false by simpa using hg];simp
 ·rw[show j=12+(j-12) by omega,JA];unfold XV
  cases hu:(gi W.groups ((j-12:Nat):Int)).used with
  | false=>simp
  | true=>
   have hl:=wp.a.gl;have huu:Q6 W.groups ((j-12:Nat):Int)=true:=Q5.2 ⟨by omega,by omega,hu⟩
   by_cases h1:1<=j-12
   ·have hpu:=(ZZ wp.a.tree huu (by omega)).1;have hg:(gi W.groups ((j-12:Nat):Int)).parent≠a:=fun e=>zpa h hpu e.symm
    rw[show ((gi W.groups ((j-12:Nat):Int)).parent==a)=false by simpa using hg];simp
   ·rw[show decide (1<=j-12)=false from decide_eq_false h1]; simp
theorem PF{p:Nat->Bool}:∀{n:Nat},(∀j,j<n->p j=false)->VC p n=false
 | 0,_=>rfl
 | n+1,h=>by simp only[VC]; rw[PF fun j hj=>h j (by omega),h n (by omega)]; rfl
theorem zsb(wp:Xs W)(h:Ch W a p name){c:Int}:QP W a c=false:=by
 have hl:=wp.a.gl;have ht:=wp.a.t;unfold QP;rw[PF fun j hj=>by have:=zed wp h (c:=c) j (by omega); rwa[Vq (by omega)] at this,PF fun j hj=>by have:=zed wp h (c:=c) (12+j) (by omega); rwa[JA] at this];rfl
theorem DS{α β:Type}{f g:β->α->β}:∀(l:List α) (s:β),(∀(s:β) (x:α),x∈l->f s x=g s x)->l.foldl f s=l.foldl g s
 | [],_,_=>rfl
 | y::l,s,hl=>by
  rw[List.foldl_cons,List.foldl_cons,hl s y List.mem_cons_self];exact DS l _ fun s x hx=>hl s x (List.mem_cons_of_mem _ hx)
theorem zud(ha:WA W)(h:Ch W a p name){k:Int}(hu:Q6 W.groups k=true)(u:Int):UW (TF W a p name).groups k u=UW W.groups k u:=by
 have e:QX (TF W a p name).groups k=QX W.groups k:=zee ha h 3 k hu;unfold UW;rw[e];refine DS _ _ fun s x hx=>?_
 have hxu:Q6 W.groups x=true:=by
  rcases List.mem_append.1 hx with hx | hx
  ·exact(Yq ha.tree k hu x hx).1
  ·rw[List.mem_singleton.1 hx]; exact ha.root
 rw[Gm ha h hxu]
theorem zql{W W':Q7}(e:W'.cpus=W.cpus){k:Int}(hp:∀u:Int,UW W'.groups k u=UW W.groups k u)(m:Int):Qs W' k m=Qs W k m:=by
 unfold Qs;rw[e,hp]
theorem zvk(ha:WA W)(h:Ch W a p name){k:Int}(hu:Q6 W.groups k=true)(m:Int):Qs (TF W a p name) k m=Qs W k m:=zql (W:=W) (W':=TF W a p name) rfl (zud ha h hu) m
theorem zop(iv:XU W)(h:Ch W a p name):XU (TF W a p name):=by
 have wp:=iv.wp;have ha:=wp.a;have a1:=h.a1;have a8:=h.a8;have hgl:=ha.gl;have hpu:∀{k:Int},Q6 W.groups k=true->k≠0->Q6 W.groups (gi W.groups k).parent=true:=fun hu hz=>(ZZ ha.tree hu hz).1
 have hA:WA (TF W a p name):=by
  refine⟨ha.n1,ha.n2,ha.c1,ha.c2,ha.t,zsc ha h,ha.ups,fun k k0 k1=>?_⟩;unfold Pl;rw[EX ha h k0];split
  ·refine⟨fun hh=>(by cases hh),fun _=>⟨show (1:Int)<=10 by decide,show (10:Int)<=20 by decide,show O9 15=true by decide,show (15:Int)≠0 by decide,show Zz 0=true by decide,by simp[Oa]; rfl,fun _=>⟨rfl,rfl,rfl⟩,fun _=>⟨show T7 ⟨0,0,0,[],[]⟩=true by decide,rfl,rfl⟩,fun hh=>absurd rfl hh⟩⟩
  ·have:=ha.grp k k0 k1;exact⟨this.1,fun hu=>by have:=this.2 hu; exact⟨this.w1,this.w2,this.m,this.m0,this.s,this.len,this.root,this.none,this.band⟩⟩
 refine⟨⟨hA,fun t t0 t1=>?_,fun k c k0 k1 c0 c1=>?_,fun c c0 c1=>?_⟩,fun k c hu c0 c1 hb=>?_⟩
 ·rcases wp.t t t0 t1 with hz | ⟨n,hx⟩
  ·exact .inl hz
  ·refine .inr ⟨n,hx.st,(HJ ha h).2 (.inl hx.g),hx.n,hx.m,hx.m0,hx.v,hx.s,hx.u,hx.l1,hx.l2,?_,fun hs=>?_⟩
   ·rw[show (Q8 (TF W a p name) t)=Q8 W t from rfl,zvk ha h hx.g]; exact hx.c
   ·rw[show (Q8 (TF W a p name) t)=Q8 W t from rfl,Mj ha h hx.g]; exact hx.f hs
 ·by_cases e:a=k
  ·subst e;rw[Ks ha h] at c1;have c1:c<(W.cpus.length:Int):=by simpa[Oa] using c1
   have es:=zkj ha h c0 c1;refine⟨by rw[es]; decide,by rw[es]; decide,by rw[es]; decide,by rw[es]; decide,by rw[es]; decide,fun hz=>by omega,fun _=>?_,fun _ ho=>?_⟩
   ·rw[es,zo9 ha h c0 c1,zsb wp h]; rfl
   ·rw[es] at ho; cases ho
  ·have hg:gi (TF W a p name).groups k=gi W.groups k:=by rw[EX ha h k0,if_neg e]
   rw[hg] at c1
   have hu:Q6 W.groups k=true:=by
    cases hh:(gi W.groups k).used with
    | true=>exact Q5.2 ⟨k0,by omega,hh⟩
    | false=>
     have:=((ha.grp k k0 k1).1 hh).l;omega
   have cl:c<(W.cpus.length:Int):=by rw[<-ha.sl hu]; exact c1
   have hs:=wp.s k c k0 k1 c0 c1;have es:=Mj ha h (c:=c) hu;refine⟨by rw[es]; exact hs.f,by rw[es]; exact hs.v,by rw[es]; exact hs.s,by rw[es]; exact hs.w1,by rw[es]; exact hs.w2,fun hz=>by rw[es]; exact hs.root hz,fun hz=>?_,fun hz ho=>?_⟩
   ·rw[es,zo9 ha h c0 cl,show UU (TF W a p name) k c=UU W k c by unfold UU; rw[hg]];exact hs.on hz
   ·rw[es] at ho;rw[es,hg,Mj ha h (hpu hu hz)];exact hs.st hz ho
 ·have hc:=wp.c c c0 c1;refine⟨hc.b,hc.i,hc.c1,hc.c2,hc.no,fun h0=>?_⟩;have h0:0<=(gi W.cpus c).cur:=h0;obtain⟨y1,y2,y3,y4,y5,y6⟩:=hc.yes h0;have hl:=ha.t
  have hgu:Q6 W.groups (Q8 W (gi W.cpus c).cur).group=true:=by
   have hc2:=hc.c2;rcases wp.t _ h0 (by omega) with hz | ⟨_,hx⟩
   ·unfold Zy at y5;rw[hz.1] at y5;simp at y5
   ·exact hx.g
  have hpt:QX (TF W a p name).groups (Q8 W (gi W.cpus c).cur).group=QX W.groups (Q8 W (gi W.cpus c).cur).group:=zee ha h 3 _ hgu;refine⟨y1,y2,y3,y4,?_,?_⟩
  ·unfold Zy U8 at y5 ⊢;rw[show (gi (TF W a p name).cpus c).cur=(gi W.cpus c).cur from rfl,show Q8 (TF W a p name) (gi W.cpus c).cur=Q8 W (gi W.cpus c).cur from rfl,hpt];rw[Bool.and_eq_true,List.all_eq_true] at y5 ⊢;exact⟨y5.1,fun x hx=>by rw[Mj ha h (Yq ha.tree _ hgu x hx).1]; exact y5.2 x hx⟩
  ·unfold OS VJ at y6 ⊢;rw[show (gi (TF W a p name).cpus c).cur=(gi W.cpus c).cur from rfl,show (gi (TF W a p name).cpus c).ran=(gi W.cpus c).ran from rfl,show Q8 (TF W a p name) (gi W.cpus c).cur=Q8 W (gi W.cpus c).cur from rfl,hpt,Mj ha h hgu];rw[Bool.and_eq_true,List.all_eq_true] at y6 ⊢;refine⟨y6.1,fun x hx=>?_⟩;obtain⟨xu,xz⟩:=Yq ha.tree _ hgu x hx;rw[Mj ha h xu,Gm ha h xu,Mj ha h (hpu xu xz)];exact y6.2 x hx
 ·have cl:c<(W.cpus.length:Int):=c1
  have hmem:∀j,j<20->Zi (TF W a p name) k c j=Zi W k c j:=fun j hj=>by
   by_cases hj12:j<12
   ·rw[Vq hj12,Vq hj12]; rfl
   ·rw[show j=12+(j-12) by omega,JA,JA,zki ha h c0 cl (j-12) (by omega)]
  rcases (HJ ha h).1 hu with hk | rfl
  ·have hv:∀j,j<20->Zi (TF W a p name) k c j=true->Zj (TF W a p name) c j=Zj W c j:=fun j hj hm=>by
    unfold Zj;split
    ·rfl
    ·rename_i hj12;rw[hmem j hj,show j=12+(j-12) by omega,JA] at hm;unfold XV at hm;simp only[Bool.and_eq_true] at hm;rw[Mj ha h (Q5.2 ⟨by omega,by omega,hm.1.2.1⟩)]
   have e:QM (Zi (TF W a p name) k c) (Zj (TF W a p name) c) 20=QM (Zi W k c) (Zj W c) 20:=Pb hmem hv;have hfl:=iv.fl k c hk c0 cl (by unfold ZH at hb ⊢; rwa[e] at hb);rw[Mj ha h hk];refine Int.le_trans (Int.le_of_eq ?_) hfl;unfold ZH at hb;have hb:=Ot hb;rw[e] at hb;unfold Z9;rw[e,if_neg (by omega),if_neg (by omega)];rcases Zf (Zi W k c) (Zj W c) 20 with ⟨q,_⟩ | ⟨_,q2,q3,_⟩
   ·omega
   ·have hlt:(QM (Zi W k c) (Zj W c) 20).toNat<20:=by omega
    exact hv _ hlt (by rw[hmem _ hlt]; exact q3)
  ·exfalso
   unfold ZH at hb;have hb:=Ot hb;rcases Zf (Zi (TF W k p name) k c) (Zj (TF W k p name) c) 20 with ⟨q,_⟩ | ⟨_,q2,q3,_⟩
   ·omega
   ·rw[hmem _ (by omega),zed wp h _ (by omega)] at q3;cases q3
end
theorem zo3{W:Q7}(ha:WA W){k c d:Int}(hu:Q6 W.groups k=true)(hd:dep 3 W.groups k=d)(d1:1<=d)(c0:0<=c)(c1:c<(W.cpus.length:Int)) :
  WA (setSh W k c (Yl W k c))/\UV (setSh W k c (Yl W k c)) c k/\∀g:Int,Q6 W.groups g=true->g≠k->(gi W.groups k).parent≠g->UV W c g->UV (setSh W k c (Yl W k c)) c g:=by
 have hz:k≠0:=fun e=>by subst e; rw[Y8] at hd; omega
 obtain⟨u0,u1,_⟩:=Q5.1 hu;have hl:=ha.gl;have hsl:=ha.sl hu;have c1':c<((gi W.groups k).shelves.length:Int):=by omega
 have hpk:(gi W.groups k).parent≠k:=fun e=>by
  obtain⟨_,_,_,n,e1,e2,_⟩:=ZZ ha.tree hu hz;rw[e] at e2; omega
 have e:∀{i j:Int},0<=i->0<=j->Qc (setSh W k c (Yl W k c)) i j=if k=i/\c=j then Yl W k c else Qc W i j:=fun hi hj=>J8 u0 u1 c0 c1' hi hj
 have hT:=Xm (W:=W) (g:=k) (c:=c) (s:=Yl W k c) u0 u1
 have act:∀g:Int,(gi W.groups k).parent≠g->QP (setSh W k c (Yl W k c)) g c=QP W g c:=fun g hg=>by
  refine Tm (W:=W) (W':=setSh W k c (Yl W k c)) rfl hT fun j hj _ _ hp=>?_
  rw[e (by omega) c0,if_neg];rintro⟨h,_⟩;exact hg (by rw[h]; exact hp)
 refine⟨ha.setSh u0 (by omega),?_,fun g gu gk hg h=>?_⟩
 ·unfold UV;rw[e u0 c0,if_pos ⟨rfl,rfl⟩,act k hpk,KR u0 u1 u0];rfl
 ·unfold UV;have g0:=(Q5.1 gu).1;rw[e g0 c0,if_neg fun h=>gk h.1.symm,act g hg,KR u0 u1 g0];exact h
theorem zgd{W:Q7}(ha:WA W){c d:Int}(d1:1<=d)(c0:0<=c)(c1:c<(W.cpus.length:Int))(hI:∀g:Int,Q6 W.groups g=true->d<dep 3 W.groups g->UV W c g):∀k:Nat,k<=8->
  WA (ZO W c d k)/\Jv W (ZO W c d k)/\∀g:Int,Q6 W.groups g=true->d<dep 3 W.groups g\/dep 3 W.groups g=d/\g<(k:Int)->UV (ZO W c d k) c g
 | 0,_=>⟨ha,Jv.refl _,fun g gu h=>hI g gu (by
   rcases h with h | h
   ·exact h
   ·have:=(Q5.1 gu).1;have:=h.2;omega)⟩
 | k+1,hk=>by
  obtain⟨a,b,ih⟩:=zgd ha d1 c0 c1 hI k (by omega);have hl:=a.gl;have hT:=b.g;simp only[ZO];split
  ·rename_i hc;have hu:Q6 (ZO W c d k).groups (k:Int)=true:=Q5.2 ⟨by omega,by omega,hc.1⟩;obtain⟨l1,l3,l4⟩:=zo3 a hu hc.2 d1 c0 (c:=c) (by rw[b.c]; exact c1);refine⟨l1,b.trans (PZ (by omega) (by omega)),fun g gu h=>?_⟩
   by_cases e:g=(k:Int)
   ·subst e; exact l3
   ·have hkz:(k:Int)≠0:=fun e=>by have:=hc.2; rw[e,Y8] at this; omega
    obtain⟨_,_,_,n,e1,e2,_⟩:=ZZ a.tree hu hkz;refine l4 g (by rw[hT.usd]; exact gu) e (fun hp=>?_) (ih g gu ?_)
    ·rw[hp,hT.dep] at e2;have:=hc.2;omega
    ·rcases h with h | h
     ·exact .inl h
     ·exact .inr ⟨h.1,by have:=h.2; omega⟩
  ·rename_i hc;refine⟨a,b,fun g gu h=>ih g gu ?_⟩;rcases h with h | h
   ·exact .inl h
   ·refine .inr ⟨h.1,?_⟩
    by_cases e:g=(k:Int)
    ·subst e;exact absurd ⟨by rw[hT.u]; exact(Q5.1 gu).2.2,by rw[hT.dep]; exact h.1⟩ hc
    ·have:=h.2;omega
theorem zmf{W:Q7}(ha:WA W){c:Int}(c0:0<=c)(c1:c<(W.cpus.length:Int)):WA (QN W c)/\Jv W (QN W c)/\∀g:Int,Q6 W.groups g=true->g≠0->UV (QN W c) c g:=by
 have key:∀j:Nat,j<=3->WA (XB W c j)/\Jv W (XB W c j)/\∀g:Int,Q6 W.groups g=true->3-(j:Int)<dep 3 W.groups g->UV (XB W c j) c g:=by
  intro j
  induction j with
  | zero=>exact fun _=>⟨ha,Jv.refl _,fun g gu h=>by have:=(Kb ha gu).2; omega⟩
  | succ j ih=>
   intro hj;obtain⟨a,b,h⟩:=ih (by omega);have hT:=b.g;obtain⟨a2,b2,h2⟩:=zgd a (c:=c) (d:=3-(j:Int)) (by omega) c0 (by rw[b.c]; exact c1) (fun g gu hd=>h g (by rwa[hT.usd] at gu) (by rwa[hT.dep] at hd)) 8 (Nat.le_refl _);refine⟨a2,b.trans b2,fun g gu hd=>h2 g (by rw[hT.usd]; exact gu) ?_⟩;rw[hT.dep];have:=(Q5.1 gu).2.1;have:=ha.gl
   by_cases e:dep 3 W.groups g=3-(j:Int)
   ·exact .inr ⟨e,by omega⟩
   ·exact .inl (by omega)
 obtain⟨a,b,h⟩:=key 3 (Nat.le_refl _);refine⟨a,b,fun g gu gz=>h g gu ?_⟩;obtain⟨_,_,_,n,e1,_⟩:=ZZ ha.tree gu gz;omega
theorem zb1{W:Q7}(ha:WA W){c d:Int}(d1:1<=d)(c0:0<=c)(c1:c<(W.cpus.length:Int)):∀k:Nat,k<=8->Df c W (ZO W c d k)/\WA (ZO W c d k)
 | 0,_=>⟨Df.refl _ _,ha⟩
 | k+1,hk=>by
  obtain⟨o,a⟩:=zb1 ha d1 c0 c1 k (by omega);have hl:=a.gl;simp only[ZO];split
  ·rename_i hc;have hu:Q6 (ZO W c d k).groups (k:Int)=true:=Q5.2 ⟨by omega,by omega,hc.1⟩;exact⟨o.trans (Ek (by omega) (by omega) c0 (by rw[a.sl hu,o.len]; exact c1)),a.setSh (by omega) (by omega)⟩
  ·exact⟨o,a⟩
theorem zis{W:Q7}(ha:WA W){c:Int}(c0:0<=c)(c1:c<(W.cpus.length:Int)):Df c W (QN W c):=by
 have key:∀j:Nat,j<=3->Df c W (XB W c j)/\WA (XB W c j):=by
  intro j
  induction j with
  | zero=>exact fun _=>⟨Df.refl _ _,ha⟩
  | succ j ih=>
   intro hj;obtain⟨o,a⟩:=ih (by omega);obtain⟨o2,a2⟩:=zb1 a (c:=c) (d:=3-(j:Int)) (by omega) c0 (by rw[o.len]; exact c1) 8 (Nat.le_refl _);exact⟨o.trans o2,a2⟩
 exact(key 3 (Nat.le_refl _)).1
structure Dm (W:Q7) (c:Int):Prop where
 on:∀k:Int,Q6 W.groups k=true->k≠0->UV W c k
 cu:0<=(gi W.cpus c).cur->(Q8 W (gi W.cpus c).cur).cpu=c/\Zy W (gi W.cpus c).cur=true
theorem zvb{W:Q7}(wp:Xs W){c:Int}(c0:0<=c)(c1:c<(W.cpus.length:Int)):Dm W c:=
 ⟨fun k hu hz=>(GC wp hu c0 c1).on hz,fun h=>⟨((wp.c c c0 c1).yes h).2.2.2.1,((wp.c c c0 c1).yes h).2.2.2.2.1⟩⟩
theorem Dm.oth{K:Int}{c d:Int}{W W':Q7}(h:Dm W d)(sw:SW K W)(o:Df c W W')(d0:0<=d)(d1:d<(W.cpus.length:Int))(hd:d≠c):Dm W' d:=by
 refine⟨fun k hu hz=>?_,fun h0=>?_⟩
 ·rw[o.g.usd] at hu;have k0:=(Q5.1 hu).1;have:=h.on k hu hz;unfold UV at this ⊢;rw[o.e k d k0 d0 hd,o.active d0 hd,zdm (o.b k k0)];exact this
 ·rw[o.cp d d0 hd] at h0 ⊢;rw[XF o.t];obtain⟨h1,h2⟩:=h.cu h0;refine⟨h1,?_⟩
  have hs:(Q8 W (gi W.cpus d).cur).state=1:=by
   unfold Zy at h2;rw[Bool.and_eq_true] at h2;exact eq_of_beq h2.1
  have hu:=(sw.t _ h0 (sw.cu d d0 d1).2 (by rw[hs]; decide)).1;rw[o.line sw.a.tree hu (by rw[h1]; exact d0) (by rw[h1]; exact hd)];exact h2
theorem zg9{K:Int}{W:Q7}(sw:SW K W){c:Int}(c0:0<=c)(c1:c<(W.cpus.length:Int)):Df c W (Vu W c)/\Dm (Vu W c) c:=by
 obtain⟨p1,os,hon⟩:=zmf sw.a c0 c1;have ol:=zis sw.a c0 c1;obtain⟨f,hA,_⟩:=DQ p1 c0 (c:=c) (by rw[os.c]; exact c1) 8 (Nat.le_refl _);have f:FC c (QN W c) (Zo (QN W c) c):=f;have hon:∀g:Int,Q6 (QN W c).groups g=true->g≠0->UV (QN W c) c g:=fun g gu gz=>hon g (by rwa[os.g.usd] at gu) gz
 have hdef:Vu W c=if MB (Zo (QN W c) c) c=true then endW (Zo (QN W c) c) c else Zo (QN W c) c:=rfl;have hO:Df c W (Zo (QN W c) c):=ol.trans f.o;have hFc:(Zo (QN W c) c).cpus.length=W.cpus.length:=hO.len;have hT:=f.o.g
 have honF:∀k:Int,Q6 (Zo (QN W c) c).groups k=true->k≠0->UV (Zo (QN W c) c) c k:=fun k hu hz=>by
  rw[hT.usd] at hu;have k0:=(Q5.1 hu).1;have:=hon k hu hz;unfold UV at this ⊢;rw[f.on k c k0 c0,Tm f.o.t hT fun j _ _ _ _=>f.on _ c (by omega) c0,zdm (f.o.b k k0)];exact this
 rw[hdef];clear hdef;generalize Zo (QN W c) c=F at honF hO hFc;have cF:c<(F.cpus.length:Int):=by rw[hFc]; exact c1
 split
 ·refine⟨hO.trans (zgj c0 cF),honF,fun h0=>?_⟩;rw[show gi (endW F c).cpus c=Xd (gi F.cpus c) from (Qw _ _ c0 cF c0).trans (if_pos rfl)] at h0;have h0:(0:Int)<=-1:=h0;omega
 ·rename_i hg;have hg:MB F c=false:=by simpa using hg
  refine⟨hO,honF,fun h0=>?_⟩;unfold MB at hg;rw[decide_eq_true h0,Bool.true_and,Bool.or_eq_false_iff] at hg;exact⟨by simpa using hg.1,by simpa using hg.2⟩
theorem zg7{K:Int}{W:Q7}(sw:SW K W)(hK:0<=K):∀c:Nat,c<=W.cpus.length->∀d:Int,0<=d->d<(c:Int)->Dm (JE W c) d
 | 0,_=>fun d a b=>by omega
 | c+1,hc=>fun d d0 d1=>by
  obtain⟨s1,f1⟩:=KE sw hK c (by omega);obtain⟨o,dm⟩:=zg9 s1 (c:=(c:Int)) (by omega) (by rw[f1.c]; omega)
  by_cases h:d=(c:Int)
  ·subst h; exact dm
  ·exact(zg7 sw hK c (by omega) d d0 (by omega)).oth s1 o d0 (by rw[f1.c]; omega) h
theorem zmy{K:Int}{W:Q7}(sw:SW K W)(hK:0<=K){d:Int}(d0:0<=d)(d1:d<(W.cpus.length:Int)):Dm (Qg W) d:=by
 obtain⟨s1,o1⟩:=Od (F:=K) (K:=K+Qk) (sw.sf.mono (Int.le_refl _) (by simp only[Qk]; omega)) (Int.le_refl _) W.cpus.length (Nat.le_refl _);obtain⟨s2,b2⟩:=Tu s1 8 (Nat.le_refl _);exact zg7 s2.w (by simp only[Qk]; omega) W.cpus.length (by show W.cpus.length<=(YP (YH W W.cpus.length) 8).cpus.length; rw[b2.c,o1.c]; exact Nat.le_refl _) d d0 d1
structure zjo (W:Q7) (t c:Int):Prop where
 t0:0<=t
 t1:t<12
 st:(Q8 W t).state=1
 cpu:(Q8 W t).cpu=c
 on:∀x∈QX W.groups (Q8 W t).group,(Qc W x c).on=true
theorem zml{W:Q7}(ha:WA W){c:Int}(f:Nat):∀g:Int,Q6 W.groups g=true->(4-dep 3 W.groups g).toNat=f->(∀x∈QX W.groups g,(Qc W x c).on=true)->0<=PV W g c->zjo W (PV W g c) c:=by
 induction f with
 | zero=>
  intro g hu hf;have:=Kb ha hu;omega
 | succ f ih=>
  intro g hu hf hp h;rw[Ei ha hu] at h ⊢
  by_cases h1:QJ W g c<0
  ·rw[if_pos h1] at h; omega
  ·rw[if_neg h1] at h ⊢
   by_cases h2:QJ W g c<12
   ·rw[if_pos h2] at h ⊢
    have hm:Zi W g c (QJ W g c).toNat=true:=by
     rcases Zf (Zi W g c) (Zj W c) 20 with ⟨a,_⟩ | ⟨_,_,a,_⟩
     ·unfold QJ at h1; omega
     ·exact a
    rw[Vq (by omega)] at hm;unfold TH at hm;rw[show (((QJ W g c).toNat:Nat):Int)=QJ W g c by omega] at hm;simp only[Bool.and_eq_true,beq_iff_eq] at hm;refine⟨h,h2,hm.1.1,hm.2,?_⟩;rw[show (Q8 W (QJ W g c)).group=g from hm.1.2];exact hp
   ·rw[if_neg h2] at h ⊢;obtain⟨k1,k2,k3,k4⟩:=KS ha hu (g:=g) (c:=c) (by omega)
    have hm:Zi W g c (QJ W g c).toNat=true:=by
     rcases Zf (Zi W g c) (Zj W c) 20 with ⟨a,_⟩ | ⟨_,_,a,_⟩
     ·unfold QJ at h1; omega
     ·exact a
    rw[show (QJ W g c).toNat=12+(QJ W g c-12).toNat by omega,JA] at hm;unfold XV at hm;rw[show (((QJ W g c-12).toNat:Nat):Int)=QJ W g c-12 by omega] at hm;simp only[Bool.and_eq_true,beq_iff_eq] at hm;refine ih _ k1 (by omega) (fun x hx=>?_) h;rw[Yi ha.tree k1 k2] at hx;rcases List.mem_cons.1 hx with e | e
    ·rw[e]; exact hm.2
    ·rw[hm.1.2.2] at e; exact hp x e
theorem zms{W:Q7}(ha:WA W){c:Int}(h12:(gi W.cpus c).cur<12)(hcu:0<=(gi W.cpus c).cur->(Q8 W (gi W.cpus c).cur).cpu=c/\Zy W (gi W.cpus c).cur=true)(h:¬Qm W c<0):zjo W (Qm W c) c:=by
 unfold Qm at h ⊢;split
 ·rename_i hc;obtain⟨h1,h2⟩:=hcu hc.1;unfold Zy U8 at h2;rw[Bool.and_eq_true,List.all_eq_true,h1] at h2;exact⟨hc.1,h12,eq_of_beq h2.1,h1,h2.2⟩
 ·rename_i hc;rw[if_neg hc] at h;exact zml ha _ 0 ha.root rfl (fun x hx=>by rw[show QX W.groups 0=[] from Zc _ _] at hx; cases hx) (by omega)
structure VB (W W':Q7):Prop where
 n:W'.now=W.now
 t:W'.tasks=W.tasks
 s:∀i d:Int,(Qc W' i d).sum=(Qc W i d).sum
 g:∀i:Int,(gi W'.groups i).sum=(gi W.groups i).sum
 b:∀i:Int,(gi W'.cpus i).busy=(gi W.cpus i).busy
 i:∀i:Int,(gi W'.cpus i).idle=(gi W.cpus i).idle
 u:∀i:Int,(gi W'.cpus i).up=(gi W.cpus i).up
 r:∀i:Int,(gi W'.cpus i).ran=(gi W.cpus i).ran\/(gi W'.cpus i).ran=0
theorem VB.refl(W:Q7):VB W W:=⟨rfl,rfl,fun _ _=>rfl,fun _=>rfl,fun _=>rfl,fun _=>rfl,fun _=>rfl,fun _=>.inl rfl⟩
theorem VB.trans{A B C:Q7}(h:VB A B)(k:VB B C):VB A C:=
 ⟨k.n.trans h.n,k.t.trans h.t,fun i d=>(k.s i d).trans (h.s i d),fun i=>(k.g i).trans (h.g i),fun i=>(k.b i).trans (h.b i),fun i=>(k.i i).trans (h.i i),fun i=>(k.u i).trans (h.u i),fun i=>by
  rcases k.r i with e | e
  ·rcases h.r i with e2 | e2
   ·exact .inl (e.trans e2)
   ·exact .inr (e.trans e2)
  ·exact .inr e⟩
theorem zp9(W:Q7){g c:Int}{s:Mx}(h:s.sum=(Qc W g c).sum):VB W (setSh W g c s):=
 ⟨rfl,rfl,fun i d=>Yw (f:=fun G:ZA=>(gi G.shelves d).sum) W.groups g (x:={ gi W.groups g with shelves:=(gi W.groups g).shelves.set c.toNat s }) (Yw (f:=Mx.sum) (gi W.groups g).shelves c h d) i,fun i=>Yw (f:=ZA.sum) W.groups g (x:={ gi W.groups g with shelves:=(gi W.groups g).shelves.set c.toNat s }) rfl i,fun _=>rfl,fun _=>rfl,fun _=>rfl,fun _=>.inl rfl⟩
theorem zp8(W:Q7)(g:Int)(b:Jb):VB W (setBd W g b):=
 ⟨rfl,rfl,fun i d=>Yw (f:=fun G:ZA=>(gi G.shelves d).sum) W.groups g (x:={ gi W.groups g with band:=b }) rfl i,fun i=>Yw (f:=ZA.sum) W.groups g (x:={ gi W.groups g with band:=b }) rfl i,fun _=>rfl,fun _=>rfl,fun _=>rfl,fun _=>.inl rfl⟩
theorem zl4{α:Type}[Inhabited α](l:List α)(k:Int)(x:α)(i:Int):gi (l.set k.toNat x) i=gi l i\/gi (l.set k.toNat x) i=x:=by
 unfold gi;simp only[List.getD_eq_getElem?_getD,List.getElem?_set];split
 ·split
  ·exact .inr rfl
  ·rename_i e hl;refine .inl ?_;rw[show l[i.toNat]? = none from List.getElem?_eq_none_iff.2 (by omega)]
 ·exact .inl rfl
theorem zk9(W:Q7)(c:Int):VB W (endW W c):=
 ⟨rfl,rfl,fun _ _=>rfl,fun _=>rfl,fun i=>Yw (f:=OY.busy) W.cpus c (x:=Xd (gi W.cpus c)) rfl i,fun i=>Yw (f:=OY.idle) W.cpus c (x:=Xd (gi W.cpus c)) rfl i,fun i=>Yw (f:=OY.up) W.cpus c (x:=Xd (gi W.cpus c)) rfl i,fun i=>by
  rcases zl4 W.cpus c (Xd (gi W.cpus c)) i with e | e
  ·exact .inl (by show (gi (W.cpus.set c.toNat (Xd (gi W.cpus c))) i).ran=_; rw[e])
  ·exact .inr (by show (gi (W.cpus.set c.toNat (Xd (gi W.cpus c))) i).ran=0; rw[e]; rfl)⟩
theorem EI(W:Q7)(c d:Int):∀k:Nat,VB W (ZO W c d k)
 | 0=>VB.refl _
 | k+1=>by
  simp only[ZO];split
  ·exact(EI W c d k).trans (zp9 _ rfl)
  ·exact EI W c d k
theorem GH(W:Q7)(c:Int):∀j:Nat,VB W (XB W c j)
 | 0=>VB.refl _
 | j+1=>(GH W c j).trans (EI _ _ _ _)
theorem C8(W:Q7):∀c:Nat,VB W (YH W c)
 | 0=>VB.refl _
 | c+1=>(C8 W c).trans (GH (YH W c) (c:Int) 3)
theorem EG(W:Q7)(k:Int):∀c:Nat,VB W (Yx W k c)
 | 0=>VB.refl _
 | c+1=>by
  simp only[Yx];split
  ·exact(EG W k c).trans (zp8 _ _ _)
  ·exact EG W k c
theorem EH(W:Q7):∀k:Nat,VB W (YP W k)
 | 0=>VB.refl _
 | k+1=>by
  simp only[YP];split
  ·exact(EH W k).trans (EG _ _ _)
  ·exact EH W k
theorem GG(W:Q7)(c:Int):∀k:Nat,VB W (QY W c k)
 | 0=>VB.refl _
 | k+1=>by
  simp only[QY];split
  ·exact(GG W c k).trans (zp9 _ rfl)
  ·exact GG W c k
theorem zm3(W:Q7)(c:Int):VB W (Vu W c):=by
 have h:=(GH W c 3).trans (GG (QN W c) c 8);unfold Vu;split
 ·exact h.trans (zk9 _ _)
 ·exact h
theorem zck(W:Q7):∀c:Nat,VB W (JE W c)
 | 0=>VB.refl _
 | c+1=>(zck W c).trans (zm3 (JE W c) (c:Int))
theorem zje(W:Q7):VB W (Qg W):=((C8 W W.cpus.length).trans (EH (YH W W.cpus.length) 8)).trans (zck (LE (YH W W.cpus.length)) W.cpus.length)
structure RB (S:Int) (W:Q7):Prop where
 n:W.now<=50000000000000000
 t:∀t:Int,0<=t->t<12->0<=(Q8 W t).sum/\(Q8 W t).sum<=S/\0<=(Q8 W t).used/\(Q8 W t).used<=S
 s:∀k c:Int,Q6 W.groups k=true->0<=c->c<(W.cpus.length:Int)->0<=(Qc W k c).sum/\(Qc W k c).sum<=S
 g:∀k:Int,Q6 W.groups k=true->0<=(gi W.groups k).sum/\(gi W.groups k).sum<=S
 c:∀c:Int,0<=c->c<(W.cpus.length:Int)->0<=(gi W.cpus c).busy/\(gi W.cpus c).busy<=S/\0<=(gi W.cpus c).idle/\(gi W.cpus c).idle<=50000000000000000/\0<=(gi W.cpus c).ran/\(gi W.cpus c).ran<=149
theorem RB.sum{S:Int}{W W':Q7}(h:RB S W)(k:VB W W')(hT:QS W.groups W'.groups)(hl:W'.cpus.length=W.cpus.length):RB S W':=by
 refine⟨by rw[k.n]; exact h.n,fun t a b=>by rw[XF k.t]; exact h.t t a b,fun i c u a b=>?_,fun i u=>?_,fun c a b=>?_⟩
 ·rw[hT.usd] at u;rw[hl] at b;rw[k.s]; exact h.s i c u a b
 ·rw[hT.usd] at u;rw[k.g]; exact h.g i u
 ·rw[hl] at b;have:=h.c c a b;rw[k.b,k.i];refine⟨this.1,this.2.1,this.2.2.1,this.2.2.2.1,?_⟩;rcases k.r c with e | e
  ·rw[e]; exact this.2.2.2.2
  ·rw[e]; exact⟨by omega,by omega⟩
theorem zvs{W:Q7}(wp:Xs W)(r:Lx W):RB Qp W:=by
 have hl:=wp.a.gl;have ht:=wp.a.t;refine⟨r.n,fun t a b=>?_,fun k c u a b=>?_,fun k u=>?_,fun c a b=>?_⟩
 ·have h:=r.t t a (by omega);rcases wp.t t a b with hz | ⟨_,hx⟩
  ·rw[hz.2]; decide
  ·exact⟨(ZY.1 hx.s).1,h.2.1,(ZY.1 hx.u).1,h.2.2⟩
 ·obtain⟨u0,u1,_⟩:=Q5.1 u;have hs:=wp.a.sl u;exact⟨(ZY.1 (GC wp u a b).s).1,(r.s k c u0 u1 a (by omega)).2.2⟩
 ·obtain⟨u0,u1,hg⟩:=wp.a.u u;exact⟨(ZY.1 hg.s).1,r.g k u0 (by omega)⟩
 ·have hc:=wp.c c a b;have hr:=r.c c a b;refine⟨(ZY.1 hc.b).1,hr.1,(ZY.1 hc.i).1,hr.2,?_⟩
  by_cases h:(gi W.cpus c).cur<0
  ·rw[hc.no h]; decide
  ·have:=hc.yes (by omega); omega
theorem zhb{b:Jb}(h:Vz b){c:Int}(c0:0<=c)(c1:c<(b.locals.length:Int)):Vz (YA b c).1/\(YA b c).1.locals.length=b.locals.length/\(YA b c).1.quota=b.quota:=by
 unfold YA;split
 ·exact⟨h,rfl,rfl⟩
 ·rename_i hn;have hm:=zeb h.p1;have he:=h.each c c0 c1;have hs:=KF b.locals c (ZX 20 b.pool) c0 c1 b.locals.length;rw[if_pos c1] at hs;have p2:=h.p2;have su:=h.sum;have dl:=h.dl;refine⟨⟨h.q1,h.q2,?_,?_,?_,?_,?_,h.s1,h.s2,fun d d0 d1=>?_,?_⟩,by simp,rfl⟩
  ·simp only[List.length_set]; exact h.l1
  ·simp only[List.length_set]; exact h.l2
  ·simp only[List.length_set]; exact h.dl
  ·show 0<=b.pool-ZX 20 b.pool; omega
  ·show b.pool-ZX 20 b.pool<=b.quota; omega
  ·simp only[List.length_set] at d1;have hd:=h.each d d0 d1;show 0<=gi (b.locals.set c.toNat (ZX 20 b.pool)) d/\gi (b.locals.set c.toNat (ZX 20 b.pool)) d<=b.quota/\(gi (b.dry.set c.toNat (ZX 20 b.pool==0)) d=true->gi (b.locals.set c.toNat (ZX 20 b.pool)) d=0/\b.pool-ZX 20 b.pool=0);rw[Qw _ _ c0 c1 d0,Qw _ _ c0 (by omega) d0];have hz:ZX 20 b.pool=0->b.pool=0:=fun e=>by unfold ZX at e; split at e <;> omega
   by_cases e:c=d
   ·subst e;rw[if_pos rfl,if_pos rfl];refine⟨hm.1,by omega,fun hd0=>?_⟩;have e0:ZX 20 b.pool=0:=eq_of_beq hd0;have:=hz e0;exact⟨e0,by omega⟩
   ·rw[if_neg e,if_neg e];refine⟨hd.1,hd.2.1,fun hd0=>?_⟩;have:=hd.2.2 hd0;exact⟨this.1,by omega⟩
  ·show b.pool-ZX 20 b.pool+b.spent+Ub (b.locals.set c.toNat (ZX 20 b.pool)) (b.locals.set c.toNat (ZX 20 b.pool)).length=b.quota;rw[List.length_set,hs];omega
theorem zcg{b:Jb}(h:Vz b){c n:Int}(c0:0<=c)(c1:c<(b.locals.length:Int)):Vz (Tc b c n).1/\(Tc b c n).1.locals.length=b.locals.length/\(Tc b c n).1.quota=b.quota:=by
 unfold Tc;split
 ·exact⟨h,rfl,rfl⟩
 ·rename_i hn;have hs:=KF b.locals c (gi b.locals c-n) c0 c1 b.locals.length;rw[if_pos c1] at hs;have hnn:=(zey (fun d d0 d1=>(h.each d d0 d1).1) c0 b.locals.length (Nat.le_refl _)).2 c1;have p1:=h.p1;have su:=h.sum;have s1:=h.s1;have dl:=h.dl;have hn1:¬n<1:=fun e=>hn (.inl e)
  have hn2:¬n>gi b.locals c:=fun e=>hn (.inr e)
  refine⟨⟨h.q1,h.q2,?_,?_,?_,h.p1,h.p2,?_,?_,fun d d0 d1=>?_,?_⟩,by simp,rfl⟩
  ·simp only[List.length_set]; exact h.l1
  ·simp only[List.length_set]; exact h.l2
  ·simp only[List.length_set]; exact h.dl
  ·show 0<=b.spent+n; omega
  ·show b.spent+n<=b.quota; omega
  ·simp only[List.length_set] at d1;have hd:=h.each d d0 d1;show 0<=gi (b.locals.set c.toNat (gi b.locals c-n)) d/\gi (b.locals.set c.toNat (gi b.locals c-n)) d<=b.quota/\(gi b.dry d=true->gi (b.locals.set c.toNat (gi b.locals c-n)) d=0/\b.pool=0);rw[Qw _ _ c0 c1 d0]
   by_cases e:c=d
   ·subst e;rw[if_pos rfl];exact⟨by omega,by omega,fun hd0=>by have:=(hd.2.2 hd0).1; omega⟩
   ·rw[if_neg e];exact hd
  ·show b.pool+(b.spent+n)+Ub (b.locals.set c.toNat (gi b.locals c-n)) (b.locals.set c.toNat (gi b.locals c-n)).length=b.quota;rw[List.length_set,hs];omega
def k7(b:Jb)(c:Int):Nat->Nat
 | 0=>0
 | d+1=>k7 b c d+if (d:Int)≠c/\gi b.locals (d:Int)>0 then 1 else 0
def zjj(b:Jb)(c:Int):Nat:=if gi b.dry c=true then 0 else 1
def XE(b:Jb)(c:Int):Nat:=9*k7 b c 4+zjj b c
theorem zj9(b:Jb)(c:Int):∀n:Nat,k7 b c n<=n
 | 0=>Nat.le_refl _
 | n+1=>by
  have:=zj9 b c n;simp only[k7]
  split <;> omega
theorem zsh(b:Jb)(c:Int):XE b c<=37:=by
 have:=zj9 b c 4;unfold XE zjj
 split <;> omega
def za8(W:Q7)(c:Int):Nat->Nat
 | 0=>0
 | k+1=>za8 W c k+XE (gi W.groups (k:Int)).band c
def MY(W:Q7)(c:Int):Nat:=za8 W c 8
theorem KZ{W W':Q7}{c:Int}(h:∀k:Nat,k<8->XE (gi W'.groups (k:Int)).band c<=XE (gi W.groups (k:Int)).band c):∀k:Nat,k<=8->za8 W' c k<=za8 W c k
 | 0,_=>Nat.le_refl _
 | k+1,hk=>by
  have:=KZ h k (by omega);have:=h k (by omega);simp only[za8];omega
theorem zkr{W W':Q7}{c:Int}(h:∀k:Nat,k<8->XE (gi W'.groups (k:Int)).band c<=XE (gi W.groups (k:Int)).band c){j:Nat}(hj:XE (gi W'.groups (j:Int)).band c<XE (gi W.groups (j:Int)).band c):∀k:Nat,j<k->k<=8->za8 W' c k<za8 W c k
 | 0,h0,_=>absurd h0 (Nat.not_lt_zero j)
 | k+1,hjk,hk=>by
  have h1:=KZ h k (by omega);have h2:=h k (by omega);simp only[za8]
  by_cases e:j=k
  ·subst e; omega
  ·have:=zkr h hj k (by omega) (by omega);omega
theorem zsj(W:Q7)(c:Int):MY W c<=296:=by
 have key:∀k:Nat,za8 W c k<=37*k:=by
  intro k
  induction k with
  | zero=>exact Nat.le_refl _
  | succ k ih=>
   have:=zsh (gi W.groups (k:Int)).band c;simp only[za8];omega
 exact key 8
theorem KU{b b':Jb}{c:Int}(h:∀d:Nat,(d:Int)≠c->gi b'.locals (d:Int)=gi b.locals (d:Int)):∀n:Nat,k7 b' c n=k7 b c n
 | 0=>rfl
 | n+1=>by
  simp only[k7];rw[KU h n]
  by_cases e:(n:Int)=c
  ·simp[e]
  ·rw[h n e]
theorem zf3{b b':Jb}{c:Int}{e:Nat}(he:(e:Int)≠c)(h0:gi b'.locals (e:Int)=0)(h1:gi b.locals (e:Int)>0)(h:∀d:Nat,d≠e->gi b'.locals (d:Int)=gi b.locals (d:Int)):∀n:Nat,k7 b' c n+(if e<n then 1 else 0)=k7 b c n
 | 0=>rfl
 | n+1=>by
  have ih:=zf3 he h0 h1 h n;simp only[k7]
  by_cases hn:n=e
  ·subst hn;rw[if_neg (Nat.lt_irrefl n)] at ih;rw[if_pos (Nat.lt_succ_self n),if_neg (by rintro⟨_,h⟩; omega),if_pos ⟨he,h1⟩];omega
  ·rw[h n hn];generalize (if (n:Int)≠c/\gi b.locals (n:Int)>0 then 1 else 0)=y
   by_cases hlt:e<n
   ·rw[if_pos hlt] at ih;rw[if_pos (by omega)];omega
   ·rw[if_neg hlt] at ih;rw[if_neg (by omega)];omega
theorem zpo{b:Jb}(h:Vz b){c:Int}{e:Nat}(e1:(e:Int)<(b.locals.length:Int))(hp:gi b.locals (e:Int)>0):XE (Yk b (e:Int)) c<=XE b c:=by
 have hl:=h.l2
 have hset:∀d:Nat,gi (Yk b (e:Int)).locals (d:Int)=if e=d then 0 else gi b.locals (d:Int):=fun d=>by
  show gi (b.locals.set (e:Int).toNat 0) (d:Int)=_;rw[Qw _ _ (by omega) e1 (by omega)]
  by_cases h:e=d
  ·subst h; simp
  ·rw[if_neg h,if_neg (by omega)]
 unfold XE
 by_cases hc:(e:Int)=c
 ·have h1:=KU (b:=b) (b':=Yk b (e:Int)) (c:=c) (fun d hd=>by rw[hset d,if_neg (fun h=>hd (by rw[<-h]; exact hc))]) 4
  have hw:gi b.dry c=false:=by
   cases hd:gi b.dry c with
   | false=>rfl
   | true=>
    have:=((h.each c (by omega) (by omega)).2.2 hd).1;rw[<-hc] at this; omega
  rw[h1];unfold zjj;rw[hw]
  split <;> simp
 ·have h1:=zf3 (b:=b) (b':=Yk b (e:Int)) (c:=c) hc (by rw[hset e,if_pos rfl]) hp (fun d hd=>by rw[hset d,if_neg (fun h=>hd h.symm)]) 4;rw[if_pos (by omega)] at h1;have:zjj (Yk b (e:Int)) c<=1:=by unfold zjj; split <;> omega
  omega
theorem zpp{b:Jb}{c:Int}(c0:0<=c)(c1:c<(b.locals.length:Int))(hdl:b.dry.length=b.locals.length)(hw:gi b.dry c=false):XE (YA b c).1 c<=XE b c/\((YA b c).2=2->XE (YA b c).1 c<XE b c)/\((YA b c).2≠2->gi (YA b c).1.dry c=false):=by
 unfold YA;split
 ·exact⟨Nat.le_refl _,fun h=>(by cases h),fun _=>hw⟩
 ·have h1:=KU (b:=b) (b':=⟨b.quota,b.pool-ZX 20 b.pool,b.spent,b.locals.set c.toNat (ZX 20 b.pool),b.dry.set c.toNat (ZX 20 b.pool==0)⟩) (c:=c) (fun d hd=>by
   show gi (b.locals.set c.toNat (ZX 20 b.pool)) (d:Int)=_;rw[Qw _ _ c0 c1 (by omega),if_neg fun h=>hd h.symm]) 4
  have hd:gi (b.dry.set c.toNat (ZX 20 b.pool==0)) c=(ZX 20 b.pool==0):=by rw[Qw _ _ c0 (by omega) c0,if_pos rfl]
  unfold XE;rw[h1];unfold zjj;rw[hw];simp only[hd]
  by_cases hm:ZX 20 b.pool=0
  ·rw[if_pos (show (ZX 20 b.pool==0)=true by rw[hm]; rfl),if_neg (by decide)];exact⟨by omega,fun _=>by omega,fun h=>absurd (if_pos hm) h⟩
  ·have hb:(ZX 20 b.pool==0)=false:=by simpa using hm
   rw[hb];exact⟨Nat.le_refl _,fun h=>(by rw[if_neg hm] at h; cases h),fun _=>rfl⟩
theorem zmr{b:Jb}{c n:Int}(c0:0<=c)(c1:c<(b.locals.length:Int)):XE (Tc b c n).1 c=XE b c:=by
 unfold Tc;split
 ·rfl
 ·unfold XE zjj
  rw[KU (b:=b) (c:=c) (fun d hd=>by
   show gi (b.locals.set c.toNat (gi b.locals c-n)) (d:Int)=_;rw[Qw _ _ c0 c1 (by omega),if_neg fun h=>hd h.symm]) 4]
theorem zb2{F K:Int}{W:Q7}(h:SF F K W){k:Int}(hu:Q6 W.groups k=true)(hq:(gi W.groups k).band.quota≠0)(c:Int):∀d:Nat,d<=W.cpus.length->(∀j:Int,0<=j->XE (gi (Yx W k d).groups j).band c<=XE (gi W.groups j).band c)
 | 0,_=>fun _ _=>Nat.le_refl _
 | d+1,hd=>by
  have ih:=zb2 h hu hq c d (by omega);obtain⟨a,b,q⟩:=Ht h hu hq d (by omega);simp only[Yx];split
  ·rename_i hc;have hu':Q6 (Yx W k d).groups k=true:=by rw[b.g.usd]; exact hu
   obtain⟨u0,u1,hg⟩:=a.w.a.u hu';have hb:=hg.band q;have hl:=a.w.a.gl;intro j hj;show XE (gi (setGr _ k _).groups j).band c<=_;rw[Yj u0 (by omega) hj];split
   ·rename_i e;subst e;exact Nat.le_trans (zpo hb.1 (by rw[hb.2.1,b.c]; omega) hc.1) (ih k hj)
   ·exact ih j hj
  ·exact ih
theorem zb3{F K:Int}{W:Q7}(h:SF F K W)(c:Int):∀k:Nat,k<=8->∀j:Int,0<=j->XE (gi (YP W k).groups j).band c<=XE (gi W.groups j).band c
 | 0,_=>fun _ _=>Nat.le_refl _
 | k+1,hk=>by
  have ih:=zb3 h c k (by omega);obtain⟨a,b⟩:=Tu h k (by omega);have hl:=a.w.a.gl;simp only[YP];split
  ·rename_i hc;exact fun j hj=>Nat.le_trans (zb2 a (Q5.2 ⟨by omega,by omega,hc.1⟩) hc.2 c _ (Nat.le_refl _) j hj) (ih j hj)
  ·exact ih
theorem zlq{K:Int}{W:Q7}(sw:SW K W){c:Int}(c0:0<=c)(c1:c<(W.cpus.length:Int))(i:Int)(hi:0<=i):(gi (Vu W c).groups i).band=(gi W.groups i).band:=(zg9 sw c0 c1).1.b i hi
theorem zbi{K:Int}{W:Q7}(sw:SW K W)(hK:0<=K)(i:Int)(hi:0<=i):∀c:Nat,c<=W.cpus.length->(gi (JE W c).groups i).band=(gi W.groups i).band
 | 0,_=>rfl
 | c+1,hc=>by
  obtain⟨s1,f1⟩:=KE sw hK c (by omega);rw[show JE W (c+1)=Vu (JE W c) (c:Int) from rfl,zlq s1 (by omega) (by rw[f1.c]; omega) i hi,zbi sw hK i hi c (by omega)]
theorem ziu{K:Int}{W:Q7}(sw:SW K W)(hK:0<=K)(c:Int):MY (Qg W) c<=MY W c:=by
 obtain⟨s1,o1⟩:=Od (F:=K) (K:=K+Qk) (sw.sf.mono (Int.le_refl _) (by simp only[Qk]; omega)) (Int.le_refl _) W.cpus.length (Nat.le_refl _);obtain⟨s2,b2⟩:=Tu s1 8 (Nat.le_refl _);refine KZ (fun k hk=>?_) 8 (Nat.le_refl _);have h1:(gi (Qg W).groups (k:Int)).band=(gi (YP (YH W W.cpus.length) 8).groups (k:Int)).band:=zbi s2.w (by simp only[Qk]; omega) (k:Int) (by omega) W.cpus.length (by show W.cpus.length<=(YP (YH W W.cpus.length) 8).cpus.length; rw[b2.c,o1.c]; exact Nat.le_refl _);rw[h1];have h2:=zb3 s1 c 8 (Nat.le_refl _) (k:Int) (by omega);rw[o1.b (k:Int) (by omega)] at h2;exact h2
def Yz(W:Q7)(t:Int):List Int:=QX W.groups (Q8 W t).group++[0]
def BV(W:Q7)(c g:Int):Q7×Bool:=if (gi W.groups g).band.quota=0 then (W,true) else (setBd W g (YA (gi W.groups g).band c).1,decide ((YA (gi W.groups g).band c).2≠2))
def zco(c:Int):List Int->Q7->Q7×Bool
 | [],W=>(W,true)
 | g::l,W=>if (BV W c g).2=true then zco c l (BV W c g).1 else ((BV W c g).1,false)
def zgg(W:Q7)(c g n:Int):Int:=if (gi W.groups g).band.quota>0 then ZX n (gi (gi W.groups g).band.locals c) else n
def Aq(W:Q7)(c:Int):List Int->Int->Int
 | [],n=>n
 | g::l,n=>Aq W c l (zgg W c g n)
def BI(W:Q7)(c n g:Int):Mx:={ Qc W g c with v:=if g≠0 then (Qc W g c).v+Z3 n (Qc W g c).w else (Qc W g c).v,sum:=(Qc W g c).sum+n }
def zbk(W:Q7)(c n g:Int):Jb:=if (gi W.groups g).band.quota>0 then (YC (gi W.groups g).band ⟨2,c,n⟩).1 else (gi W.groups g).band
def K7(W:Q7)(c n g:Int):Q7:=setSh W g c (BI W c n g)
def EQ(W:Q7)(c n g:Int):ZA:={ gi (K7 W c n g).groups g with sum:=(gi W.groups g).sum+n }
def Nz(W:Q7)(c n g:Int):Q7:=setBd (setGr (K7 W c n g) g (EQ W c n g)) g (zbk W c n g)
def zdf(c n:Int):List Int->Q7->Q7
 | [],W=>W
 | g::l,W=>zdf c n l (Nz W c n g)
def K8(W:Q7)(t n:Int):P5:={ Q8 W t with v:=(Q8 W t).v+Z3 n (Qe (Q8 W t).nice),sum:=(Q8 W t).sum+n,used:=(Q8 W t).used+n }
def zjz(W:Q7)(c n:Int):OY:={ gi W.cpus c with busy:=(gi W.cpus c).busy+n,ran:=(gi W.cpus c).ran+n }
def Oj(W:Q7)(c t n:Int):Q7:=setCp (zdf c n (Yz W t) (setTk W t (K8 W t n))) c (zjz W c n)
def Yb(W:Q7)(c t:Int):OY:=if t≠(gi W.cpus c).cur\/(gi W.cpus c).ran>=50 then { gi W.cpus c with cur:=t,ran:=0 } else gi W.cpus c
def YL(W:Q7)(c t:Int):Q7:=setCp W c (Yb W c t)
def Ki(W:Q7)(c n:Int):OY:={ gi W.cpus c with idle:=(gi W.cpus c).idle+n }
def YF(W:Q7)(c:Int):Q7×Bool:=zco c (Yz W (Qm W c)) (YL W c (Qm W c))
def U2(W:Q7)(c left:Int):Int:=Aq (YF W c).1 c (Yz W (Qm W c)) left
def HV(W:Q7)(c left:Int):Q7×Int:=
 if (YF W c).2=true then (Qg (Oj (YF W c).1 c (Qm W c) (U2 W c left)),left-U2 W c left) else (Qg (endW (YF W c).1 c),left)
def AV(c:Int):Nat->Q7->Int->Q7
 | 0,W,_=>W
 | f+1,W,left=>if left<=0 then Qg W else if Qm W c<0 then Qg (endW (setCp W c (Ki W c left)) c) else AV c f (HV W c left).1 (HV W c left).2
structure znh (K c:Int) (W W':Q7):Prop where
 sw:SW K W'
 o:UY W W'
 q:∀i:Int,0<=i->(gi W'.groups i).band.quota=(gi W.groups i).band.quota
 l:∀i:Int,0<=i->gi (gi W.groups i).band.locals c>0->gi (gi W'.groups i).band.locals c>0
 p:∀i:Int,0<=i->XE (gi W'.groups i).band c<=XE (gi W.groups i).band c
 su:VB W W'
theorem znh.refl{K c:Int}{W:Q7}(h:SW K W):znh K c W W:=⟨h,UY.refl _,fun _ _=>rfl,fun _ _ h=>h,fun _ _=>Nat.le_refl _,VB.refl _⟩
theorem znh.trans{K c:Int}{A B C:Q7}(h:znh K c A B)(k:znh K c B C):znh K c A C:=⟨k.sw,h.o.trans k.o,fun i hi=>(k.q i hi).trans (h.q i hi),fun i hi g=>k.l i hi (h.l i hi g),fun i hi=>Nat.le_trans (k.p i hi) (h.p i hi),h.su.trans k.su⟩
theorem zm4{b:Jb}(h:Vz b){c:Int}(c0:0<=c)(c1:c<(b.locals.length:Int)):(gi b.locals c>0->(YA b c).1=b)/\((YA b c).2≠2->gi (YA b c).1.locals c>0):=by
 unfold YA;split
 ·rename_i hp;exact⟨fun _=>rfl,fun _=>hp⟩
 ·rename_i hn;refine⟨fun h=>absurd h hn,fun h2=>?_⟩;show gi (b.locals.set c.toNat (ZX 20 b.pool)) c>0;rw[Qw _ _ c0 c1 c0,if_pos rfl];have hm:=zeb h.p1
  by_cases e:ZX 20 b.pool=0
  ·exact absurd (if_pos e) h2
  ·omega
theorem zqd{K c:Int}{W:Q7}(sw:SW K W)(c0:0<=c)(c1:c<(W.cpus.length:Int)){g:Int}(hu:Q6 W.groups g=true)(hd:(gi W.groups g).band.quota≠0->gi (gi W.groups g).band.dry c=false) :
  znh K c W (BV W c g).1/\((BV W c g).2=true->((gi W.groups g).band.quota≠0->gi (gi (BV W c g).1.groups g).band.locals c>0)/\∀i:Int,0<=i->((gi W.groups i).band.quota≠0->gi (gi W.groups i).band.dry c=false)->(gi W.groups i).band.quota≠0->gi (gi (BV W c g).1.groups i).band.dry c=false)
   /\ ((BV W c g).2=false->XE (gi (BV W c g).1.groups g).band c<XE (gi W.groups g).band c):=by
 obtain⟨u0,u1,hg⟩:=sw.a.u hu;have hgl:=sw.a.gl;unfold BV;split
 ·rename_i hq;exact⟨znh.refl sw,fun _=>⟨fun h=>absurd hq h,fun i _ h h2=>h h2⟩,fun h=>by cases h⟩
 ·rename_i hq;obtain⟨hb,hbl,_⟩:=hg.band hq;have hcl:c<((gi W.groups g).band.locals.length:Int):=by omega
  obtain⟨hb2,hl2,hq2⟩:=zhb hb c0 hcl;obtain⟨p1,p2,p3⟩:=zpp c0 hcl hb.dl (hd hq);obtain⟨l1,l2⟩:=zm4 hb c0 hcl;have ha:=sw.a.setBd (g:=g) hu hq hb2 (by rw[hl2]; exact hbl) hq2;have e:∀i:Int,0<=i->gi (setBd W g (YA (gi W.groups g).band c).1).groups i=if g=i then { gi W.groups g with band:=(YA (gi W.groups g).band c).1 } else gi W.groups i:=fun i hi=>Yj u0 (by omega) hi
  have ob:=zb0 (W:=W) (b:=(YA (gi W.groups g).band c).1) u0 (by omega);refine⟨⟨(sw.sf.onlyB ob ha).w,ob,fun i hi=>?_,fun i hi h=>?_,fun i hi=>?_,zp8 _ _ _⟩,fun h=>?_,fun h=>?_⟩
  ·show (gi (setBd W g _).groups i).band.quota=_;rw[e i hi]; split
   ·rename_i e; subst e; exact hq2
   ·rfl
  ·show gi (gi (setBd W g _).groups i).band.locals c>0;rw[e i hi]; split
   ·rename_i e; subst e;show gi (YA (gi W.groups g).band c).1.locals c>0;rw[l1 h]; exact h
   ·exact h
  ·show XE (gi (setBd W g _).groups i).band c<=_;rw[e i hi]; split
   ·rename_i e; subst e; exact p1
   ·exact Nat.le_refl _
  ·have h:(YA (gi W.groups g).band c).2≠2:=Ot h;refine⟨fun _=>?_,fun i hi h1 h2=>?_⟩
   ·show gi (gi (setBd W g _).groups g).band.locals c>0;rw[e g u0,if_pos rfl];exact l2 h
   ·show gi (gi (setBd W g _).groups i).band.dry c=false;rw[e i hi]; split
    ·rename_i e; subst e; exact p3 h
    ·exact h1 h2
  ·have h:(YA (gi W.groups g).band c).2=2:=Decidable.byContradiction fun hn=>Ou h hn
   show XE (gi (setBd W g _).groups g).band c<_;rw[e g u0,if_pos rfl];exact p2 h
theorem zqe{K c:Int}(c0:0<=c):∀(l:List Int) {W:Q7},SW K W->c<(W.cpus.length:Int)->(∀g∈l,Q6 W.groups g=true)->(∀g∈l,(gi W.groups g).band.quota≠0->gi (gi W.groups g).band.dry c=false)->
  znh K c W (zco c l W).1/\((zco c l W).2=true->∀g∈l,(gi W.groups g).band.quota≠0->gi (gi (zco c l W).1.groups g).band.locals c>0)/\((zco c l W).2=false->∃g∈l,XE (gi (zco c l W).1.groups g).band c<XE (gi W.groups g).band c)
 | [],W,sw,_,_,_=>⟨znh.refl sw,fun _ g hg=>(by cases hg),fun h=>by cases h⟩
 | g::l,W,sw,c1,hu,hd=>by
  obtain⟨a,b,d⟩:=zqd sw c0 c1 (hu g List.mem_cons_self) (hd g List.mem_cons_self);simp only[zco]
  by_cases h2:(BV W c g).2=true
  ·rw[if_pos h2];obtain⟨b1,b2⟩:=b h2;have h0:∀x∈l,0<=x:=fun x hx=>(Q5.1 (hu x (List.mem_cons_of_mem _ hx))).1
   obtain⟨a',b',d'⟩:=zqe c0 l (W:=(BV W c g).1) a.sw (by rw[a.o.c]; exact c1) (fun x hx=>by rw[a.o.g.usd]; exact hu x (List.mem_cons_of_mem _ hx)) fun x hx hq=>by
    rw[a.q x (h0 x hx)] at hq;exact b2 x (h0 x hx) (hd x (List.mem_cons_of_mem _ hx)) hq
   refine⟨a.trans a',fun h x hx hq=>?_,fun h=>?_⟩
   ·rcases List.mem_cons.1 hx with e | e
    ·subst e;exact a'.l x (Q5.1 (hu x List.mem_cons_self)).1 (b1 hq)
    ·exact b' h x e (by rw[a.q x (h0 x e)]; exact hq)
   ·obtain⟨x,hx,hlt⟩:=d' h;exact⟨x,List.mem_cons_of_mem _ hx,Nat.lt_of_lt_of_le hlt (a.p x (h0 x hx))⟩
  ·rw[if_neg h2];exact⟨a,fun h=>(by cases h),fun _=>⟨g,List.mem_cons_self,d (by simpa using h2)⟩⟩
theorem zbw{W:Q7}{c:Int}:∀(l:List Int) (n:Int),1<=n->(∀g∈l,(gi W.groups g).band.quota>0->gi (gi W.groups g).band.locals c>0)->1<=Aq W c l n/\Aq W c l n<=n
 | [],n,h,_=>⟨h,Int.le_refl _⟩
 | g::l,n,h,hl=>by
  simp only[Aq]
  have hm:1<=zgg W c g n/\zgg W c g n<=n:=by
   unfold zgg;split
   ·rename_i hq;have:=hl g List.mem_cons_self hq;unfold ZX
    split <;> omega
   ·exact⟨h,Int.le_refl _⟩
  have:=zbw l (zgg W c g n) hm.1 fun x hx=>hl x (List.mem_cons_of_mem _ hx)
  omega
theorem L9(n w:Int)(h0:0<=n)(h1:n<=100):0<=Z3 n w/\Z3 n w<=Qk:=by
 by_cases h:1<=w/\w<=20
 ·rw[TC h0 (by omega) h.1 h.2];have hs:=C7 h.1 h.2;refine⟨Int.mul_nonneg h0 (by omega),?_⟩
  calc n*zcj w<=100*zcj w:=Int.mul_le_mul_of_nonneg_right h1 (by omega)
   _<=100*232792560:=Int.mul_le_mul_of_nonneg_left hs.2 (by decide)
   _<=Qk:=by decide
 ·rw[Lb (by omega)]; exact⟨Int.le_refl _,by decide⟩
theorem zlo{b:Jb}(h:Vz b){c n:Int}(c0:0<=c)(c1:c<(b.locals.length:Int)):Vz (YC b ⟨2,c,n⟩).1/\(YC b ⟨2,c,n⟩).1.locals.length=b.locals.length/\(YC b ⟨2,c,n⟩).1.quota=b.quota/\XE (YC b ⟨2,c,n⟩).1 c=XE b c:=by
 have e:YC b ⟨2,c,n⟩=Tc b c n:=by
  unfold YC;rw[if_neg (show ¬(2:Int)=4 by decide),if_neg (by rw[Qo.2 (by show 0<=c/\c<=_; omega)]; decide),if_neg (show ¬(2:Int)=1 by decide),if_pos rfl]
 rw[e];obtain⟨a,b',d⟩:=zcg h (n:=n) c0 c1;exact⟨a,b',d,zmr c0 c1⟩
structure zqn (K S c n:Int) (W W':Q7):Prop where
 sw:SW K W'
 rb:RB S W'
 now:W'.now=W.now
 t:W'.tasks=W.tasks
 cp:W'.cpus=W.cpus
 g:QS W.groups W'.groups
 p:∀i:Int,0<=i->XE (gi W'.groups i).band c=XE (gi W.groups i).band c
theorem zhz{K S c n:Int}{W:Q7}(sw:SW K W)(rb:RB S W)(hS:S+n<=100000000000000000)(c0:0<=c)(c1:c<(W.cpus.length:Int)){g:Int}(hu:Q6 W.groups g=true)(n0:0<=n)(n1:n<=100):zqn (K+Qk) (S+n) c n W (Nz W c n g):=by
 obtain⟨u0,u1,hg⟩:=sw.a.u hu;have hgl:=sw.a.gl;have hsl:=sw.a.sl hu;have hsr:=sw.s g c hu c0 c1;have hv:=L9 n (Qc W g c).w n0 n1;have hlg:0<=Qk:=by decide
 have ea:∀{i:Int},0<=i->gi (K7 W c n g).groups i=if g=i then { gi W.groups g with shelves:=(gi W.groups g).shelves.set c.toNat (BI W c n g) } else gi W.groups i:=fun hi=>Yj u0 (by omega) hi
 have eg:∀i:Int,0<=i->gi (Nz W c n g).groups i=if g=i then { gi W.groups g with shelves:=(gi W.groups g).shelves.set c.toNat (BI W c n g),sum:=(gi W.groups g).sum+n,band:=zbk W c n g } else gi W.groups i:=fun i hi=>by
  have hl1:g<((setGr (K7 W c n g) g (EQ W c n g)).groups.length:Int):=by
   have:(setGr (K7 W c n g) g (EQ W c n g)).groups.length=W.groups.length:=by simp[setGr,K7,setSh]
   rw[this]; omega
  have hl2:g<((K7 W c n g).groups.length:Int):=by
   have:(K7 W c n g).groups.length=W.groups.length:=by simp[setGr,K7,setSh]
   rw[this]; omega
  unfold Nz setBd;rw[Yj u0 hl1 hi,Yj u0 hl2 hi,Yj u0 hl2 u0,if_pos rfl,ea hi];split
  ·unfold EQ;rw[ea u0,if_pos rfl]
  ·rfl
 have es:∀i d:Int,0<=i->0<=d->Qc (Nz W c n g) i d=if g=i/\c=d then BI W c n g else Qc W i d:=fun i d hi hd=>by
  rw[<-J8 (W:=W) (s:=BI W c n g) u0 (by omega) c0 (by omega) hi hd];unfold Qc;show gi (gi (Nz W c n g).groups i).shelves d=gi (gi (K7 W c n g).groups i).shelves d;rw[eg i hi,ea hi]
  split <;> rfl
 have hT:QS W.groups (Nz W c n g).groups:=by
  have t1:=Xm (W:=W) (g:=g) (c:=c) (s:=BI W c n g) u0 (by omega);have t2:=Ja (W:=K7 W c n g) (g:=g) (x:=EQ W c n g) u0 (by show g<((K7 W c n g).groups.length:Int); rw[show (K7 W c n g).groups.length=W.groups.length from t1.len]; omega) rfl rfl rfl;have t3:=Ja (W:=setGr (K7 W c n g) g (EQ W c n g)) (g:=g) (x:={ gi (setGr (K7 W c n g) g (EQ W c n g)).groups g with band:=zbk W c n g }) u0 (by rw[t2.len,show (K7 W c n g).groups.length=W.groups.length from t1.len]; omega) rfl rfl rfl;exact(t1.trans t2).trans t3
 have hB:(zbk W c n g).quota=(gi W.groups g).band.quota/\XE (zbk W c n g) c=XE (gi W.groups g).band c/\((gi W.groups g).band.quota=0->zbk W c n g=(gi W.groups g).band)/\((gi W.groups g).band.quota≠0->Vz (zbk W c n g)/\(zbk W c n g).locals.length=W.cpus.length):=by
  unfold zbk;split
  ·rename_i hq;obtain⟨hb,hbl,_⟩:=hg.band (by omega);obtain⟨a,b,d,e⟩:=zlo hb (n:=n) c0 (by omega);exact⟨d,e,fun h=>by omega,fun _=>⟨a,by rw[b]; exact hbl⟩⟩
  ·rename_i hq;refine⟨rfl,rfl,fun _=>rfl,fun h=>?_⟩;obtain⟨hb,hbl,_⟩:=hg.band h;exact⟨hb,hbl⟩
 have hrg:=rb.g g hu
 have hW:WA (Nz W c n g):=by
  have hl:=sw.a;refine⟨hl.n1,hl.n2,hl.c1,hl.c2,hl.t,hT.tree hl.tree,hl.ups,fun k k0 k1=>?_⟩;unfold Pl;rw[eg k k0];split
  ·rename_i e;subst e;refine⟨fun h=>?_,fun _=>⟨hg.w1,hg.w2,hg.m,hg.m0,ZY.2 ⟨by show 0<=(gi W.groups g).sum+n; omega,by show (gi W.groups g).sum+n<=_; omega⟩,by show (List.set _ _ _).length=_; rw[List.length_set]; exact hg.len,fun h=>⟨(hg.root h).1,(hg.root h).2.1,by show (zbk W c n g).quota=0; rw[hB.1]; exact(hg.root h).2.2⟩,fun h=>?_,fun h=>?_⟩⟩
   ·have h:(gi W.groups g).used=false:=h;rw[(Q5.1 hu).2.2] at h; cases h
   ·have h:(zbk W c n g).quota=0:=h;rw[hB.1] at h;have:=hg.none h;exact⟨by show T7 (zbk W c n g)=true; rw[hB.2.2.1 h]; exact this.1,this.2⟩
   ·have h:(zbk W c n g).quota≠0:=h;rw[hB.1] at h;obtain⟨_,_,hp⟩:=hg.band h;exact⟨(hB.2.2.2 h).1,(hB.2.2.2 h).2,hp⟩
  ·have:=hl.grp k k0 k1;exact⟨this.1,fun hu=>by have:=this.2 hu; exact⟨this.w1,this.w2,this.m,this.m0,this.s,this.len,this.root,this.none,this.band⟩⟩
 refine⟨⟨hW,fun t a b m=>?_,fun t a b=>?_,fun k d u a b=>?_,sw.cu⟩,⟨rb.n,fun t a b=>?_,fun k d u a b=>?_,fun k u=>?_,fun d a b=>?_⟩,rfl,rfl,rfl,hT,fun i hi=>?_⟩
 ·rw[hT.usd]; exact sw.t t a b m
 ·have:=sw.tv t a b;exact⟨this.1,by show (Q8 W t).v<=_; omega⟩
 ·rw[hT.usd] at u;have hk:=(Q5.1 u).1;have h:=sw.s k d u a b;rw[es k d hk a];split
  ·refine⟨hsr.1,by show (Qc W g c).floor<=_; omega,?_,?_,hsr.2.2.2.2.1,hsr.2.2.2.2.2⟩
   ·show 0<=if g≠0 then (Qc W g c).v+Z3 n (Qc W g c).w else (Qc W g c).v
    split <;> omega
   ·show (if g≠0 then (Qc W g c).v+Z3 n (Qc W g c).w else (Qc W g c).v)<=_
    split <;> omega
  ·exact⟨h.1,by omega,h.2.2.1,by omega,h.2.2.2.2.1,h.2.2.2.2.2⟩
 ·have:=rb.t t a b;exact⟨this.1,by show (Q8 W t).sum<=_; omega,this.2.2.1,by show (Q8 W t).used<=_; omega⟩
 ·rw[hT.usd] at u;have hk:=(Q5.1 u).1;have h:=rb.s k d u a b;rw[es k d hk a];split
  ·have h2:=rb.s g c hu c0 c1;exact⟨by show 0<=(Qc W g c).sum+n; omega,by show (Qc W g c).sum+n<=_; omega⟩
  ·exact⟨h.1,by omega⟩
 ·rw[hT.usd] at u;have h:=rb.g k u;rw[eg k (Q5.1 u).1];split
  ·exact⟨by show 0<=(gi W.groups g).sum+n; omega,by show (gi W.groups g).sum+n<=_; omega⟩
  ·exact⟨h.1,by omega⟩
 ·have:=rb.c d a b;exact⟨this.1,by show (gi W.cpus d).busy<=_; omega,this.2.2.1,this.2.2.2.1,this.2.2.2.2⟩
 ·rw[eg i hi];split
  ·rename_i e; subst e; exact hB.2.1
  ·rfl
theorem RB.mono{S S':Int}{W:Q7}(h:RB S W)(k:S<=S'):RB S' W:=
 ⟨h.n,fun t a b=>by have:=h.t t a b; omega,fun k c u a b=>by have:=h.s k c u a b; omega,fun k u=>by have:=h.g k u; omega,fun c a b=>by have:=h.c c a b; omega⟩
theorem RB.setCp{S:Int}{W:Q7}(h:RB S W){c:Int}(c0:0<=c)(c1:c<(W.cpus.length:Int)){x:OY}(hx:0<=x.busy/\x.busy<=S/\0<=x.idle/\x.idle<=50000000000000000/\0<=x.ran/\x.ran<=149):RB S (setCp W c x):=by
 have hl:(W.cpus.set c.toNat x).length=W.cpus.length:=List.length_set;refine⟨h.n,h.t,fun k d u a b=>?_,h.g,fun d a b=>?_⟩
 ·have b:d<(((W.cpus.set c.toNat x).length:Nat):Int):=b;rw[hl] at b;exact h.s k d u a b
 ·have b:d<(((W.cpus.set c.toNat x).length:Nat):Int):=b;rw[hl] at b;show _<=(gi (W.cpus.set c.toNat x) d).busy/\(gi (W.cpus.set c.toNat x) d).busy<=_/\_<=(gi (W.cpus.set c.toNat x) d).idle/\(gi (W.cpus.set c.toNat x) d).idle<=_/\_<=(gi (W.cpus.set c.toNat x) d).ran/\(gi (W.cpus.set c.toNat x) d).ran<=_;rw[Qw _ _ c0 c1 a];split
  ·exact hx
  ·exact h.c d a b
theorem RB.setTk{S:Int}{W:Q7}(h:RB S W)(hl:W.tasks.length=12){t:Int}(t0:0<=t)(t1:t<12){x:P5}(hx:0<=x.sum/\x.sum<=S/\0<=x.used/\x.used<=S):RB S (setTk W t x):=by
 refine⟨h.n,fun u a b=>?_,h.s,h.g,h.c⟩;show _<=(gi (W.tasks.set t.toNat x) u).sum/\(gi (W.tasks.set t.toNat x) u).sum<=_/\_<=(gi (W.tasks.set t.toNat x) u).used/\(gi (W.tasks.set t.toNat x) u).used<=_;rw[Qw _ _ t0 (by omega) a];split
 ·exact hx
 ·exact h.t u a b
theorem zqn.trans{K S K' S' c n:Int}{A B C:Q7}(h:zqn K S c n A B)(k:zqn K' S' c n B C):zqn K' S' c n A C:=
 ⟨k.sw,k.rb,k.now.trans h.now,k.t.trans h.t,k.cp.trans h.cp,h.g.trans k.g,fun i hi=>(k.p i hi).trans (h.p i hi)⟩
theorem zn1{c n:Int}(c0:0<=c)(n0:0<=n)(n1:n<=100):∀(l:List Int) {K S:Int} {W:Q7},SW K W->RB S W->S+100*(l.length:Int)<=100000000000000000->c<(W.cpus.length:Int)->(∀g∈l,Q6 W.groups g=true)->
  zqn (K+Qk*(l.length:Int)) (S+100*(l.length:Int)) c n W (zdf c n l W)
 | [],K,S,W,sw,rb,_,_,_=>⟨sw.mono (by simp),rb.mono (by simp),rfl,rfl,rfl,QS.refl _,fun _ _=>rfl⟩
 | g::l,K,S,W,sw,rb,hS,c1,hu=>by
  rw[List.length_cons] at hS ⊢;have h1:=zhz sw rb (by omega) c0 c1 (hu g List.mem_cons_self) n0 n1;have h2:=zn1 c0 n0 n1 l (W:=Nz W c n g) h1.sw (h1.rb.mono (show S+n<=S+100 by omega)) (by omega) (by rw[h1.cp]; exact c1) fun x hx=>by rw[h1.g.usd]; exact hu x (List.mem_cons_of_mem _ hx)
  have h3:=h1.trans h2;exact⟨h3.sw.mono (by simp only[Qk]; omega),h3.rb.mono (by omega),h3.now,h3.t,h3.cp,h3.g,h3.p⟩
theorem zsi{W W':Q7}{c:Int}(h:∀i:Int,0<=i->XE (gi W'.groups i).band c=XE (gi W.groups i).band c):MY W' c=MY W c:=
 Nat.le_antisymm (KZ (fun k _=>Nat.le_of_eq (h k (by omega))) 8 (Nat.le_refl _)) (KZ (fun k _=>Nat.le_of_eq (h k (by omega)).symm) 8 (Nat.le_refl _))
theorem BR{W:Q7}(ha:WA W){t:Int}(hu:Q6 W.groups (Q8 W t).group=true):(∀g∈Yz W t,Q6 W.groups g=true)/\(Yz W t).length<=4:=by
 refine⟨fun g hg=>?_,?_⟩
 ·rcases List.mem_append.1 hg with h | h
  ·exact(Yq ha.tree _ hu g h).1
  ·rw[List.mem_singleton.1 h]; exact ha.root
 ·have:=AN W.groups 3 (Q8 W t).group;unfold Yz;rw[List.length_append];show (JS 3 W.groups (Q8 W t).group).length+1<=4;omega
theorem zep{W W':Q7}(ht:W'.tasks=W.tasks)(hT:QS W.groups W'.groups)(t:Int):Yz W' t=Yz W t:=by
 unfold Yz;rw[XF ht,Vs hT]
def HX(f:Nat):Int:=Qp+(400-(f:Int))*346860914400
def Ey(f:Nat):Int:=Qp+(400-(f:Int))*500
structure Ci (f:Nat) (c:Int) (W0 W:Q7) (left:Int):Prop where
 sw:SW (HX f) W
 rb:RB (Ey f) W
 dm:Dm W c
 c0:0<=c
 c1:c<(W.cpus.length:Int)
 up:(gi W.cpus c).up=true
 now:W.now=W0.now
 len:W.cpus.length=W0.cpus.length
 l0:0<=left
 l1:left<=100
 f1:left+MY W c<(f:Int)
 f2:f<=400
theorem HY{f:Nat}(h:f<=400):Qp<=HX f/\HX f<=50200000000000000:=by
 unfold HX Qp; omega
theorem zes{f:Nat}(h:f<=400):Qp<=Ey f/\Ey f<=50000000000200000:=by
 unfold Ey Qp; omega
theorem zi5{W:Q7}(wp:Xs W)(r:Lx W){c n:Int}(c0:0<=c)(c1:c<(W.cpus.length:Int))(up:(gi W.cpus c).up=true)(n0:0<=n)(n1:n<=100):Ci 400 c W W n:=by
 have hp:=zsj W c;exact⟨(OT wp r).mono (by unfold HX; omega),(zvs wp r).mono (by unfold Ey; omega),zvb wp c0 c1,c0,c1,up,rfl,rfl,n0,n1,by omega,Nat.le_refl _⟩
theorem D3{K S:Int}{c t:Int}{W:Q7}(sw:SW K W)(rb:RB S W)(c0:0<=c)(c1:c<(W.cpus.length:Int))(up:(gi W.cpus c).up=true)(t0:0<=t)(t1:t<12) :
  SW K (YL W c t)/\RB S (YL W c t)/\(gi (YL W c t).cpus c).up=true/\(gi (YL W c t).cpus c).ran<50/\(gi (YL W c t).cpus c).cur=t/\(YL W c t).cpus.length=W.cpus.length:=by
 have e:gi (YL W c t).cpus c=Yb W c t:=(Qw _ _ c0 c1 c0).trans (if_pos rfl);have hl:(YL W c t).cpus.length=W.cpus.length:=List.length_set;have hup:(Yb W c t).up=true:=by unfold Yb; split <;> exact up
 have hr:=rb.c c c0 c1;have hcu:=sw.cu c c0 c1;refine⟨sw.setCp c0 c1 (EL (c:=c) (by rw[List.length_set]; exact sw.a.c2) c0 (by rw[List.length_set]; exact c1) (by rw[show gi (W.cpus.set c.toNat (Yb W c t)) c=_ from e]; exact hup)) ?_ ?_,rb.setCp c0 c1 ?_,by rw[e]; exact hup,?_,?_,hl⟩
 ·unfold Yb; split
  ·show -1<=t; omega
  ·exact hcu.1
 ·unfold Yb; split
  ·exact t1
  ·exact hcu.2
 ·unfold Yb; split
  ·exact⟨hr.1,hr.2.1,hr.2.2.1,hr.2.2.2.1,by show (0:Int)<=0; decide,by show (0:Int)<=149; decide⟩
  ·exact hr
 ·rw[e];unfold Yb; split
  ·show (0:Int)<50; decide
  ·omega
 ·rw[e];unfold Yb; split
  ·rfl
  ·rename_i h;exact Decidable.byContradiction fun hn=>h (.inl fun e=>hn e.symm)
structure zwb (f:Nat) (c:Int) (W0 W:Q7) (left:Int):Prop where
 line:zjo W (Qm W c) c
 us:Q6 W.groups (Q8 W (Qm W c)).group=true
 pin:∀g∈Yz W (Qm W c),Q6 W.groups g=true
 len:(Yz W (Qm W c)).length<=4
 s1:SW (HX (f+1)) (YL W c (Qm W c))
 r1:RB (Ey (f+1)) (YL W c (Qm W c))
 ran:(gi (YL W c (Qm W c)).cpus c).ran<50
 tk:znh (HX (f+1)) c (YL W c (Qm W c)) (YF W c).1
 dr:∀g∈Yz W (Qm W c),(gi (YL W c (Qm W c)).groups g).band.quota≠0->gi (gi (YL W c (Qm W c)).groups g).band.dry c=false
 m:(YF W c).2=true->1<=U2 W c left/\U2 W c left<=left
 ch:(YF W c).2=true->SW (HX (f+1)+5*Qk) (Oj (YF W c).1 c (Qm W c) (U2 W c left))/\RB (Ey (f+1)+500) (Oj (YF W c).1 c (Qm W c) (U2 W c left))
 nx:Ci f c W0 (HV W c left).1 (HV W c left).2
 gt:QS W.groups (HV W c left).1.groups
theorem zdg{K S c t n:Int}{W:Q7}(sw:SW K W)(rb:RB S W)(hS:S+500<=100000000000000000)(c0:0<=c)(c1:c<(W.cpus.length:Int))(up:(gi W.cpus c).up=true)(ran:(gi W.cpus c).ran<50)(t0:0<=t)(t1:t<12)(hu:Q6 W.groups (Q8 W t).group=true)(n0:0<=n)(n1:n<=100) :
  SW (K+5*Qk) (Oj W c t n)/\RB (S+500) (Oj W c t n)/\MY (Oj W c t n) c=MY W c/\(Oj W c t n).now=W.now/\(Oj W c t n).cpus.length=W.cpus.length/\(gi (Oj W c t n).cpus c).up=true/\SW (K+Qk) (setTk W t (K8 W t n))/\RB (S+100) (setTk W t (K8 W t n))/\zqn (K+5*Qk) (S+500) c n (setTk W t (K8 W t n)) (zdf c n (Yz W t) (setTk W t (K8 W t n))):=by
 have hv:=L9 n (Qe (Q8 W t).nice) n0 n1;have hlg:0<=Qk:=by decide
 have htv:=sw.tv t t0 t1;have htr:=rb.t t t0 t1;have hcr:=rb.c c c0 c1;obtain⟨hp1,hp2⟩:=BR sw.a hu;have s1:SW (K+Qk) (setTk W t (K8 W t n)):=(sw.mono (K':=K+Qk) (by omega)).setTk t0 t1 (x:=K8 W t n) (fun h=>sw.t t t0 t1 h) (by show 0<=(Q8 W t).v+Z3 n (Qe (Q8 W t).nice); omega) (by show (Q8 W t).v+Z3 n (Qe (Q8 W t).nice)<=_; omega);have r1:RB (S+100) (setTk W t (K8 W t n)):=(rb.mono (S':=S+100) (by omega)).setTk sw.a.t t0 t1 (x:=K8 W t n) ⟨by show 0<=(Q8 W t).sum+n; omega,by show (Q8 W t).sum+n<=_; omega,by show 0<=(Q8 W t).used+n; omega,by show (Q8 W t).used+n<=_; omega⟩;have h0:=zn1 c0 n0 n1 (Yz W t) s1 r1 (by omega) c1 hp1;have h2:zqn (K+5*Qk) (S+500) c n (setTk W t (K8 W t n)) (zdf c n (Yz W t) (setTk W t (K8 W t n))):=⟨h0.sw.mono (by simp only[Qk]; omega),h0.rb.mono (by omega),h0.now,h0.t,h0.cp,h0.g,h0.p⟩;have hcp:(zdf c n (Yz W t) (setTk W t (K8 W t n))).cpus=W.cpus:=h2.cp
 have e:gi (Oj W c t n).cpus c=zjz W c n:=by
  show gi ((zdf c n (Yz W t) (setTk W t (K8 W t n))).cpus.set c.toNat (zjz W c n)) c=_;rw[hcp];exact(Qw _ _ c0 c1 c0).trans (if_pos rfl)
 have hlen:(Oj W c t n).cpus.length=W.cpus.length:=by
  show ((zdf c n (Yz W t) (setTk W t (K8 W t n))).cpus.set c.toNat (zjz W c n)).length=_;rw[List.length_set,hcp]
 have hcu:=sw.cu c c0 c1;refine⟨h2.sw.setCp c0 (by rw[hcp]; exact c1) (x:=zjz W c n) (EL (c:=c) ?_ c0 ?_ ?_) hcu.1 hcu.2,h2.rb.setCp c0 (by rw[hcp]; exact c1) (x:=zjz W c n) ⟨by show 0<=(gi W.cpus c).busy+n; omega,by show (gi W.cpus c).busy+n<=_; omega,hcr.2.2.1,hcr.2.2.2.1,by show 0<=(gi W.cpus c).ran+n; omega,by show (gi W.cpus c).ran+n<=149; omega⟩,zsi (W':=Oj W c t n) h2.p,h2.now,hlen,by rw[e]; exact up,s1,r1,h2⟩
 ·rw[List.length_set,hcp]; exact sw.a.c2
 ·rw[List.length_set,hcp]; exact c1
 ·rw[show gi ((zdf c n (Yz W t) (setTk W t (K8 W t n))).cpus.set c.toNat (zjz W c n)) c=_ from e]; exact up
theorem C1{K S c:Int}{W:Q7}(sw:SW K W)(rb:RB S W)(hK:0<=K)(c0:0<=c)(c1:c<(W.cpus.length:Int))(up:(gi W.cpus c).up=true) :
  SW (K+UL) (Qg W)/\RB S (Qg W)/\Dm (Qg W) c/\(gi (Qg W).cpus c).up=true/\(Qg W).now=W.now/\(Qg W).cpus.length=W.cpus.length/\MY (Qg W) c<=MY W c:=by
 obtain⟨s,f⟩:=Tb sw hK;have su:=zje W;exact⟨s,rb.sum su f.g f.c,zmy sw hK c0 c1,by rw[su.u]; exact up,f.n,f.c,ziu sw hK c⟩
theorem zi4{f:Nat}{c left:Int}{W0 W:Q7}(h:Ci (f+1) c W0 W left)(hl:0<left)(hp:¬Qm W c<0):zwb f c W0 W left:=by
 have hf:=h.f2;have hh0:(0:Int)<=Qp:=by decide
 have hK:=HY (f:=f+1) hf;have hS:=zes (f:=f+1) hf;have c0:=h.c0;have c1:=h.c1;have eK:HX f=HX (f+1)+346860914400:=by unfold HX; omega
 have eS:Ey f=Ey (f+1)+500:=by unfold Ey; omega
 have hline:=zms h.sw.a (h.sw.cu c c0 c1).2 h.dm.cu hp;have hM:U2 W c left=Aq (YF W c).1 c (Yz W (Qm W c)) left:=rfl;have hT:YF W c=zco c (Yz W (Qm W c)) (YL W c (Qm W c)):=rfl;have hR:HV W c left=if (YF W c).2=true then (Qg (Oj (YF W c).1 c (Qm W c) (U2 W c left)),left-U2 W c left) else (Qg (endW (YF W c).1 c),left):=rfl;have t0:=hline.t0;have t1:=hline.t1;obtain⟨us,_,_⟩:=h.sw.t _ t0 t1 (by rw[hline.st]; decide);obtain⟨pin,plen⟩:=BR h.sw.a us;obtain⟨s1,r1,u1,ran1,cu1,l1⟩:=D3 h.sw h.rb c0 c1 h.up t0 t1
 have hdr:∀g∈Yz W (Qm W c),(gi (YL W c (Qm W c)).groups g).band.quota≠0->gi (gi (YL W c (Qm W c)).groups g).band.dry c=false:=fun g hg hq=>by
  have hq:(gi W.groups g).band.quota≠0:=hq;show gi (gi W.groups g).band.dry c=false;have hug:=pin g hg;obtain⟨u0,u8,hgu⟩:=h.sw.a.u hug;rcases List.mem_append.1 hg with hg | hg
  ·have hon:=hline.on g hg;have hz:=(Yq h.sw.a.tree _ us g hg).2;have:=h.dm.on g hug hz;unfold UV at this;rw[hon] at this
   have hd:UU W g c=false:=by
    cases hd:UU W g c with
    | false=>rfl
    | true=>rw[hd] at this; simp at this
   unfold UU at hd;have:=(hgu.band hq).1.q1;rw[decide_eq_true (by omega),Bool.true_and] at hd;exact hd
  ·rw[List.mem_singleton.1 hg] at hq hgu;exact absurd (hgu.root rfl).2.2 hq
 obtain⟨tk,tl,tf⟩:=zqe c0 (Yz W (Qm W c)) s1 (by rw[l1]; exact c1) pin hdr;rw[<-hT] at tk tl tf;have eT:(YF W c).1.tasks=W.tasks:=tk.o.t;have eC:(YF W c).1.cpus=(YL W c (Qm W c)).cpus:=tk.o.c;have eG:QS W.groups (YF W c).1.groups:=tk.o.g;have lT:(YF W c).1.cpus.length=W.cpus.length:=by rw[eC,l1]
 have rT:RB (Ey (f+1)) (YF W c).1:=r1.sum tk.su tk.o.g (by rw[eC]);have uT:Q6 (YF W c).1.groups (Q8 (YF W c).1 (Qm W c)).group=true:=by rw[eG.usd,XF eT]; exact us
 have pT:Yz (YF W c).1 (Qm W c)=Yz W (Qm W c):=zep eT eG _;have upT:(gi (YF W c).1.cpus c).up=true:=by rw[eC]; exact u1
 have ranT:(gi (YF W c).1.cpus c).ran<50:=by rw[eC]; exact ran1
 have phT:MY (YF W c).1 c<=MY W c:=KZ (fun k _=>tk.p (k:Int) (by omega)) 8 (Nat.le_refl _)
 have hm:(YF W c).2=true->1<=U2 W c left/\U2 W c left<=left:=fun ht=>by
  refine zbw _ left (by omega) fun g hg hq=>?_
  have g0:=(Q5.1 (pin g hg)).1;rw[tk.q g g0] at hq;exact tl ht g hg (by omega)
 have hl1:=h.l1;have hch:(YF W c).2=true->_:=fun ht=>zdg (t:=Qm W c) (n:=U2 W c left) tk.sw rT (by omega) c0 (by rw[lT]; exact c1) upT ranT t0 t1 uT (by have:=hm ht; omega) (by have:=hm ht; omega)
 refine⟨hline,us,pin,plen,s1,r1,ran1,tk,hdr,hm,fun ht=>⟨(hch ht).1,(hch ht).2.1⟩,?_,?_⟩
 rotate_left
 ·rw[hR]
  by_cases ht:(YF W c).2=true
  ·rw[if_pos ht];have a:=(hch ht).1;have g1:QS (YF W c).1.groups (Oj (YF W c).1 c (Qm W c) (U2 W c left)).groups:=(hch ht).2.2.2.2.2.2.2.2.g;exact(eG.trans g1).trans (Tb a (by simp only[Qk]; omega)).2.g
  ·rw[if_neg ht];have g1:QS (YF W c).1.groups (endW (YF W c).1 c).groups:=QS.refl _;exact(eG.trans g1).trans (Tb (tk.sw.endW c0 (by rw[lT]; exact c1)) (by omega)).2.g
 rw[hR];have hf1:=h.f1
 by_cases ht:(YF W c).2=true
 ·rw[if_pos ht];obtain⟨a,b,d,e1,e2,e3,_⟩:=hch ht;obtain⟨b1,b2,b3,b4,b5,b6,b7⟩:=C1 a b (by simp only[Qk]; omega) c0 (by rw[e2,lT]; exact c1) e3;have hm:=hm ht
  exact⟨b1.mono (by simp only[Qk,UL]; omega),b2.mono (by omega),b3,c0,by rw[b6,e2,lT]; exact c1,b4,by rw[b5,e1,tk.o.n]; exact h.now,by rw[b6,e2,lT]; exact h.len,by show 0<=left-U2 W c left; omega,by show left-U2 W c left<=100; omega,by
   rw[d] at b7;show left-U2 W c left+((MY (Qg (Oj (YF W c).1 c (Qm W c) (U2 W c left))) c:Nat):Int)<_;omega,by omega⟩
 ·rw[if_neg ht];have ht:(YF W c).2=false:=by simpa using ht
  obtain⟨g,hg,hlt⟩:=tf ht;have g0:=Q5.1 (pin g hg);have hgl:=h.sw.a.gl
  have hp1:MY (YF W c).1 c<MY W c:=by
   refine zkr (fun k _=>tk.p (k:Int) (by omega)) (j:=g.toNat) ?_ 8 (by omega) (Nat.le_refl _);rw[show ((g.toNat:Nat):Int)=g by omega];exact hlt
  have ce:c<((YF W c).1.cpus.length:Int):=by rw[lT]; exact c1
  have sE:=tk.sw.endW c0 ce;have eE:gi (endW (YF W c).1 c).cpus c=Xd (gi (YF W c).1.cpus c):=(Qw _ _ c0 ce c0).trans (if_pos rfl);have lE:(endW (YF W c).1 c).cpus.length=(YF W c).1.cpus.length:=List.length_set;obtain⟨b1,b2,b3,b4,b5,b6,b7⟩:=C1 sE (rT.sum (zk9 _ c) (QS.refl _) lE) (by omega) c0 (by rw[lE]; exact ce) (by rw[eE]; exact upT)
  exact⟨b1.mono (by simp only[Qk,UL]; omega),b2.mono (by omega),b3,c0,by rw[b6,lE]; exact ce,b4,by rw[b5]; show (YF W c).1.now=_; rw[tk.o.n]; exact h.now,by rw[b6,lE,lT]; exact h.len,h.l0,h.l1,by
   have b7:MY (Qg (endW (YF W c).1 c)) c<=MY (YF W c).1 c:=b7;show left+((MY (Qg (endW (YF W c).1 c)) c:Nat):Int)<_;omega,by omega⟩
theorem ztl{b:Jb}{c:Int}(c0:0<=c)(c1:c<(b.locals.length:Int)):YC b ⟨1,c,0⟩=YA b c:=by
 unfold YC;rw[if_neg (show ¬(1:Int)=4 by decide),if_neg (by rw[Qo.2 (by show 0<=c/\c<=_; omega)]; decide),if_pos rfl]
theorem zdz{α:Type}[Inhabited α]{l:List α}{k:Nat}(h:k<l.length):l.drop k=gi l (k:Int)::l.drop (k+1):=by
 rw[List.drop_eq_getElem_cons h]
 congr 1
 unfold gi;rw[Int.toNat_natCast,List.getD_eq_getElem?_getD,List.getElem?_eq_getElem h]; rfl
theorem zd0{α:Type}[Inhabited α]{l:List α}{k:Nat}(h:k<l.length):gi l (k:Int)∈l:=by
 have:=List.getElem_mem h;unfold gi;rw[Int.toNat_natCast,List.getD_eq_getElem?_getD,List.getElem?_eq_getElem h]; exact this
theorem zhd{c g:Int}{l:List Int}{W:Q7}:zco c (g::l) W=if (BV W c g).2=true then zco c l (BV W c g).1 else ((BV W c g).1,false):=rfl
section
variable {base:Nat}{W:Q7}{m:MW}{w:Wo}
theorem OP{pb n:Nat}{l:List Int}{pO:OA}{pC:Nat}{w2:Wo}{bs:List Nat}{V:Q7}{m2:MW}(hp:Jp Xu 1 Qb pb w pO pC l)(hpn:∀x∈Qy pO,x∉QB n m)(hM:Mv n base bs w m w2 V m2):Jp Xu 1 Qb pb w2 pO pC l/\zfa bs w2 pO l:=by
 have h:=hp.ext hM.ext hpn
 exact⟨h,h.rd ZW.len fun x hx hm=>by
  have:=(hp.lt x hx).2;have:=hM.new x hm;omega⟩
theorem Mv.put{n:Nat}{bs:List Nat}{w0 w w':Wo}{m0:MW}{b:Nat}(h:Mv n base bs w0 m0 w W m)(hx:Q0 bs w w')(hb:w.heap.size<=b):Mv n base (bs++[b]) w0 m0 w' W m:=(h.add hb).step (hx.mono fun x hm=>List.mem_append_left _ hm)
theorem zai{K c:Int}{l:List Int}{pO:OA}{pC pb:Nat}(h:Y1 8 base w W m)(sw:SW K W)(hbase:base<=w.heap.size)(hp:Jp Xu 1 Qb pb w pO pC l)(hpn:∀x∈Qy pO,x∉QB 8 m)(hl4:l.length<=4)(c0:0<=c)(c1:c<(W.cpus.length:Int))(hu:∀g∈l,Q6 W.groups g=true)(hd:∀g∈l,(gi W.groups g).band.quota≠0->gi (gi W.groups g).band.dry c=false) :
  Cz OD #[.agg (Qa W m).toArray,.slice pO l.length pC,.int .i64 c] w fun e w'=>∃m',e=.returned (.tuple #[.agg (Qa W m).toArray,.bool (zco c l W).2])/\Mv 8 base [] w m w' (zco c l W).1 m':=by
 refine(q9 W.now m.cO W.cpus.length m.cC m.tO W.tasks.length m.tC m.gO W.groups.length m.gC pO l.length pC c (R:=fun v w'=>∃m',v=.tuple #[.agg (Qa W m).toArray,.bool (zco c l W).2]/\Mv 8 base [] w m w' (zco c l W).1 m') ?_).mono fun e w' ⟨v,he,m',hv,h3⟩=>⟨m',by rw[he,hv],h3⟩
 intro x hx x1 hx1;have hgl:=sw.a.gl;have hnew:=Yr hx hx1
 refine⟨fun vs w2=>∃(k:Nat) (r:List Va) (V:Q7) (m2:MW),vs=.int .i64 (k:Int)::r/\k<=l.length/\Mv 8 base [x,x1] w m w2 V m2/\zco c l W=zco c (l.drop k) V/\SW K V/\UY W V/\∀g∈l.drop k,(gi V.groups g).band.quota≠0->gi (gi V.groups g).band.dry c=false,
  Zu l.length 0,fun wr hx3 _=>⟨0,_,W,m,rfl,Nat.zero_le _,(Mv.two h hx hx1).call0 hx3,rfl,sw,UY.refl _,hd⟩,?_⟩
 rintro i1 ll l1O l1L l1C l2O l2L l2C l3O l3L l3C w2 hs2 ⟨k,r,V,m2,he,hk,hM2,hE,swV,oV,hdV⟩;simp only[List.cons.injEq,Value.int.injEq,true_and] at he;obtain⟨rfl,_⟩:=he;have hmg:m2.gO=m.gO:=by rw[hM2.hd]
 have hr:=hM2.rd;have hglV:V.groups.length=8:=swV.a.gl;obtain⟨_,hpr⟩:=OP hp hpn hM2;refine⟨fun hlt=>?_,fun hge=>?_⟩
 ·have hlt':=Ot hlt;have hlt:k<l.length:=by omega
  have hdr:=zdz hlt;have hgu:=hu _ (zd0 hlt);rw[hdr] at hE hdV;have hug:Q6 V.groups (gi l (k:Int))=true:=by rw[oV.g.usd]; exact hgu
  have hpc:=hpr (k:Int) (by omega) (by omega);have hpix:=hpr.ix Uv (i:=(k:Int)) (by omega) (by omega);have hdk:=hdV _ List.mem_cons_self;generalize hgk:gi l (k:Int)=g at hE hdV hug hpc hdk hgu hdr;obtain⟨u0,u1,hgg⟩:=swV.a.u hug;have hlt2:g<(V.groups.length:Int):=by omega
  have hix:Ix m.gO W.groups.length g:=by have:=hr.g.ix (i:=g) u0 hlt2; rwa[hglV,<-hgl,hmg] at this
  have hrow:=hr.g.cells g u0 hlt2;rw[hmg] at hrow;refine⟨hpix,g,hpc,hix,_,_,_,_,_,_,_,_,_,_,_,_,_,_,_,_,_,_,_,_,hrow,fun b4 hb4=>⟨hrow,hpc,rfl,fun g1=>?_,fun g1=>?_⟩⟩
  ·have g1:(gi V.groups g).band.quota=0:=by simpa using g1
   have hT:BV V c g=(V,true):=by unfold BV; rw[if_pos g1]
   rw[zhd,hT,if_pos rfl] at hE;exact⟨⟨by omega,by omega⟩,fun wr hx3 _=>⟨⟨k+1,_,V,m2,by simp; rfl,by omega,hM2.step hx3,hE,swV,oV,fun y hy=>hdV y (List.mem_cons_of_mem _ hy)⟩,Z6 (k:=k) rfl rfl hlt⟩⟩
  ·have g1:(gi V.groups g).band.quota≠0:=by simpa using g1
   obtain⟨hb,hbl,_⟩:=hgg.band g1;have hclV:c<(V.cpus.length:Int):=by rw[oV.c]; exact c1
   have hcl:c<((gi V.groups g).band.locals.length:Int):=by omega
   intro wr3 hx3 hs4;have hM4:=hM2.put hx3 hb4;have hr4:=hM4.rd0;refine Calls.mono (J4 (op:=⟨1,c,0⟩) hb (hr4.g.locals g u0 hlt2) (hr4.g.dry g u0 hlt2)) ?_;rintro e wv2 ⟨p,he,hO,hy⟩;rw[ztl c0 hcl] at he hO;have hM5:=hM4.call0 hy;have hbs:base<=wr3.heap.size:=by have:=hM4.ext.size; omega
   have hOb:∀y∈Zt p,wr3.heap.size<=y:=fun y hy=>(hO.lt y hy).1
   have hput:=hM5.own.putB (i:=g) u0 (by omega) (hO.mono hbs) (fun y hy hm=>by have:=hOb y hy; have:=(hM4.own.lt y hm).2; omega);have hwr:=zbc hM5.own hM5.nb (i:=g) u0 (by omega) (j:=8) (k:=5) (by decide);have hsz:=hM4.ext.size
   have hM6:=hM5.swap hput EE rfl fun y hy=>by
    rcases Ta y hy with h1 | h1
    ·exact .inl h1
    ·rcases T9 y h1 with h2 | h2
     ·have:=hOb y h2;exact .inr ⟨by omega,fun hm=>by have:=hs4 y hm; omega⟩
     ·exact .inl (JB (by omega) h2)
   rw[hmg] at hwr;have hgO:m2.gO=m.gO:=hmg;rw[hgO] at hM6;obtain⟨_,hpr5⟩:=OP hp hpn hM5;have hpc5:=hpr5 (k:Int) (by omega) (by omega);rw[hgk] at hpc5;have hTk:BV V c g=(setBd V g (YA (gi V.groups g).band c).1,decide ((YA (gi V.groups g).band c).2≠2)):=by unfold BV; rw[if_neg g1]
   obtain⟨tk,t2,_⟩:=zqd swV c0 hclV hug hdk;rw[zhd] at hE;refine⟨_,_,_,_,_,_,_,_,_,_,he,Qd hy hs4,fun b5 hb5=>⟨hpix,g,hpc5,hix,hwr,fun g2 wr6 hx6=>?_,fun g2=>⟨⟨by omega,by omega⟩,fun wr6 hx6 hs6=>⟨⟨k+1,_,setBd V g (YA (gi V.groups g).band c).1,_,by simp; rfl,by omega,(hM6.step hx6).sub' (by simp),?_,?_,?_,fun y hy hq=>?_⟩,Z6 (k:=k) rfl rfl hlt⟩⟩⟩⟩
   ·have g2:(YA (gi V.groups g).band c).2=2:=by simpa using g2
    have:(BV V c g).2=false:=by rw[hTk]; simp[g2]
    rw[hE,this,if_neg (by decide),hTk];exact⟨_,rfl,(hM6.step hx6).close⟩
   all_goals
    have g2:(YA (gi V.groups g).band c).2≠2:=by simpa using g2
    have ht2:(BV V c g).2=true:=by rw[hTk]; simp[g2]
    have hT1:(BV V c g).1=setBd V g (YA (gi V.groups g).band c).1:=by rw[hTk]
   ·rw[hE,if_pos ht2,hT1]
   ·rw[<-hT1]; exact tk.sw
   ·rw[<-hT1]; exact oV.trans tk.o
   ·have y0:=(Q5.1 (hu y (List.mem_of_mem_drop hy))).1;rw[<-hT1] at hq ⊢;rw[tk.q y y0] at hq;exact(t2 ht2).2 y y0 (hdV y (List.mem_cons_of_mem _ hy)) hq
 ·have hge:=Ou hge;have hk2:k=l.length:=by omega
  subst hk2;rw[List.drop_length] at hE;rw[hE];exact fun w3 hx3=>⟨m2,rfl,(hM2.step hx3).close⟩
theorem zaf{c n:Int}{l:List Int}{pO:OA}{pC:Nat}{bs:List Nat}(h:YZ bs w W m)(ha:WA W)(hp:zfa bs w pO l)(hl4:l.length<=4)(c0:0<=c)(c1:c<(W.cpus.length:Int))(hu:∀g∈l,Q6 W.groups g=true) :
  PX bs OB #[.agg (Qa W m).toArray,.slice pO l.length pC,.int .i64 c,.int .i64 n] w (.int .i64 (Aq W c l n)):=
 za5 W.now m.cO W.cpus.length m.cC m.tO W.tasks.length m.tC m.gO W.groups.length m.gC pO l.length pC c n fun wr hx=>by
  have h:=(h.ext hx).less (cs:=[]) (by simp);have hp:=(hp.ext hx).less (cs:=[]) (by simp);intro _ _;refine Tx l.length 0 rfl (fun y k=>k<=l.length/\Aq W c l n=Aq W c (l.drop k) y) ⟨Nat.zero_le _,rfl⟩ fun y k ⟨hk,hy⟩=>⟨fun hlt=>?_,fun hge=>?_⟩
  ·have hlt':=Ot hlt;have hlt:k<l.length:=by omega
   have hdr:=zdz hlt;have hgu:=hu _ (zd0 hlt);rw[hdr] at hy;have hpc:=hp (k:Int) (by omega) (by omega);generalize gi l (k:Int)=g at hy hpc hgu;obtain⟨u0,u1,hgg⟩:=ha.u hgu;have hgl:=ha.gl;have hyy:Aq W c (g::l.drop (k+1)) y=Aq W c (l.drop (k+1)) (zgg W c g y):=rfl;rw[hyy] at hy;refine⟨hp.ix Uv (i:=(k:Int)) (by omega) (by omega),g,hpc,h.g.ix u0 (by omega),_,_,_,_,_,_,_,_,_,h.g.band u0 (by omega),fun b1 hb1=>⟨h.g.band u0 (by omega),hpc,rfl,fun g1=>?_,fun g1=>?_⟩⟩
   ·have g1:=Ot g1;obtain⟨hb,hbl,_⟩:=hgg.band (by omega);have hLo:=h.g.locals g u0 (by omega);refine⟨hLo.ix Uv c0 (by omega),_,hLo c c0 (by omega),_,XS,⟨by omega,by omega⟩,QA (by omega) ⟨by omega,?_⟩⟩;rw[hy]; unfold zgg; rw[if_pos g1]
   ·have g1:=Ou g1;refine⟨⟨by omega,by omega⟩,QA (by omega) ⟨by omega,?_⟩⟩;rw[hy]; unfold zgg; rw[if_neg g1]
  ·have hge:=Ou hge;have:k=l.length:=by omega
   subst this;rw[List.drop_length] at hy;show Value.int .i64 y=_;rw[hy]; rfl
end
theorem zfk{c n g:Int}{l:List Int}{W:Q7}:zdf c n (g::l) W=zdf c n l (Nz W c n g):=rfl
theorem KP(W:Q7)(c n g:Int):(K7 W c n g).groups.length=W.groups.length:=by simp[K7,setSh,setGr]
theorem zhy{W:Q7}{c n g:Int}(u0:0<=g)(u1:g<(W.groups.length:Int)):gi (K7 W c n g).groups g={ gi W.groups g with shelves:=(gi W.groups g).shelves.set c.toNat (BI W c n g) }:=by
 unfold K7 setSh;rw[Yj u0 u1 u0,if_pos rfl]
theorem zh0{W:Q7}{c n g:Int}(u0:0<=g)(u1:g<(W.groups.length:Int)):gi (setGr (K7 W c n g) g (EQ W c n g)).groups g=EQ W c n g:=by
 rw[Yj u0 (by rw[KP]; exact u1) u0,if_pos rfl]
theorem NA{W:Q7}{c n g:Int}(u0:0<=g)(u1:g<(W.groups.length:Int)):(EQ W c n g).band=(gi W.groups g).band:=by
 unfold EQ;rw[zhy u0 u1]
theorem zfj{W:Q7}{c n g:Int}(u0:0<=g)(u1:g<(W.groups.length:Int))(h:¬(gi W.groups g).band.quota>0):Nz W c n g=setGr (K7 W c n g) g (EQ W c n g):=by
 unfold Nz zbk;rw[if_neg h,<-NA (c:=c) (n:=n) u0 u1];have:=zh0 (c:=c) (n:=n) u0 u1
 conv=>lhs; arg 3; rw[<-this]
 exact zi6 u0 (by simp only[setGr,List.length_set]; rw[KP]; exact u1)
section
variable {base:Nat}{W:Q7}{m:MW}{w:Wo}
theorem Bh{K S t c n:Int}{pO:OA}{pC pb:Nat}(h:Y1 8 base w W m)(hbase:base<=w.heap.size)(hp:Jp Xu 1 Qb pb w pO pC (Yz W t))(hpn:∀x∈Qy pO,x∉QB 8 m)(sw:SW K W)(rb:RB S W)(hK:0<=K/\K<=60000000000000000)(hS:0<=S/\S<=60000000000000000)(c0:0<=c)(c1:c<(W.cpus.length:Int))(up:(gi W.cpus c).up=true)(ran:(gi W.cpus c).ran<50)(t0:0<=t)(t1:t<12)(hu:Q6 W.groups (Q8 W t).group=true)(n0:0<=n)(n1:n<=100) :
  Cz T3 #[.agg (Qa W m).toArray,.int .i64 t,.slice pO (Yz W t).length pC,.int .i64 c,.int .i64 n] w fun e w'=>∃m',e=.returned (.agg (Qa (Qg (Oj W c t n)) m').toArray)/\Mv 8 base [] w m w' (Qg (Oj W c t n)) m':=by
 obtain⟨sE,rE,_,_,hlE,_,s1,r1,cp1⟩:=zdg sw rb (by omega) c0 c1 up ran t0 t1 hu n0 n1;obtain⟨pin,plen⟩:=BR sw.a hu;refine(FY W.now m.cO W.cpus.length m.cC m.tO W.tasks.length m.tC m.gO W.groups.length m.gC t pO (Yz W t).length pC c n (R:=fun v w'=>∃m',v=.agg (Qa (Qg (Oj W c t n)) m').toArray/\Mv 8 base [] w m w' (Qg (Oj W c t n)) m') ?_).mono fun e w' ⟨v,he,m',hv,h3⟩=>⟨m',by rw[he,hv],h3⟩
 intro x hx x1 hx1;have hgl:=sw.a.gl;have htl:=sw.a.t;have hlg:Qk=34686091440:=rfl;have hr0:=h.rd (bs:=[]) (by simp);have hix:=hr0.t.ix QI t0 (by omega);have htv:=sw.tv t t0 t1;have htr:=rb.t t t0 t1;have hv:=L9 n (Qe (Q8 W t).nice) n0 n1;refine⟨hix,_,_,_,_,_,_,_,_,_,hr0.t t t0 (by omega),fun x2 hx2=>⟨_,ZB,_,X1,⟨?_,?_⟩,⟨?_,?_⟩,⟨?_,?_⟩,hix,ze9 h (by simp) t0 (by omega) (j:=0) (by decide),?_⟩⟩
 ·show _<=(Q8 W t).v+Z3 n (Qe (Q8 W t).nice); omega
 ·show (Q8 W t).v+Z3 n (Qe (Q8 W t).nice)<=_; omega
 ·show _<=(Q8 W t).sum+n; omega
 ·show (Q8 W t).sum+n<=_; omega
 ·show _<=(Q8 W t).used+n; omega
 ·show (Q8 W t).used+n<=_; omega
 have eT:Y1 8 base (sto w m.tO (Int.toNat t*9) (YM (K8 W t n))) (setTk W t (K8 W t n)) m:=h.stoT t0 (by omega) (j:=0) (vs:=YM (K8 W t n)) (x:=K8 W t n) (by simp[YM]) (by simp[YM]);have hM1:Mv 8 base [x,x1,x2] w m (sto w m.tO (Int.toNat t*9) (YM (K8 W t n))) (setTk W t (K8 W t n)) m:=((Mv.two h hx hx1).add hx2).deed eT Lv
 refine⟨fun vs w2=>∃(k:Nat) (V:Q7) (m2:MW),vs=[.int .i64 (k:Int)]/\k<=(Yz W t).length/\Mv 8 base [x,x1,x2] w m w2 V m2/\zdf c n (Yz W t) (setTk W t (K8 W t n))=zdf c n ((Yz W t).drop k) V/\zqn (K+Qk+Qk*(k:Int)) (S+100+100*(k:Int)) c n (setTk W t (K8 W t n)) V,
  Zu (Yz W t).length 0,fun wr hx3 _=>⟨0,_,m,rfl,Nat.zero_le _,hM1.call0 hx3,rfl,⟨s1.mono (by simp),r1.mono (by simp),rfl,rfl,rfl,QS.refl _,fun _ _=>rfl⟩⟩,?_⟩
 rintro i1 w2 hs2 ⟨k,V,m2,he,hk,hM2,hE,hC⟩;simp only[List.cons.injEq,Value.int.injEq,true_and,and_true] at he;subst he;have hkk:0<=Qk*(k:Int)/\Qk*(k:Int)<=138744365760:=by simp only[Qk]; omega
 have hk1:Qk*((k+1:Nat):Int)=Qk*(k:Int)+Qk:=by simp only[Qk]; omega
 have hmg:m2.gO=m.gO:=by rw[hM2.hd]
 have hmc:m2.cO=m.cO:=by rw[hM2.hd]
 have hr:=hM2.rd;have hglV:V.groups.length=8:=hC.sw.a.gl;have hclV:V.cpus.length=W.cpus.length:=by rw[hC.cp]; rfl
 obtain⟨_,hpr⟩:=OP hp hpn hM2;refine⟨fun hlt=>?_,fun hge=>?_⟩
 ·have hlt':=Ot hlt;have hlt:k<(Yz W t).length:=by omega
  have hdr:=zdz hlt;have hgu:=pin _ (zd0 hlt);rw[hdr,zfk] at hE;have hug:Q6 V.groups (gi (Yz W t) (k:Int))=true:=by rw[hC.g.usd]; exact hgu
  have hpc:=hpr (k:Int) (by omega) (by omega);have hpix:=hpr.ix Uv (i:=(k:Int)) (by omega) (by omega);generalize hgk:gi (Yz W t) (k:Int)=g at hE hug hpc hgu hdr;have hC2:=hC.trans (zhz hC.sw hC.rb (by omega) c0 (by rw[hclV]; exact c1) hug n0 n1);have hC3:zqn (K+Qk+Qk*((k+1:Nat):Int)) (S+100+100*((k+1:Nat):Int)) c n (setTk W t (K8 W t n)) (Nz V c n g):=⟨hC2.sw.mono (by omega),hC2.rb.mono (by omega),hC2.now,hC2.t,hC2.cp,hC2.g,hC2.p⟩;obtain⟨u0,u1,hgg⟩:=hC.sw.a.u hug;have hlt2:g<(V.groups.length:Int):=by omega
  have hsl:=hC.sw.a.sl hug;have hcs:c<((gi V.groups g).shelves.length:Int):=by omega
  have hixg:Ix m.gO W.groups.length g:=by have:=hr.g.ix (i:=g) u0 hlt2; rwa[hglV,<-hgl,hmg] at this
  have hrow:=hr.g.cells g u0 hlt2;rw[hmg] at hrow;have hss:=hr.g.shelves g u0 hlt2;have hsc:=hss c c0 hcs;have hixs:=hss.ix ZD c0 hcs;have hsv:=hC.sw.s g c hug c0 (by rw[hclV]; exact c1);have hsr:=hC.rb.s g c hug c0 (by rw[hclV]; exact c1);have hgr:=hC.rb.g g hug;have hv2:=L9 n (Qc V g c).w n0 n1;refine⟨hpix,g,hpc,hixg,_,_,_,_,_,_,_,_,_,_,_,_,_,_,_,_,_,_,_,_,hrow,fun b3 hb3=>⟨hrow,hpc,rfl,hixs,_,_,_,_,_,hsc,fun b4 hb4=>⟨hpix,g,hpc,?_⟩⟩⟩
  have eA:∀s:Mx,s=BI V c n g->Y1 8 base (sto w2 (m2.ms g.toNat).sO (Int.toNat c*5) (P1 s)) (K7 V c n g) m2:=fun s hs=>by
   subst hs;exact hM2.own.stoS u0 (by omega) c0 hcs (j:=0) (vs:=P1 (BI V c n g)) (x:=BI V c n g) (by simp[P1]) (by simp[P1])
  have hwrS:=ztc hM2.own hM2.nb (i:=g) u0 (by omega) c0 hcs (j:=0) (k:=5) (by decide);have hshl:=hr.g.shelf (i:=g) u0 hlt2;rw[hmg] at hshl;refine⟨fun g1=>?_,fun g1=>?_⟩
  ·have g1:g≠0:=by simpa using g1
   have hs:(⟨(Qc V g c).floor,(Qc V g c).on,(Qc V g c).v+Z3 n (Qc V g c).w,(Qc V g c).w,(Qc V g c).sum+n⟩:Mx)=BI V c n g:=by unfold BI; rw[if_pos g1]
   have eA:=eA _ hs;refine⟨_,X1,⟨?_,?_⟩,⟨?_,?_⟩,hpix,g,hpc,hixg,_,_,_,hshl,hixs,hwrS,hpix,g,?_,⟨?_,?_⟩,hixg,?_,?_⟩
   ·show _<=(Qc V g c).v+Z3 n (Qc V g c).w; omega
   ·show (Qc V g c).v+Z3 n (Qc V g c).w<=_; omega
   ·show _<=(Qc V g c).sum+n; omega
   ·show (Qc V g c).sum+n<=_; omega
   ·have:=(OP hp hpn (hM2.deed eA (BE (by omega)))).2 (k:Int) (by omega) (by omega);rw[hgk] at this;exact this
   ·show _<=(gi V.groups g).sum+n; omega
   ·show (gi V.groups g).sum+n<=_; omega
   ·have:=zbc eA hM2.nb (i:=g) u0 (by omega) (j:=7) (k:=1) (by decide);rw[hmg] at this;exact this
   have hM3:=((hM2.add hb3).add hb4).deed eA (BE (by omega));have eU:=eA.stoG0 (i:=g) u0 (by omega) (g:=EQ V c n g) rfl rfl rfl (j:=7) (vs:=[.int .i64 ((gi V.groups g).sum+n)]) (by unfold EQ; rw[zhy u0 hlt2]; rfl) (by simp);have hM4:=hM3.deed eU EE;rw[hmg] at hM4;have hM4:Mv 8 base [x,x1,x2,b3,b4] w m _ (setGr (K7 V c n g) g (EQ V c n g)) m2:=hM4;have hgb:=NA (c:=c) (n:=n) u0 hlt2;have hgi:=zh0 (c:=c) (n:=n) u0 hlt2;have hl5:(setGr (K7 V c n g) g (EQ V c n g)).groups.length=V.groups.length:=by simp only[setGr,List.length_set]; exact KP _ _ _ _
   have hnone:=zfj (c:=c) (n:=n) u0 hlt2;have hdef:Nz V c n g=setBd (setGr (K7 V c n g) g (EQ V c n g)) g (zbk V c n g):=rfl;generalize setGr (K7 V c n g) g (EQ V c n g)=V5 at hM4 hgi hl5 hnone hdef;refine⟨fun g2 wr1 hx3 hs3=>?_,fun g2=>⟨⟨by omega,by omega⟩,fun wr1 hx3 _=>⟨⟨k+1,Nz V c n g,m2,by simp,by omega,?_,hE,hC3⟩,Z6 (k:=k) rfl rfl hlt⟩⟩⟩
   ·have g2:(gi V.groups g).band.quota>0:=Ot g2;have hB:zbk V c n g=(YC (gi V.groups g).band ⟨2,c,n⟩).1:=by unfold zbk; rw[if_pos g2]
    rw[hB] at hdef;obtain⟨hb,hbl,_⟩:=hgg.band (by omega);have hM6:Mv 8 base [x,x1,x2,b3,b4] w m wr1 V5 m2:=hM4.step (hx3.mono fun y hy=>by simp only[List.mem_cons,List.not_mem_nil,or_false] at hy ⊢; rcases hy with h | h | h <;> simp[h]);have hr6:=hM6.rd0;have hg5:g<(V5.groups.length:Int):=by rw[hl5]; exact hlt2
    have hLo:=hr6.g.locals g u0 hg5;have hDo:=hr6.g.dry g u0 hg5;rw[hgi,hgb] at hLo hDo;refine Calls.mono (J4 (op:=⟨2,c,n⟩) hb hLo hDo) ?_;rintro e wv2 ⟨p,he,hO,hy⟩;have hM7:=hM6.call0 hy;have hbs:base<=wr1.heap.size:=by have:=hM6.ext.size; omega
    have hOb:∀y∈Zt p,wr1.heap.size<=y:=fun y hy=>(hO.lt y hy).1
    have hput:=hM7.own.putB (i:=g) u0 (by omega) (hO.mono hbs) (fun y hy hm=>by have:=hOb y hy; have:=(hM6.own.lt y hm).2; omega);have hwr:=zbc hM7.own hM7.nb (i:=g) u0 (by omega) (j:=8) (k:=5) (by decide);have hsz:=hM6.ext.size
    have hM8:=hM7.swap hput EE rfl fun y hy=>by
     rcases Ta y hy with h1 | h1
     ·exact .inl h1
     ·rcases T9 y h1 with h2 | h2
      ·have:=hOb y h2;exact .inr ⟨by omega,fun hm=>by have:=hs3 y hm; omega⟩
      ·exact .inl (JB (by omega) h2)
    rw[hmg] at hwr hM8;rw[<-hdef] at hM8;have hpc7:=(OP hp hpn hM7).2 (k:Int) (by omega) (by omega);rw[hgk] at hpc7;exact⟨_,_,_,_,_,_,_,_,_,_,he,Qd hy hs3,fun b5 hb5=>⟨hpix,g,hpc7,hixg,hwr,⟨by omega,by omega⟩,fun wr6 hx6 _=>⟨⟨k+1,Nz V c n g,_,by simp,by omega,(hM8.step hx6).sub' (by simp),hE,hC3⟩,Z6 (k:=k) rfl rfl hlt⟩⟩⟩
   ·have g2:¬(gi V.groups g).band.quota>0:=Ou g2;rw[hnone g2];exact(hM4.sub' (cs:=[x,x1,x2]) (fun y hy=>by simp only[List.mem_cons,List.not_mem_nil,or_false] at hy ⊢; rcases hy with h | h | h <;> simp[h])).step hx3
  ·have g1:¬g≠0:=by simpa using g1
   have hs:(⟨(Qc V g c).floor,(Qc V g c).on,(Qc V g c).v,(Qc V g c).w,(Qc V g c).sum+n⟩:Mx)=BI V c n g:=by unfold BI; rw[if_neg g1]
   have eA:=eA _ hs;refine⟨⟨?_,?_⟩,hpix,g,hpc,hixg,_,_,_,hshl,hixs,hwrS,hpix,g,?_,⟨?_,?_⟩,hixg,?_,?_⟩
   ·show _<=(Qc V g c).sum+n; omega
   ·show (Qc V g c).sum+n<=_; omega
   ·have:=(OP hp hpn (hM2.deed eA (BE (by omega)))).2 (k:Int) (by omega) (by omega);rw[hgk] at this;exact this
   ·show _<=(gi V.groups g).sum+n; omega
   ·show (gi V.groups g).sum+n<=_; omega
   ·have:=zbc eA hM2.nb (i:=g) u0 (by omega) (j:=7) (k:=1) (by decide);rw[hmg] at this;exact this
   have hM3:=((hM2.add hb3).add hb4).deed eA (BE (by omega));have eU:=eA.stoG0 (i:=g) u0 (by omega) (g:=EQ V c n g) rfl rfl rfl (j:=7) (vs:=[.int .i64 ((gi V.groups g).sum+n)]) (by unfold EQ; rw[zhy u0 hlt2]; rfl) (by simp);have hM4:=hM3.deed eU EE;rw[hmg] at hM4;have hM4:Mv 8 base [x,x1,x2,b3,b4] w m _ (setGr (K7 V c n g) g (EQ V c n g)) m2:=hM4;have hgb:=NA (c:=c) (n:=n) u0 hlt2;have hgi:=zh0 (c:=c) (n:=n) u0 hlt2;have hl5:(setGr (K7 V c n g) g (EQ V c n g)).groups.length=V.groups.length:=by simp only[setGr,List.length_set]; exact KP _ _ _ _
   have hnone:=zfj (c:=c) (n:=n) u0 hlt2;have hdef:Nz V c n g=setBd (setGr (K7 V c n g) g (EQ V c n g)) g (zbk V c n g):=rfl;generalize setGr (K7 V c n g) g (EQ V c n g)=V5 at hM4 hgi hl5 hnone hdef;refine⟨fun g2 wr1 hx3 hs3=>?_,fun g2=>⟨⟨by omega,by omega⟩,fun wr1 hx3 _=>⟨⟨k+1,Nz V c n g,m2,by simp,by omega,?_,hE,hC3⟩,Z6 (k:=k) rfl rfl hlt⟩⟩⟩
   ·have g2:(gi V.groups g).band.quota>0:=Ot g2;have hB:zbk V c n g=(YC (gi V.groups g).band ⟨2,c,n⟩).1:=by unfold zbk; rw[if_pos g2]
    rw[hB] at hdef;obtain⟨hb,hbl,_⟩:=hgg.band (by omega);have hM6:Mv 8 base [x,x1,x2,b3,b4] w m wr1 V5 m2:=hM4.step (hx3.mono fun y hy=>by simp only[List.mem_cons,List.not_mem_nil,or_false] at hy ⊢; rcases hy with h | h | h <;> simp[h]);have hr6:=hM6.rd0;have hg5:g<(V5.groups.length:Int):=by rw[hl5]; exact hlt2
    have hLo:=hr6.g.locals g u0 hg5;have hDo:=hr6.g.dry g u0 hg5;rw[hgi,hgb] at hLo hDo;refine Calls.mono (J4 (op:=⟨2,c,n⟩) hb hLo hDo) ?_;rintro e wv2 ⟨p,he,hO,hy⟩;have hM7:=hM6.call0 hy;have hbs:base<=wr1.heap.size:=by have:=hM6.ext.size; omega
    have hOb:∀y∈Zt p,wr1.heap.size<=y:=fun y hy=>(hO.lt y hy).1
    have hput:=hM7.own.putB (i:=g) u0 (by omega) (hO.mono hbs) (fun y hy hm=>by have:=hOb y hy; have:=(hM6.own.lt y hm).2; omega);have hwr:=zbc hM7.own hM7.nb (i:=g) u0 (by omega) (j:=8) (k:=5) (by decide);have hsz:=hM6.ext.size
    have hM8:=hM7.swap hput EE rfl fun y hy=>by
     rcases Ta y hy with h1 | h1
     ·exact .inl h1
     ·rcases T9 y h1 with h2 | h2
      ·have:=hOb y h2;exact .inr ⟨by omega,fun hm=>by have:=hs3 y hm; omega⟩
      ·exact .inl (JB (by omega) h2)
    rw[hmg] at hwr hM8;rw[<-hdef] at hM8;have hpc7:=(OP hp hpn hM7).2 (k:Int) (by omega) (by omega);rw[hgk] at hpc7;exact⟨_,_,_,_,_,_,_,_,_,_,he,Qd hy hs3,fun b5 hb5=>⟨hpix,g,hpc7,hixg,hwr,⟨by omega,by omega⟩,fun wr6 hx6 _=>⟨⟨k+1,Nz V c n g,_,by simp,by omega,(hM8.step hx6).sub' (by simp),hE,hC3⟩,Z6 (k:=k) rfl rfl hlt⟩⟩⟩
   ·have g2:¬(gi V.groups g).band.quota>0:=Ou g2;rw[hnone g2];exact(hM4.sub' (cs:=[x,x1,x2]) (fun y hy=>by simp only[List.mem_cons,List.not_mem_nil,or_false] at hy ⊢; rcases hy with h | h | h <;> simp[h])).step hx3
 ·have hge:=Ou hge;have hk2:k=(Yz W t).length:=by omega
  subst hk2;rw[List.drop_length] at hE;have hE:zdf c n (Yz W t) (setTk W t (K8 W t n))=V:=hE;have hcV:V.cpus=W.cpus:=hC.cp;have cV:c<(V.cpus.length:Int):=by rw[hclV]; exact c1
  have hixc:Ix m.cO W.cpus.length c:=by have:=hr.c.ix Zh c0 cV; rwa[hclV,hmc] at this
  have hcr:=rb.c c c0 c1;have e1:=hM2.own.stoC c0 cV (j:=3) (vs:=[.int .i64 ((gi W.cpus c).busy+n)]) (x:={ gi W.cpus c with busy:=(gi W.cpus c).busy+n }) (by rw[hcV]; rfl) (by simp);have hl1:(V.cpus.set c.toNat { gi W.cpus c with busy:=(gi W.cpus c).busy+n }).length=V.cpus.length:=List.length_set;have hg1:gi (V.cpus.set c.toNat { gi W.cpus c with busy:=(gi W.cpus c).busy+n }) c={ gi W.cpus c with busy:=(gi W.cpus c).busy+n }:=(Qw _ _ c0 cV c0).trans (if_pos rfl);have e2:=e1.stoC c0 (by simpa using cV) (j:=2) (vs:=[.int .i64 ((gi W.cpus c).ran+n)]) (x:=zjz W c n) (by rw[hg1]; rfl) (by simp);have hb:=hr.c.f c0 cV (j:=3) rfl;have hw1:=zhl hM2.own hM2.nb c0 cV (j:=3) (k:=1) (by decide);have hM3:=hM2.deed e1 D4;have hrn:=hM3.rd.c.f c0 (by show c<((V.cpus.set c.toNat { gi W.cpus c with busy:=(gi W.cpus c).busy+n }).length:Int); rw[hl1]; exact cV) (j:=2) rfl;have hw2:=zhl e1 hM2.nb c0 (by show c<((V.cpus.set c.toNat { gi W.cpus c with busy:=(gi W.cpus c).busy+n }).length:Int); rw[hl1]; exact cV) (j:=2) (k:=1) (by decide);rw[hmc] at hb hw1 hrn hw2;rw[hcV] at hb;rw[show gi ({ V with cpus:=V.cpus.set c.toNat { gi W.cpus c with busy:=(gi W.cpus c).busy+n } }:Q7).cpus c=_ from hg1] at hrn;have hM4:=hM3.deed e2 D4
  have hW4:({ V with cpus:=(V.cpus.set c.toNat { gi W.cpus c with busy:=(gi W.cpus c).busy+n }).set c.toNat (zjz W c n) }:Q7)=Oj W c t n:=by
   unfold Oj setCp;rw[hE,List.set_set]
  rw[hmc] at hM4;have hM4:Mv 8 base [x,x1,x2] w m _ ({ V with cpus:=(V.cpus.set c.toNat { gi W.cpus c with busy:=(gi W.cpus c).busy+n }).set c.toNat (zjz W c n) }:Q7) m2:=hM4;rw[hW4] at hM4;refine⟨hixc,_,hb,⟨?_,?_⟩,hixc,hw1,hixc,_,hrn,⟨?_,?_⟩,hixc,hw2,fun wr7 hx7 hs7=>?_⟩
  ·show _<=(gi W.cpus c).busy+n; omega
  ·show (gi W.cpus c).busy+n<=_; omega
  ·show _<=(gi W.cpus c).ran+n; omega
  ·show (gi W.cpus c).ran+n<=_; omega
  have hM7:=hM4.step hx7;have hsz:=hM7.ext.size;have hcall:=Qq hM7.own sE (by omega) (by omega) (by omega);rw[show Qa (Oj W c t n) m2=Qa W m from hM7.encW_eq (by rw[show (Oj W c t n).now=V.now from by rw[<-hW4]]; exact hC.now) hlE (by rw[<-hW4,show ({ V with cpus:=(V.cpus.set c.toNat { gi W.cpus c with busy:=(gi W.cpus c).busy+n }).set c.toNat (zjz W c n) }:Q7).tasks=V.tasks from rfl,hC.t]; simp[setTk]) (by rw[<-hW4]; exact hC.g.len)] at hcall;refine Calls.mono hcall ?_;rintro e wv ⟨m3,he,hy⟩;exact⟨_,_,_,_,_,_,_,_,_,_,he,hM7.kept hy hs7,fun wr8 hx8=>⟨m3,rfl,((hM7.call hy hs7).step hx8).close⟩⟩
end
end Go.Proofs.YtnclplgaicdapaaGreatDoor
