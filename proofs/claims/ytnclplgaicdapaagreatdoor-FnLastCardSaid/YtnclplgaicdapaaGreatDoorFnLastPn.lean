/- Part 14 of what the law FnLast needs. -/
import Derived.Test.YtnclplgaicdapaaGreatDoorFnLastPm
set_option linter.unusedVariables false
set_option linter.unusedSimpArgs false
set_option maxRecDepth 100000
set_option maxHeartbeats 8000000
namespace Go.Proofs.YtnclplgaicdapaaGreatDoor
open Go.RowKit
def z2f(W:Q7)(t b c:Int):Bool:=(Fs W c==0)||decide (Fs W c+Qf (Q8 W t).nice<=Fs W b-Qf (Q8 W t).nice)
def zgu(W:Q7)(b c:Int)(t:Nat):Bool:=(((Q8 W (t:Int)).M'==b)&&UR W (t:Int) c)&&z2f W (t:Int) b c
def P0(W:Q7)(b c:Int):Nat->Nat->Int
 | 0,_ => -1
 | f+1,j=>if zgu W b c j=true then (j:Int) else P0 W b c f (j+1)
theorem zr8{W:Q7}{b c:Int}{f j:Nat}(h:zgu W b c j=true):P0 W b c (f+1) j=(j:Int):=E' h
theorem znx{W:Q7}{b c:Int}{f j:Nat}(h:zgu W b c j=false):P0 W b c (f+1) j=P0 W b c f (j+1):=C' (by rw[h]; decide)
noncomputable def zma(W:Q7)(c:Int):Nat->Nat->Int
 | 0,_ => -1
 | f+1,k=>if OQ W c (k:Int)<0 then zma W c f (k+1) else if P0 W (OQ W c (k:Int)) c 12 0<0 then zma W c f (k+1) else P0 W (OQ W c (k:Int)) c 12 0
noncomputable def KA(W:Q7)(c:Int):Int:=zma W c (q9 (W.IE.length:Int)).toNat 0
theorem zmc{W:Q7}{c:Int}{f k:Nat}(h:OQ W c (k:Int)<0):zma W c (f+1) k=zma W c f (k+1):=E' h
theorem zmb{W:Q7}{c:Int}{f k:Nat}(h:P0 W (OQ W c (k:Int)) c 12 0<0):zma W c (f+1) k=zma W c f (k+1):=by
 simp only[zma]
 by_cases h0:OQ W c (k:Int)<0
 ·rw[E' h0]
 ·rw[C' h0,E' h]
theorem zmd{W:Q7}{c:Int}{f k:Nat}(h0:¬OQ W c (k:Int)<0)(h:¬P0 W (OQ W c (k:Int)) c 12 0<0):zma W c (f+1) k=P0 W (OQ W c (k:Int)) c 12 0:=by
 simp only[zma];rw[C' h0,C' h]
theorem zcr{W:Q7}(wp:J7 W)(c:Int):0<=Fs W c/\Fs W c<=240:=by
 have:=VO (NX W c) W.tasks.length;have ht:=wp.a.t;unfold Fs;omega
section
variable {W:Q7}{m:MW}{w:Wo}{bs:List Nat}{p:OA}
theorem zcl{t b c:Int}(h:Xl bs w W m)(wp:J7 W)(t0:0<=t)(t1:t<(W.tasks.length:Int)):PX bs Pg #[.agg (Qa W m).toArray,I t,I b,I c] w (.bool (z2f W t b c)):=
 zc9 _ _ _ _ _ _ _ _ _ _ t b c λwr hx=>by
  have h:=(h.ext hx).less (cs:=[]) Qs;have r1:=zcr wp c;have r2:=zcr wp b;have r3:0<=Qf (gi W.tasks t).nice/\Qf (gi W.tasks t).nice<=20:=Jq _;exact λ_ _=>⟨_,Tq h wp,h.t.ix QM t0 t1,_,h.t.f t0 t1 (j:=3) rfl,_,ZP,λ_=>⟨Qo,Qo⟩,_,λ_=>Tq h wp,λ_=>⟨Qo,Qo⟩,rfl⟩
theorem zcm{c:Int}(h:Xl bs w W m)(wp:J7 W)(c0:0<=c)(c1:c<(W.IE.length:Int)):PX bs Ph #[.agg (Qa W m).toArray,I c] w (I (KA W c)):=
 zdb _ _ _ _ _ _ _ _ _ _ c λwr hx=>by
  have h:=(h.ext hx).less (cs:=[]) Qs;have hlv:=zqk (W.IE.length:Int);have kG:=wp.a.t;intro _ _;refine XB 2 0 rfl (λk=>(k:Int)<=q9 (W.IE.length:Int)/\zma W c ((q9 (W.IE.length:Int)).toNat-k) k=KA W c) ⟨hlv.1,rfl⟩ λk ⟨hk,hI⟩=>⟨_,Pu,λIT=>?_,λRN=>?_⟩
  ·have IT:=Ot IT;have ek:(q9 (W.IE.length:Int)).toNat-k=((q9 (W.IE.length:Int)).toNat-(k+1))+1:=Qo;rw[ek] at hI;have nxt:zma W c ((q9 (W.IE.length:Int)).toNat-(k+1)) (k+1)=KA W c->((k+1:Nat):Int)<=q9 (W.IE.length:Int)/\zma W c ((q9 (W.IE.length:Int)).toNat-(k+1)) (k+1)=KA W c:=λhp=>⟨Qo,hp⟩
   refine⟨_,Fe,_,Fj h wp c0 c1,λg=>⟨⟨Qo,Qo⟩,QE Qo (nxt ?_)⟩,λg=>?_⟩
   ·rw[<-hI,zmc (show OQ W c (k:Int)<0 from Ot g)]
   ·have g:¬OQ W c (k:Int)<0:=Ou g;refine XB 12 0 rfl (λj=>j<=12/\P0 W (OQ W c (k:Int)) c (12-j) j=P0 W (OQ W c (k:Int)) c 12 0) ⟨Ie _,rfl⟩ λj ⟨hj,hF⟩=>⟨λRM=>?_,λbK=>?_⟩
    ·have RM:=Ot RM;have vO:j<12:=Qo;rw[show 12-j=(12-(j+1))+1 by omega] at hF;refine⟨h.t.ix QM Qo RM,_,h.t.f Qo RM (j:=2) rfl,_,λ_=>Ln h wp Qo RM c0 c1,_,λ_=>zcl h wp Qo RM,λg2=>?_,λg2=>⟨⟨Qo,Qo⟩,QE vO ⟨Qo,?_⟩⟩⟩
     ·have g2:zgu W (OQ W c (k:Int)) c j=true:=g2;rw[zr8 g2] at hF;rw[<-hI,zmd g (by rw[<-hF]; omega),<-hF]
     ·have g2:zgu W (OQ W c (k:Int)) c j=false:=g2;rw[<-hF,znx g2]
    ·have bK:=Ou bK;have:j=12:=Qo;subst this;refine⟨⟨Qo,Qo⟩,QE Qo (nxt ?_)⟩;rw[<-hI,zmb (by rw[<-hF]; show (-1:Int)<0; decide)]
  ·have RN:=Ou RN;have:(q9 (W.IE.length:Int)).toNat-k=0:=Qo;rw[this] at hI;rw[<-hI]; rfl
theorem zos(W:Q7)(c:Int) : -1<=KA W c:=by
 have hf:∀(b:Int) (f j:Nat),-1<=P0 W b c f j:=λb f=>by
  induction f with
  | zero=>intro j; exact I3 _
  | succ f ih=>
   intro j;simp only[P0];split
   ·omega
   ·exact ih _
 have hp:∀(f k:Nat),-1<=zma W c f k:=λf=>by
  induction f with
  | zero=>intro k; exact I3 _
  | succ f ih=>
   intro k;simp only[zma];split
   ·exact ih _
   ·split
    ·exact ih _
    ·exact hf _ _ _
 exact hp _ _
end
def ze6(W:Q7)(g:Int)(j:Nat):Int:=zb7 W g (j:Int)
theorem M8(W:Q7)(g c:Int)(h:W.tasks.length=12):0<=zb7 W g c/\zb7 W g c<=240:=by
 have:=VO (zb6 W g c) W.tasks.length;unfold zb7;omega
def z06(a b:Int):Int:=if a>b then a else b
def Mm(W:Q7)(g c:Int):Int:=
 if Jr (ze6 W g) W.IE.length=0 then (gi W.ID g).weight else z06 1 (Int.tdiv ((gi W.ID g).weight*zb7 W g c) (Jr (ze6 W g) W.IE.length))
theorem z0j{a b:Int}(ha:0<=a)(ha2:a<=100000)(hb:0<b):Ql .i64 (Int.tdiv a b):=by
 have h1:=Int.tdiv_nonneg ha (Int.le_of_lt hb);have h2:Int.tdiv a b<=a:=by rw[Int.tdiv_eq_ediv_of_nonneg ha]; exact Int.ediv_le_self _ ha
 exact⟨Qo,Qo⟩
theorem zfu{a b:Int}{w:Wo}{bs:List Nat}:PX bs YL #[I a,I b] w (I (z06 a b)):=Tr
section
variable {W:Q7}{m:MW}{w:Wo}{bs:List Nat}{p:OA}
theorem zo2{g c:Int}(wp:TU W)(hu:Q6 W.ID g=true):0<=(gi W.ID g).weight*zb7 W g c/\(gi W.ID g).weight*zb7 W g c<=4800:=by
 have hw:=(wp.a.u hu).2.2;have hi:=M8 W g c wp.a.t;have w1:=hw.w1;have w2:=hw.w2;refine⟨Int.mul_nonneg Qo hi.1,?_⟩;have:=Int.mul_le_mul w2 hi.2 hi.1 (show (0:Int)<=20 by decide);omega
theorem By{g:Int}(wp:TU W)(k:Nat):0<=Jr (ze6 W g) k/\Jr (ze6 W g) k<=(k:Int)*240:=VO (λj=>M8 W g (j:Int) wp.a.t) k
theorem Ck{g c:Int}(h:Xl bs w W m)(wp:TU W)(hl:Xz W)(hu:Q6 W.ID g=true):PX bs Oa #[.agg (Qa W m).toArray,I g,I c] w (I (Mm W g c)):=
 CF _ _ _ _ _ _ _ _ _ _ g c λwr hx=>by
  have h:=(h.ext hx).less (cs:=[]) Qs;have sK:=wp.a.c2;obtain⟨u1,u2,_⟩:=Q5.1 hu;intro _ _;refine P3 W.IE.length 0 rfl (λx k=>k<=W.IE.length/\x=Jr (ze6 W g) k) ⟨Ie _,rfl⟩ λx k ⟨hk,R3⟩=>⟨λIT=>?_,λRN=>⟨λg2=>⟨h.g.ix u1 u2,_,(h.g.cells g u1 u2).get 3 _ rfl,?_⟩,λg2=>?_⟩⟩
  ·have IT:=Ot IT;have hr:=By (g:=g) wp k;have hi:=M8 W g (k:Int) wp.a.t;exact⟨_,Kt h wp hl hu,⟨Qo,Qo⟩,⟨Qo,Qo⟩,QK Qo ⟨Qo,by simp only[Jr]; rw[R3]; rfl⟩⟩
  ·have RN:=Ou RN;have:k=W.IE.length:=Qo;subst this;unfold Mm;rw[E' (by rw[<-R3]; simpa using g2)]
  ·have RN:=Ou RN;have:k=W.IE.length:=Qo;subst this;have hr:=By (g:=g) wp W.IE.length;have hp:=zo2 (c:=c) wp hu;have fH:x≠0:=by simpa using g2
   refine⟨h.g.ix u1 u2,_,(h.g.cells g u1 u2).get 3 _ rfl,zb7 W g c,Kt h wp hl hu,⟨Qo,Qo⟩,⟨fH,z0j hp.1 Qo Qo⟩,_,zfu,?_⟩;unfold Mm;rw[C' (by rw[<-R3]; exact fH),R3]
end
theorem zu1{gs:List ZN}(ht:Yc gs){g:Int}:∀h:Int,Q6 gs h=true->g∈Zb gs h->TI 3 gs g h=true:=
 Mi ht (λhx=>by rw[show Zb gs 0=[] from Zq _ _] at hx; cases hx) λh hu hz ih hx=>by
  by_cases e:h=g
  ·subst e; simp[TI]
  ·rw[zha ht hu hz e];rw[YI ht hu hz] at hx;rcases Ij.1 hx with e2 | e2
   ·exact Is e2.symm e
   ·exact ih e2
theorem zq9(W:Q7)(g c x:Int):TC W (Lb W g c x):=by
 unfold Lb;split
 ·exact TC.refl _
 ·split
  ·exact(zdw _ _ _ _).trans (Hq _ _)
  ·exact zdw _ _ _ _
theorem Tz.wei{W:Q7}(p:Tz W){g c x:Int}(hu:Q6 W.ID g=true)(hz:g≠0)(c0:0<=c)(c1:c<(W.IE.length:Int)):Tz (Lb W g c x):=by
 obtain⟨u0,u1,_⟩:=Q5.1 hu;have hl:=p.a.gl;have hsl:=p.a.sl hu;have tA:c<((gi W.ID g).IF.length:Int):=Qo;have e:∀{i j:Int},0<=i->0<=j->Qc (Ui W g c x) i j=if g=i/\c=j then zd3 W g c x else Qc W i j:=λhi hj=>Jo u0 u1 c0 tA hi hj
 have hT:Z6 W.ID (Ui W g c x).ID:=XW u0 u1
 have ef:∀{i j:Int},0<=i->0<=j->(Qc (Ui W g c x) i j).floor=(Qc W i j).floor:=λ{i j} hi hj=>by
  rw[e hi hj]; split
  ·rename_i h; obtain⟨rfl,rfl⟩:=h; rfl
  ·rfl
 have hpu:=p.a.up hu hz;have p0:=(Q5.1 hpu).1
 have same:∀{i j:Int},Q6 W.ID i=true->i≠0->0<=j->¬(g=i/\c=j)->VN W i j->VN (Ui W g c x) i j:=λ{i j} iu iz j0 hn h=>by
  unfold VN at h ⊢;rw[hT.p,ef (Q5.1 (p.a.up iu iz)).1 j0,e (Q5.1 iu).1 j0,C' hn];exact h
 have hA:PreA (Ui W g c x):=by
  refine⟨p.a.Rz u0 Qo,λt t0 t1=>?_,λt t0 t1 n=>p.l t t0 t1 n,λi j iu j0 j1=>?_⟩
  ·rcases p.t t t0 t1 with h | ⟨n,h⟩
   ·exact .inl h
   ·exact .inr ⟨n,h.st,by rw[hT.eO]; exact h.g,h.n,h.m,h.m0,h.s,h.u,h.l1,h.l2,λh1=>by
     show (Qc (Ui W g c x) (Q8 W t).group (Q8 W t).M').floor<=(Q8 W t).v/\(Q8 W t).v-(Qc (Ui W g c x) (Q8 W t).group (Q8 W t).M').floor<=_;rw[ef (Q5.1 h.g).1 (p.l t t0 t1 n).1]; exact h.f h1⟩
  ·rw[hT.eO] at iu;have hs:=p.s i j iu j0 j1;have i0:=(Q5.1 iu).1
   by_cases h:g=i/\c=j
   ·obtain⟨rfl,rfl⟩:=h;refine⟨by rw[e i0 j0,E' ⟨rfl,rfl⟩]; exact hs.s,λh0=>Is h0 hz,λ_ ho=>?_⟩;rw[e i0 j0,E' ⟨rfl,rfl⟩] at ho;have ho:(Qc W g c).on=true:=ho;unfold VN;rw[hT.p,ef p0 j0,e i0 j0,E' ⟨rfl,rfl⟩];simp only[zd3];rw[E' ho];have:=ZU ((Qc W g c).v-(Qc W (gi W.ID g).parent c).floor) x;omega
   ·refine⟨by rw[e i0 j0,C' h]; exact hs.s,by rw[e i0 j0,C' h]; exact hs.root,λiz ho=>?_⟩;rw[e i0 j0,C' h] at ho;exact same iu iz j0 h (hs.st iz ho)
 have hC:∀d:Int,0<=d->d<(W.IE.length:Int)->(d=c->zko (Ui W g c x) g c=false)->z0a (Ui W g c x) d:=λd d0 d1 hd=>by
  have h:=p.c d d0 d1;refine⟨h.b,h.i,h.c1,h.c2,h.no,h.yes,λh0 h1 h2=>?_⟩;obtain⟨q1,q2⟩:=h.q h0 h1 h2
  have hcu:Q6 W.ID (Q8 W (gi W.IE d).cur).group=true:=by
   rcases p.t _ h0 h.c2 with hz | ⟨_,hx⟩
   ·have h1:(Q8 W (gi W.IE d).cur).state=1:=h1;have h3:(Q8 W (gi W.IE d).cur).state=0:=hz.1;rw[h3] at h1; cases h1
   ·exact hx.g
  refine⟨by show (Q8 W (gi W.IE d).cur).v-(Qc (Ui W g c x) (Q8 W (gi W.IE d).cur).group d).floor<=_; rw[ef (Q5.1 hcu).1 d0]; exact q1,λy hy=>?_⟩;have hy:y∈Zb W.ID (Q8 W (gi W.IE d).cur).group:=by rw[<-Tv hT]; exact hy
  obtain⟨yu,yz⟩:=YO p.a.tree _ hcu y hy;have y0:=(Q5.1 yu).1
  have hn:¬(g=y/\c=d):=by
   rintro⟨rfl,rfl⟩;have h3:=hd rfl;unfold zko at h3;have h4:=zu1 (hT.tree p.a.tree) (g:=g) (Q8 W (gi W.IE c).cur).group (by rw[hT.eO]; exact hcu) (by rw[Tv hT]; exact hy);rw[show (gi (Ui W g c x).IE c).cur=(gi W.IE c).cur from rfl,Ii (show (gi W.IE c).cur>=0 from h0),Bool.true_and] at h3;rw[show (Q8 (Ui W g c x) (gi W.IE c).cur).group=(Q8 W (gi W.IE c).cur).group from rfl,h4] at h3;cases h3
  obtain⟨s1,s2⟩:=q2 y hy;refine⟨same yu yz d0 hn s1,?_⟩;rw[hT.p,ef (Q5.1 (p.a.up yu yz)).1 d0,e y0 d0,C' hn];exact s2
 unfold Lb;split
 ·exact p
 ·split
  ·refine⟨hA.RD c0 c1,λd d0 d1=>?_⟩;have hlen:(YtnclplgaicdapaaGreatDoor.RD (Ui W g c x) c).IE.length=W.IE.length:=H';have mB:gi (YtnclplgaicdapaaGreatDoor.RD (Ui W g c x) c).IE d=if c=d then J1 (gi W.IE c) else gi W.IE d:=QI _ _ c0 c1 d0;rw[hlen] at d1
   by_cases ed:c=d
   ·subst ed;have h:=p.c c c0 c1;rw[E' rfl] at mB;have n1:(J1 (gi W.IE c)).cur = -1:=rfl;exact⟨by rw[mB]; exact h.b,by rw[mB]; exact h.i,by rw[mB,n1]; exact I3 _,by rw[mB,n1]; decide,λ_=>by rw[mB]; rfl,λh=>by rw[mB,n1] at h; omega,λh=>by rw[mB,n1] at h; omega⟩
   ·have h:=hC d d0 d1 λhd=>Is hd.symm ed
    rw[C' ed] at mB;exact⟨by rw[mB]; exact h.b,by rw[mB]; exact h.i,by rw[mB]; exact h.c1,by rw[mB]; exact h.c2,by rw[mB]; exact h.no,by rw[mB]; exact h.yes,by rw[mB]; exact h.q⟩
  ·rename_i he;exact⟨hA,λd d0 d1=>hC d d0 d1 λ_=>by simpa using he⟩
theorem SW.tu{K:Int}{W:Q7}(h:SW K W):TU W:=⟨h.a,λt0 t1 hs=>h.li t0 t1 hs⟩
theorem zrc{f:Nat->Int}(h:∀j,0<=f j):∀m:Nat,0<=Jr f m
 | 0=>I3 _
 | m+1=>by
  have ih:=zrc h m;have:=h m;simp only[Jr];omega
theorem zrb{f:Nat->Int}(h:∀j,0<=f j){k:Nat}:∀n:Nat,k<n->f k<=Jr f n
 | 0,hk=>Is hk (Nat.not_lt_zero k)
 | n+1,hk=>by
  simp only[Jr];have hn:=zrc h
  by_cases e:k=n
  ·subst e; have:=hn k; omega
  ·have:=zrb h (k:=k) n Qo;have:=h n;omega
theorem zms{W:Q7}(wp:TU W){g c:Int}(hu:Q6 W.ID g=true)(c0:0<=c)(c1:c<(W.IE.length:Int)):1<=Mm W g c/\Mm W g c<=(gi W.ID g).weight:=by
 have hg:=(wp.a.u hu).2.2;have w1:=hg.w1;have hi:=M8 W g c wp.a.t
 have pN:zb7 W g c<=Jr (ze6 W g) W.IE.length:=by
  have:=zrb (f:=ze6 W g) (λj=>(M8 W g (j:Int) wp.a.t).1) (k:=c.toNat) W.IE.length Qo;unfold ze6 at this
  rwa[show ((c.toNat:Nat):Int)=c by omega] at this
 unfold Mm;split
 ·omega
 ·rename_i hn
  have hp:0<Jr (ze6 W g) W.IE.length:=by
   have:=(By (g:=g) wp W.IE.length).1;omega
  have hq:Int.tdiv ((gi W.ID g).weight*zb7 W g c) (Jr (ze6 W g) W.IE.length)<=(gi W.ID g).weight:=by
   rw[Int.tdiv_eq_ediv_of_nonneg (Int.mul_nonneg Qo hi.1)];refine Int.ediv_le_of_le_mul hp ?_;exact Int.mul_le_mul_of_nonneg_left pN Qo
  unfold z06
  split <;> omega
theorem zmr{W:Q7}(wp:TU W){g c:Int}(hu:Q6 W.ID g=true)(c0:0<=c)(c1:c<(W.IE.length:Int)):1<=Mm W g c/\Mm W g c<=20:=by
 have h:=zms wp hu c0 c1;have:=(wp.a.u hu).2.2.w2;omega
def MZ(W:Q7)(c:Int):Nat->Q7
 | 0=>W
 | k+1=>if k≠0/\(gi (MZ W c k).ID (k:Int)).used=true then Lb (MZ W c k) (k:Int) c (Mm (MZ W c k) (k:Int) c) else MZ W c k
def Vv(W:Q7)(c:Int):Q7:=Qg (MZ W c 8)
noncomputable def TG(W:Q7)(c:Int):Int:=KA (Vv W c) c
noncomputable def ziw(W:Q7)(c:Int):Q7:=if TG W c<0 then Vv W c else Qg (Uh (Vv W c) (TG W c) (Q8 (Vv W c) (TG W c)).group c)
noncomputable abbrev EL(W:Q7)(c:Int):Int:=Yf W c true 0
structure zzo (W V:Q7):Prop where
 sf:SF Qn (Qn+Qi) V
 fr:Fr W V
 cu:De V
 pre:Tz V
 sta:TC W V
theorem ziv{W:Q7}(wp:J7 W)(hr:Kg W){c:Int}(c0:0<=c)(c1:c<(W.IE.length:Int)):∀k:Nat,k<=8->zzo W (MZ W c k)
 | 0,_=>⟨KF (Mq wp hr),Fr.refl _,zp0 wp,Xq wp,TC.refl _⟩
 | k+1,hk=>by
  have ih:=ziv wp hr c0 c1 k Qo;simp only[MZ];split
  ·rename_i h;have hl:=ih.sf.w.a.gl;have hu:Q6 (MZ W c k).ID (k:Int)=true:=Q5.2 ⟨Qo,Qo,h.2⟩;have tA:c<((MZ W c k).IE.length:Int):=by rw[ih.fr.c]; exact c1
   have hs:=zmr ih.sf.w.tu hu c0 tA;obtain⟨a,b,d⟩:=zrl ih.sf (I3 _) ih.cu hu Qo c0 tA hs.1 hs.2;exact⟨a,ih.fr.trans b,d,ih.pre.wei hu Qo c0 tA,ih.sta.trans (zq9 _ _ _ _)⟩
  ·exact ih
theorem zix{W:Q7}{c:Int}(hW:Qy W=true)(hb:EL W c=0):0<=c/\c<(W.IE.length:Int)/\zzo W (MZ W c 8)/\J7 (Vv W c)/\SW (Qn+Qi+UZ) (Vv W c)/\Fr W (Vv W c):=by
 obtain⟨h1,_,_,h4⟩:=CY hb;have wp:=Qj.1 hW;obtain⟨c0,c1⟩:=Uy h1;have hB:=ziv wp (Qj.1 h4) c0 c1 8 (I8 _);have hs:=Ov hB.sf.w (by simp only[Qi]; decide);exact⟨c0,c1,hB,(zdt hB.sf.w (by simp only[Qi]; decide) (by simp only[Qi,UZ]; decide) hB.pre (hB.sta.loc hB.fr.t (UW wp))).1,hs.1,hB.fr.trans hs.2⟩
theorem zbu{W:Q7}{b c:Int}:∀f j:Nat,0<=P0 W b c f j->∃i:Nat,P0 W b c f j=(i:Int)/\j<=i/\i<j+f/\zgu W b c i=true
 | 0,j,h=>by
  have:(0:Int)<=-1:=h;omega
 | f+1,j,h=>by
  simp only[P0] at h ⊢;split
  ·rename_i hp;exact⟨j,rfl,I8 _,Qo,hp⟩
  ·rename_i hp;rw[C' hp] at h;obtain⟨i,a,b',c',d⟩:=zbu f (j+1) h;exact⟨i,a,Qo,Qo,d⟩
theorem zht{W:Q7}{c:Int}(h:¬KA W c<0):∃(i:Nat) (b:Int),KA W c=(i:Int)/\i<12/\zgu W b c i=true:=by
 have key:∀f k:Nat,0<=zma W c f k->∃(i:Nat) (b:Int),zma W c f k=(i:Int)/\i<12/\zgu W b c i=true:=λf=>by
  induction f with
  | zero=>intro k h; have:(0:Int)<=-1:=h; omega
  | succ f ih=>
   intro k h
   by_cases h0:OQ W c (k:Int)<0
   ·rw[zmc h0] at h ⊢; exact ih _ h
   ·by_cases h1:P0 W (OQ W c (k:Int)) c 12 0<0
    ·rw[zmb h1] at h ⊢; exact ih _ h
    ·rw[zmd h0 h1] at h ⊢;obtain⟨i,a,_,b,d⟩:=zbu 12 0 h;exact⟨i,_,a,Qo,d⟩
 exact key _ _ (by have:=zos W c; unfold KA at *; omega)
theorem zy5{W:Q7}{c:Int}(h:¬KA W c<0):0<=KA W c/\KA W c<12/\(Q8 W (KA W c)).state=1:=by
 obtain⟨i,b,e,hi,hp⟩:=zht h;unfold zgu at hp;simp only[A'] at hp;rw[e];exact⟨Qo,Qo,(NR hp.1.2).1⟩
theorem zyl{W V:Q7}(hl:Xz W)(ha:WA V)(hT:Z6 W.ID V.ID):Xz V:=by
 have h1:=ha.c2;have h2:=ha.t;have h3:=ha.gl;have hm:=Zo;have hn1:=ha.n1;have hn2:=ha.n2;refine⟨Qo,Qo,Qo,λi a b=>?_⟩;have hb:=Kk ha a Qo;have hg:=ha.grp i a Qo;refine⟨by rw[hT.n]; exact(hl.f i a (by rw[<-hT.len]; exact b)).nm,?_,Qo,Qo,Qo⟩
 cases hu:(gi V.ID i).used with
 | false=>rw[(hg.1 hu).ne]; exact⟨Qd,Qd⟩
 | true=>
  have hg:=hg.2 hu
  by_cases hq:(gi V.ID i).IN.IY=0
  ·rw[(hg.none hq).2.2]; exact⟨Qd,Qd⟩
  ·have:=hg.IN hq;exact⟨Qo,Qo⟩
theorem zpt{W:Q7}{c:Int}(hW:Qy W=true)(hb:EL W c=0)(hp:¬TG W c<0):0<=TG W c/\TG W c<12/\(Q8 (Vv W c) (TG W c)).state=1/\Q6 (Vv W c).ID (Q8 (Vv W c) (TG W c)).group=true/\SF (Qn+Qi+UZ) (Qn+Qi+UZ+Qi) (Vv W c)/\
  SF (Qn+Qi+UZ) (Qn+Qi+UZ+Qi) (Uh (Vv W c) (TG W c) (Q8 (Vv W c) (TG W c)).group c):=by
 obtain⟨c0,c1,_,wp,sw,fr⟩:=zix hW hb;obtain⟨p0,p1,ps⟩:=zy5 hp;have sf:SF (Qn+Qi+UZ) (Qn+Qi+UZ+Qi) (Vv W c):=sw.sf.mono (I3 _) (by simp only[Qi]; omega);have hu:=(sw.t _ p0 p1 (show (Q8 (Vv W c) (TG W c)).state≠0 by unfold TG; rw[ps]; decide)).1;exact⟨p0,p1,ps,hu,sf,(y9 sf (I3 _) p0 p1 hu c0 (by rw[fr.c]; exact c1)).2⟩
section
variable {base pb:Nat}{W W':Q7}{m:MW}{w:Wo}
theorem Fd{c:Int}(h:Xl [] w W m)(hl:Xz W) :
  Cz VB #[.agg (Qa W m).toArray,I c] w λe w'=>∃v,e=.returned v/\QP (YK W (EL W c) (ziw W c)) w v w':=by
 refine ES _ _ _ _ _ _ _ _ _ _ c (R:=λv w'=>QP (YK W (EL W c) (ziw W c)) w v w') ?_;intro y hy y1 cX wr R3 Wc;have hm0:=XF;have tR:=hl.c;refine I4 (Zh (h.ext R3) hl) ?_;rintro e wv (⟨hW,he,SJ⟩ | ⟨hW,m',he,hM,SJ⟩)
 ·exact⟨_,_,_,_,_,_,_,_,_,_,_,he,Qe SJ Wc,λg=>by simp at g,true,λg=>by simp at g,λ_ J' Ra=>QP.bad hW ((R3.trans SJ).fresh Ra λz hm=>.inl (Yw hy cX z hm)),λg=>by simp at g⟩
 have hK:=Wk.begin hy cX R3 Wc hM SJ;have hr:=hK.rd;have wp:=Qj.1 hW;refine⟨_,_,_,_,_,_,_,_,_,_,_,he,Qe SJ Wc,λ_=>⟨Qo,Qo⟩,YQ W c,λ_=>Qr,λg J' Ra=>?_,λg=>?_⟩
 ·have g:YQ W c=false:=by
   cases hc:YQ W c with
   | false=>rfl
   | true=>rw[hc] at g; split at g <;> simp at g
  have hb:EL W c=1:=by unfold EL Yf; rw[E' g]
  exact QP.no hW (by rw[hb]; decide) (hK.step Ra) hb
 have g:YQ W c=true:=by
  cases hc:YQ W c with
  | true=>rfl
  | false=>rw[hc] at g; simp at g
 obtain⟨c0,c1⟩:=Uy g;refine⟨hr.c.ix ZT c0 c1,_,hr.c.f c0 c1 (j:=0) rfl,λg2 O' Ra=>?_,λg2=>⟨λg3 Ru Ra=>?_,λg3=>?_⟩⟩
 ·have g2:(gi W.IE c).up=false:=by simpa using g2
  have hb:EL W c=6:=by unfold EL Yf; rw[C' (by rw[g]; decide),E' (by rw[g2]; decide)]
  exact QP.no hW (by rw[hb]; decide) (hK.step Ra) hb
 ·have g2:(gi W.IE c).up=true:=by simpa using g2
  have bU:¬QO W=true:=λhr=>by rw[E' hr] at g3; simp at g3
  have hb:EL W c=10:=by unfold EL; rw[MD g g2 rfl,E' (by simpa using bU)]
  rw[C' bU];exact QP.no hW (by rw[hb]; decide) (hK.step Ra) hb
 have g2:(gi W.IE c).up=true:=by simpa using g2
 have bU:QO W=true:=Ir λhr=>by rw[C' hr] at g3; simp at g3
 have hb:EL W c=0:=by unfold EL; rw[MD g g2 rfl,C' (by rw[bU]; decide)]
 obtain⟨_,_,hB8,wpS,swS,frS⟩:=zix hW hb;refine⟨λvs w1=>∃k:Nat,vs=I (k:Int)::Qa W m'/\1<=k/\k<=8/\Wk 8 [y,y1] w w1 (MZ W c k) m',Zs 8 0,λw1 tF _=>⟨1,rfl,Qd,Qd,hK.step tF⟩,?_⟩;rintro g1 l Sd Sn Sr Sj Sp Sq Sf Sg Si Rr fX ⟨k,aE,hk1,hk8,hKk⟩;have hOk:=ziv wp (Qj.1 bU) c0 c1 k hk8;have e0:Qa (MZ W c k) m'=Qa W m':=Uz hOk.fr;have Wf:MZ W c (k+1)=if k≠0/\(gi (MZ W c k).ID (k:Int)).used=true then Lb (MZ W c k) (k:Int) c (Mm (MZ W c k) (k:Int) c) else MZ W c k:=rfl;have cJ:=hOk.sf.w.a.gl;have Bv1:=wp.a.gl;simp only[Qa,I5,I6,Iw,true_and,and_true] at aE;obtain⟨rfl,rfl,⟨rfl,rfl,rfl⟩,⟨rfl,rfl,rfl⟩,rfl,rfl,rfl⟩:=aE;refine⟨λIT=>?_,λRN S9 AD0 oP=>?_⟩
 ·have IT:=Ot IT;have hrk:=hKk.rd;have Wg:=hrk.g.ix (i:=(k:Int)) Qo Qo;rw[cJ] at Wg;rw[Bv1] at IT ⊢;refine⟨Wg,_,XZ ((hrk.g.cells (k:Int) Qo Qo).get 0 _ rfl),λgu=>?_,λgu=>⟨⟨Qo,Qo⟩,λWQ mF _=>⟨⟨k+1,by rw[<-Bv1]; rfl,Qo,Qo,?_⟩,?_⟩⟩⟩
  ·have hu:Q6 (MZ W c k).ID (k:Int)=true:=Q5.2 ⟨Qo,Qo,gu⟩;have tA:c<((MZ W c k).IE.length:Int):=by rw[hOk.fr.c]; exact c1
   have hsh:=zmr hOk.sf.w.tu hu c0 tA;have A76:=Ck (c:=c) hrk hOk.sf.w.tu (zyl hl hOk.sf.w.a hOk.fr.g) hu;rw[e0] at A76;simp only[Qa] at A76;rw[Bv1] at A76;refine⟨_,A76,λSz nN hs7=>?_⟩;have hK7:=hKk.step nN;have Rt:=Ks hK7.own hOk.sf (I3 _) (by simp only[Qi]; decide) hOk.cu (x:=Mm (MZ W c k) (k:Int) c) hu Qo c0 tA;rw[e0] at Rt;simp only[Qa] at Rt;rw[Bv1] at Rt;refine I4 Rt ?_;rintro e1 S5 ⟨gW,kW⟩;refine⟨_,_,_,_,_,_,_,_,_,_,gW,hK7.kept kW hs7,⟨Qo,Qo⟩,λW8 tG _=>⟨⟨k+1,by rw[<-Bv1]; rfl,Qo,Qo,?_⟩,?_⟩⟩
   ·rw[Wf,E' ⟨Qo,gu⟩];exact(hK7.SA kW hs7).step tG
   ·simp only[Zs,Xg,ZW,Ig]; omega
  ·rw[Wf,C' (by rintro⟨_,h⟩; rw[show (gi (MZ W c k).ID (k:Int)).used=false from gu] at h; cases h)];exact hKk.step mF
  ·simp only[Zs,Xg,ZW,Ig]; omega
 ·have RN:=Ou RN;have:k=8:=Qo;subst this;have AH0:=hKk.step AD0;have Rt:=Qv AH0.own hB8.sf.w (by simp only[Qi]; decide) (by simp only[Qi]; decide) AH0.base;rw[e0] at Rt;refine I4 Rt ?_;rintro e3 WJ ⟨m2,iP,hy5⟩;have BQ9:Wk 8 [y,y1] w WJ (Vv W c) m2:=AH0.SA hy5 oP;have CN7:=BQ9.rd;have Ce4:=zcm CN7 wpS c0 (by rw[frS.c]; exact c1);refine⟨_,_,_,_,_,_,_,_,_,_,iP,AH0.kept hy5 oP,_,Ce4,λg5=>?_,λg5 Wj BS9=>?_⟩
  ·have g5:¬TG W c<0:=by have:=Ot g5; unfold TG; omega
   obtain⟨p0,p1,ps,hu,sf,sfP⟩:=zpt hW hb g5;have kG:=wpS.a.t;refine⟨CN7.t.ix QM p0 (by rw[kG]; exact p1),_,CN7.t.f p0 (by rw[kG]; exact p1) (j:=1) rfl,λSm AT2 AC9=>?_⟩;have BC3:=BQ9.step AT2;refine I4 (V4 BC3.own sf (I3 _) (by simp only[Qi,UZ]; decide) (t:=TG W c) (g:=(Q8 (Vv W c) (TG W c)).group) (c:=c) p0 p1 (by rw[ps]; decide) hu c0 (by rw[frS.c]; exact c1)) ?_;rintro e4 fI ⟨he4,hy6⟩;refine⟨_,_,_,_,_,_,_,_,_,_,he4,BC3.kept hy6 AC9,λSv wL AT1=>?_⟩;have B67:=(BC3.SA hy6 AC9).step wL
   have Cu8:Qa (Uh (Vv W c) (TG W c) (Q8 (Vv W c) (TG W c)).group c) m2=Qa (Vv W c) m2:=by
    obtain⟨q1,q2,q3,q4⟩:=zv9 (Vv W c) (TG W c) (Q8 (Vv W c) (TG W c)).group c;simp only[Qa,q1,q2,q3,q4]
   have aS:=Qv B67.own sfP.w (by simp only[Qi,UZ]; decide) (by simp only[Qi,UZ]; decide) B67.base;rw[Cu8] at aS;refine I4 aS ?_;rintro e5 dP ⟨m3,he5,hy7⟩;refine⟨_,_,_,_,_,_,_,_,_,_,he5,B67.kept hy7 AT1,λW5 Bx4=>?_⟩;have hE:ziw W c=Qg (Uh (Vv W c) (TG W c) (Q8 (Vv W c) (TG W c)).group c):=by unfold ziw; rw[C' g5]
   rw[hE];exact QP.ok hW hb ((B67.SA hy7 AT1).step Bx4)
  ·have g5:TG W c<0:=by have:=Ou g5; unfold TG; omega
   have hE:ziw W c=Vv W c:=by unfold ziw; rw[E' g5]
   rw[hE];exact QP.ok hW hb (BQ9.step BS9)
end
theorem zlt{W:Q7}{g n x:Int}(hW:Qy W=true)(hb:P1 W g n x=0):JH (zlh W g n x):=by
 have wp:=Qj.1 hW;have h:=zp7 hW hb;have p:=Xq wp
 have hT:Ek W (Gk W g n x):=⟨.inl rfl,h.u,h.w,h.m,h.m0,by show ZM 0=true; decide,by show ZM 0=true; decide,I3 _,by show (0:Int)<=8000000; decide,λ_=>by
  have:=(ZQ (Qf n)).1;show (Qc W g (Lf W g x)).floor<=(Qc W g (Lf W g x)).floor/\(Qc W g (Lf W g x)).floor-(Qc W g (Lf W g x)).floor<=ZB (Qf n);omega⟩
 exact Zz (h.sw2.RD h.c0 h.c1) Qd Qd (y7 p h.f0 h.f1 (show (1:Int)≠0 by decide) hT rfl h.c0 h.c1) (((UW wp).IU wp.a h.f0 h.f1 (x:=Gk W g n x) λ_=>h.ch).RD _)
theorem zyb{W:Q7}{g x:Int}(hW:Qy W=true)(hb:zm7 W g x=0):JH (zw3 W g x):=by
 have wp:=Qj.1 hW;obtain⟨h1,hz,hu,_,_,sf,cu,hT⟩:=zw4 hW hb;have hx:=Qt.1 h1;have hu':Q6 (Re W g (KI W g x)).ID g=true:=by rw[hT.eO]; exact hu
 have p1:Tz (Re W g (KI W g x)):=(Xq wp).same sf.w.a rfl rfl hT (zo3 rfl);have l1:zaa (Re W g (KI W g x)):=(UW wp).same rfl hT (λi=>YU (f:=ZN.IE) W.ID g (x:=KI W g x) rfl i) rfl;have hlen:(Re W g (KI W g x)).IE.length=W.IE.length:=rfl;show JH (Qg (H8 (Re W g (KI W g x)) g x W.IE.length));rw[<-hlen];generalize Re W g (KI W g x)=V at sf cu hu' p1 l1
 have all:∀k:Nat,k<=V.IE.length->Tz (H8 V g x k)/\TC V (H8 V g x k):=by
  intro k
  induction k with
  | zero=>exact λ_=>⟨p1,TC.refl _⟩
  | succ k ih=>
   intro hk;obtain⟨a,b⟩:=ih Qo;exact⟨a.wei (by rw[b.g.eO]; exact hu') hz Qo (by rw[b.len]; omega),b.trans (zq9 _ _ _ _)⟩
 obtain⟨a,b⟩:=all _ (I8 _);obtain⟨sf2,fr,_⟩:=zkp sf (I3 _) cu hu' hz hx.1 hx.2 V.IE.length (I8 _);exact Zz sf2.w (by simp only[Qi]; decide) (by simp only[Qi,UZ]; decide) a (b.loc fr.t l1)
theorem zrx{W:Q7}{t c:Int}(h:UR W t c=true):Z0 (Qw W (Q8 W t).group (Q8 W t).mask) c=true:=by
 unfold UR at h;simp only[A',IC,I0,I7] at h;exact h.1.2
theorem zx2{W:Q7}{c:Int}(hW:Qy W=true)(hb:EL W c=0):JH (ziw W c):=by
 have wp:=Qj.1 hW;obtain⟨c0,c1,hB,wpS,swS,frS⟩:=zix hW hb;have iS:JH (Vv W c):=Zz hB.sf.w (by simp only[Qi]; decide) (by simp only[Qi,UZ]; decide) hB.pre (hB.sta.loc hB.fr.t (UW wp));unfold ziw;split
 ·exact iS
 ·rename_i hp;obtain⟨p0,p1,ps,pu,_,sf⟩:=zpt hW hb hp;obtain⟨i,b,e,hi,ht⟩:=zht hp;have e:TG W c=(i:Int):=e;unfold zgu at ht;simp only[A'] at ht;have hcd:=zrx ht.1.2;rw[<-e] at hcd;have cS:c<((Vv W c).IE.length:Int):=by rw[frS.c]; exact c1
  clear hp iS swS frS hB ht e;have hK0:0<=Qn+Qi+UZ+Qi:=Qd;have hK1:Qn+Qi+UZ+Qi+UZ<=100000000000000000:=Qd;have hcd:Z0 (Qw (Vv W c) (Q8 (Vv W c) (TG W c)).group (Q8 (Vv W c) (TG W c)).mask) c=true:=hcd;generalize TG W c=q at *;generalize Vv W c=V at *;refine Zz sf.w hK0 hK1 (zdl (Xq wpS) p0 p1 (by rw[ps]; decide) pu c0 cS) λt t0 t1 n=>?_
  rw[(z7 V _ _ _).wh];rw[zou wpS.a.t p0 p1 t0] at n ⊢
  split at n
  ·rename_i he;rw[E' he];exact hcd
  ·rename_i he;rw[C' he];exact UW wpS t t0 t1 n
def zf3:KL:=⟨0,false,0,10,0⟩
def PF(n:Nat)(p:Int)(name:ByteArray):ZN:=⟨true,p,name,10,15,0,0,0,⟨0,0,0,[],[]⟩,List.replicate n zf3⟩
def zd5:ZN:=⟨false,0,⟨[].toArray⟩,0,0,0,0,0,⟨0,0,0,[],[]⟩,[]⟩
def Ug(n:Nat):Q7:=⟨0,List.replicate n ⟨true,-1,0,0,0⟩,List.replicate 12 TX,(List.replicate 8 zd5).set 0 (PF n (-1) ⟨[].toArray⟩)⟩
section
variable {n:Nat}
theorem DU(k:Int)(k0:0<=k)(k1:k<8):gi (Ug n).ID k=if k=0 then PF n (-1) ⟨[].toArray⟩ else zd5:=by
 have:=QI (List.replicate 8 zd5) (PF n (-1) ⟨[].toArray⟩) (i:=0) (j:=k) (I3 _) Qd k0;show gi ((List.replicate 8 zd5).set (0:Int).toNat _) k=_;rw[this]
 by_cases h:k=0
 ·rw[E' h.symm,E' h]
 ·rw[C' λe=>h e.symm,C' h,Pk _ _ k0 Qo]
theorem zvt:(Ug n).ID.length=8:=by simp[Ug]
theorem zvs(c:Int)(c0:0<=c)(c1:c<(n:Int)):gi (Ug n).IE c=⟨true,-1,0,0,0⟩:=Pk _ _ c0 c1
theorem zvu(t:Int)(t0:0<=t)(t1:t<12):Q8 (Ug n) t=TX:=Pk 12 _ t0 Qo
theorem z1b(c:Int)(c0:0<=c)(c1:c<(n:Int)):Qc (Ug n) 0 c=zf3:=by
 unfold Qc;rw[DU 0 (I3 _) Qd,E' rfl];exact Pk _ _ c0 c1
theorem zst:Yc (Ug n).ID:=by
 have g0:gi (Ug n).ID 0=PF n (-1) ⟨[].toArray⟩:=by rw[DU 0 (I3 _) Qd,E' rfl]
 have un:∀g:Int,1<=g->g<8->(gi (Ug n).ID g).used=true->False:=λg a b h=>by
  rw[DU g Qo b,C' Qo] at h; cases h
 exact⟨zvt,by rw[g0]; rfl,by rw[g0]; rfl,by rw[g0]; rfl,λg a b h=>(un g a b h).elim,λg a b h=>(un g a b h).elim,λg a b h=>(un g a b h).elim,λg k a b d h=>(un g Qo d h).elim⟩
theorem zyy(n0:1<=n)(n1:n<=4):WA (Ug n):=by
 have sK:(Ug n).IE.length=n:=by simp[Ug]
 refine⟨I3 _,by show (0:Int)<=_; decide,Qo,Qo,by simp[Ug],zst,NM (c:=0) Qo (I3 _) Qo (by rw[zvs 0 (I3 _) Qo]),λk k0 k1=>?_⟩;unfold MV;rw[DU k k0 k1];split
 ·refine⟨λh=>(by cases h),λ_=>⟨show (1:Int)<=10 by decide,show (10:Int)<=20 by decide,show PE 15=true by decide,show (15:Int)≠0 by decide,show ZM 0=true by decide,by simp[PF,sK],λ_=>⟨rfl,rfl,rfl⟩,λ_=>⟨show Ol ⟨0,0,0,[],[]⟩=true by decide,rfl,rfl⟩,λh=>Is rfl h⟩⟩
 ·exact⟨λ_=>⟨rfl,rfl,rfl,rfl,rfl,rfl,rfl,rfl,Qd⟩,λh=>by cases h⟩
theorem zx7(n0:1<=n)(n1:n<=4):JH (Ug n):=by
 have ha:=zyy n0 n1;have sK:(Ug n).IE.length=n:=by simp[Ug]
 have hmt:∀(k c:Int) (j:Nat),j<12->OO (Ug n) k c j=false:=λk c j hj=>by
  unfold OO;rw[show gi (Ug n).tasks (j:Int)=TX from zvu (j:Int) Qo Qo];rfl
 have hmg:∀(k c:Int) (j:Nat),j<8->J8 (Ug n) k c j=false:=λk c j hj=>by
  unfold J8;rw[DU (j:Int) Qo Qo]
  by_cases h:(j:Int)=0
  ·rw[show decide (1<=j)=false from decide_eq_false Qo]; rfl
  ·rw[C' h];simp[zd5]
 refine⟨⟨ha,λt t0 t1=>.inl ?_,λk c k0 k1 c0 c1=>?_,λc c0 c1=>?_⟩,λk c hu c0 c1 hb=>?_⟩
 ·rw[zvu t t0 t1]; exact⟨rfl,rfl⟩
 ·by_cases hk:k=0
  ·subst hk;rw[DU 0 k0 k1,E' rfl] at c1;have c1:c<(n:Int):=by simpa[PF] using c1
   have e:=z1b c c0 c1;refine⟨?_,?_,?_,?_,?_,λ_=>?_,λh=>Is rfl h,λh=>Is rfl h⟩ <;> rw[e]
   ·decide
   ·decide
   ·decide
   ·decide
   ·decide
   ·exact⟨rfl,rfl,rfl⟩
  ·rw[DU k k0 k1,C' hk] at c1;have c1:c<0:=c1;omega
 ·rw[sK] at c1;have e:=zvs c c0 c1;refine⟨by rw[e]; decide,by rw[e]; decide,by rw[e]; decide,by rw[e]; show (-1:Int)<((Ug n).tasks.length:Int); simp[Ug],λ_=>by rw[e],λh=>?_⟩;rw[e] at h;have h:(0:Int)<=-1:=h;omega
 ·unfold Zw at hb;have hb:=Ot hb;rcases Zt (Zp (Ug n) k c) (Zk (Ug n) c) 20 with ⟨a,_⟩ | ⟨_,h2,h3,_⟩
  ·rw[a] at hb; omega
  ·exfalso
   have IT:(QY (Zp (Ug n) k c) (Zk (Ug n) c) 20).toNat<20:=Qo;generalize (QY (Zp (Ug n) k c) (Zk (Ug n) c) 20).toNat=j at h3 IT
   by_cases hj:j<12
   ·rw[UX hj,hmt k c j hj] at h3; cases h3
   ·rw[show j=12+(j-12) by omega,JZ,hmg k c (j-12) Qo] at h3; cases h3
end
theorem zk4{gs:List ZN}(ht:Yc gs):∀(f:Nat) (h:Int),Q6 gs h=true->dep 3 gs h<=(f:Int)->dep f gs h=dep 3 gs h
 | 0,h,hu,hd=>by
  by_cases hz:h=0
  ·subst hz; rw[Y8,Y8]
  ·obtain⟨_,_,_,d,e,_⟩:=Yd ht hu hz;omega
 | f+1,h,hu,hd=>by
  by_cases hz:h=0
  ·subst hz; rw[Y8,Y8]
  ·obtain⟨hp,_,_,d,e,e2,_⟩:=Yd ht hu hz;have ih:=zk4 ht f _ hp Qo;show (if h=0 then 0 else if dep f gs (gi gs h).parent<0 then -1 else dep f gs (gi gs h).parent+1)=_;rw[C' hz,ih,e2,C' Qo,e]
structure zd9 (W:Q7) (a p:Int) (name:ByteArray):Prop where
 a1:1<=a
 a8:a<8
 fr:(gi W.ID a).used=false
 up:Q6 W.ID p=true
 nm:Uu name=true
 no:∀h:Int,1<=h->h<8->(gi W.ID h).used=true->¬((gi W.ID h).parent=p/\(gi W.ID h).name=name)
 dp:dep 3 W.ID p≠3
def P9(W:Q7)(a p:Int)(name:ByteArray):Q7:=Re W a (PF W.IE.length p name)
section
variable {W:Q7}{a p:Int}{name:ByteArray}
theorem NY(ha:WA W)(h:zd9 W a p name){i:Int}(hi:0<=i):gi (P9 W a p name).ID i=if a=i then PF W.IE.length p name else gi W.ID i:=Yv (by have:=h.a1; omega) (by have:=ha.gl; have:=h.a8; omega) hi
theorem zvq(h:zd9 W a p name){k:Int}(hu:Q6 W.ID k=true):a≠k:=λe=>by
 have:=(Q5.1 hu).2.2;rw[<-e,h.fr] at this;cases this
theorem DT(ha:WA W)(h:zd9 W a p name){k:Int}(hu:Q6 W.ID k=true):gi (P9 W a p name).ID k=gi W.ID k:=by
 rw[NY ha h (Q5.1 hu).1,C' (zvq h hu)]
theorem GF(ha:WA W)(h:zd9 W a p name):gi (P9 W a p name).ID a=PF W.IE.length p name:=by
 rw[NY ha h (by have:=h.a1; omega),E' rfl]
theorem zjw(ha:WA W):(P9 W a p name).ID.length=8:=by
 have:=ha.gl;simp[P9,Re]; omega
theorem Fv(ha:WA W)(h:zd9 W a p name){k:Int}:Q6 (P9 W a p name).ID k=true↔Q6 W.ID k=true\/k=a:=by
 have cJ:=ha.gl;have a1:=h.a1;have a8:=h.a8;rw[Q5,Q5,zjw ha,cJ];constructor
 ·rintro⟨x,y,z⟩;rw[NY ha h x] at z
  by_cases e:a=k
  ·exact .inr e.symm
  ·rw[C' e] at z;exact .inl ⟨x,y,z⟩
 ·rintro (⟨x,y,z⟩ | rfl)
  ·refine⟨x,y,?_⟩;rw[NY ha h x,C' λe=>by rw[<-e,h.fr] at z; cases z];exact z
  ·refine⟨Qo,Qo,?_⟩;rw[GF ha h]; rfl
theorem zoh(ha:WA W)(h:zd9 W a p name):∀(f:Nat) (k:Int),Q6 W.ID k=true->dep f (P9 W a p name).ID k=dep f W.ID k
 | 0,_,_=>rfl
 | f+1,k,hu=>by
  by_cases hz:k=0
  ·subst hz; rw[Y8,Y8]
  ·have ih:=zoh ha h f _ (Yd ha.tree hu hz).1;simp only[dep];rw[DT ha h hu,ih]
theorem zjy(ha:WA W)(h:zd9 W a p name):∀(f:Nat) (k:Int),Q6 W.ID k=true->UN f (P9 W a p name).ID k=UN f W.ID k
 | 0,_,_=>rfl
 | f+1,k,hu=>by
  by_cases hz:k=0
  ·subst hz; rw[Zq,Zq]
  ·have ih:=zjy ha h f _ (Yd ha.tree hu hz).1;simp only[UN];rw[DT ha h hu,ih]
theorem z2i(ha:WA W)(h:zd9 W a p name):dep 3 (P9 W a p name).ID a=dep 3 W.ID p+1/\0<=dep 3 W.ID p:=by
 have hr:=Gd ha h.up;have hd:=h.dp;have e:=zk4 ha.tree 2 p h.up Qo;refine⟨?_,hr.1⟩;show (if a=0 then 0 else if dep 2 (P9 W a p name).ID (gi (P9 W a p name).ID a).parent<0 then -1 else dep 2 (P9 W a p name).ID (gi (P9 W a p name).ID a).parent+1)=_;rw[C' (by have:=h.a1; omega),GF ha h];show (if dep 2 (P9 W a p name).ID p<0 then -1 else dep 2 (P9 W a p name).ID p+1)=_;rw[zoh ha h 2 p h.up,e,C' Qo]
theorem zyw(ha:WA W)(h:zd9 W a p name):Yc (P9 W a p name).ID:=by
 have ht:=ha.tree;have cJ:=ha.gl;have a1:=h.a1;have r:=DT ha h ha.root
 have sp:∀{g:Int},1<=g->g<8->(gi (P9 W a p name).ID g).used=true->g=a\/(Q6 W.ID g=true/\gi (P9 W a p name).ID g=gi W.ID g):=λ{g} b d hh=>by
  rcases (Fv ha h).1 (Q5.2 ⟨Qo,by rw[zjw ha]; omega,hh⟩) with e | e
  ·exact .inr ⟨e,DT ha h e⟩
  ·exact .inl e
 refine⟨zjw ha,by rw[r]; exact ht.ru,by rw[r]; exact ht.rp,by rw[r]; exact ht.rn,λg b d hh=>?_,λg b d hh=>?_,λg b d hh=>?_,λg k b d e hg hk=>?_⟩
 ·rcases sp b d hh with rfl | ⟨hu,e⟩
  ·rw[GF ha h]; exact h.nm
  ·rw[e] at hh ⊢; exact ht.nm g b d hh
 ·rcases sp b d hh with rfl | ⟨hu,e⟩
  ·rw[GF ha h]; exact(Fv ha h).2 (.inl h.up)
  ·rw[e] at hh ⊢; exact(Fv ha h).2 (.inl (ht.par g b d hh))
 ·rcases sp b d hh with rfl | ⟨hu,e⟩
  ·have:=z2i ha h; omega
  ·rw[zoh ha h 3 g hu]; exact ht.dp g b d (Q5.1 hu).2.2
 ·rintro⟨q1,q2⟩;rcases sp Qo e hg with hga | ⟨hu,eg⟩
  ·rcases sp b Qo hk with hka | ⟨hu2,ek⟩
   ·omega
   ·rw[hga,GF ha h,ek] at q1 q2;exact h.no k b Qo (Q5.1 hu2).2.2 ⟨q1,q2⟩
  ·rcases sp b Qo hk with hka | ⟨hu2,ek⟩
   ·rw[hka,GF ha h,eg] at q1 q2;exact h.no g Qo e (Q5.1 hu).2.2 ⟨q1.symm,q2.symm⟩
   ·rw[eg,ek] at q1 q2;exact ht.uniq g k b d e (Q5.1 hu).2.2 (Q5.1 hu2).2.2 ⟨q1,q2⟩
end
section
variable {W:Q7}{a p:Int}{name:ByteArray}
theorem KZ(ha:WA W)(h:zd9 W a p name){k c:Int}(hu:Q6 W.ID k=true):Qc (P9 W a p name) k c=Qc W k c:=by
 unfold Qc;rw[DT ha h hu]
theorem zqn(ha:WA W)(h:zd9 W a p name){c:Int}(c0:0<=c)(c1:c<(W.IE.length:Int)):Qc (P9 W a p name) a c=zf3:=by
 unfold Qc;rw[GF ha h];exact Pk _ _ c0 c1
theorem zqm(ha:WA W)(h:zd9 W a p name){k c:Int}(c0:0<=c)(c1:c<(W.IE.length:Int))(j:Nat)(hj:j<8):J8 (P9 W a p name) k c j=J8 W k c j:=by
 have a1:=h.a1;unfold J8
 by_cases e:a=(j:Int)
 ·rw[<-e,zqn ha h c0 c1,h.fr];show (_&&_&&zf3.on)=_;simp[zf3]
 ·rw[NY ha h Qo,C' e]
  have:Qc (P9 W a p name) (j:Int) c=Qc W (j:Int) c:=by
   unfold Qc;rw[NY ha h Qo,C' e]
  rw[this]
theorem zvp(ha:WA W)(h:zd9 W a p name){k c:Int}(c0:0<=c)(c1:c<(W.IE.length:Int)):QV (P9 W a p name) k c=QV W k c:=by
 unfold QV;rw[show TF (OO (P9 W a p name) k c) (P9 W a p name).tasks.length=TF (OO W k c) W.tasks.length from rfl,zjw ha,ha.gl];rw[Ki λj hj=>zqm ha h c0 c1 j hj]
theorem zjx(wp:J7 W)(h:zd9 W a p name){c:Int}(j:Nat)(hj:j<20):Zp W a c j=false:=by
 by_cases vO:j<12
 ·rw[UX vO];unfold OO;rcases wp.t (j:Int) Qo Qo with hz | ⟨_,hx⟩
  ·have:(gi W.tasks (j:Int)).state=0:=hz.1;rw[this]; rfl
  ·have hg:(gi W.tasks (j:Int)).group≠a:=λe=>zvq h hx.g e.symm
   rw[show ((gi W.tasks (j:Int)).group==a)=false by simpa using hg];simp
 ·rw[show j=12+(j-12) by omega,JZ];unfold J8
  cases hu:(gi W.ID ((j-12:Nat):Int)).used with
  | false=>simp
  | true=>
   have hl:=wp.a.gl;have huu:Q6 W.ID ((j-12:Nat):Int)=true:=Q5.2 ⟨Qo,Qo,hu⟩
   by_cases h1:1<=j-12
   ·have hpu:=(Yd wp.a.tree huu Qo).1;have hg:(gi W.ID ((j-12:Nat):Int)).parent≠a:=λe=>zvq h hpu e.symm
    rw[show ((gi W.ID ((j-12:Nat):Int)).parent==a)=false by simpa using hg];simp
   ·rw[show decide (1<=j-12)=false from decide_eq_false h1]; simp
theorem Kj{p:Nat->Bool}:∀{n:Nat},(∀j,j<n->p j=false)->TF p n=false
 | 0,_=>rfl
 | n+1,h=>by simp only[TF]; rw[Kj λj hj=>h j Qo,h n Qo]; rfl
theorem zyv(wp:J7 W)(h:zd9 W a p name){c:Int}:QV W a c=false:=by
 have hl:=wp.a.gl;have ht:=wp.a.t;unfold QV;rw[Kj λj hj=>by have:=zjx wp h (c:=c) j Qo; rwa[UX Qo] at this,Kj λj hj=>by have:=zjx wp h (c:=c) (12+j) Qo; rwa[JZ] at this];rfl
theorem BP{α β:Type}{f g:β->α->β}:∀(l:List α) (s:β),(∀(s:β) (x:α),x∈l->f s x=g s x)->l.foldl f s=l.foldl g s
 | [],_,_=>rfl
 | y::l,s,hl=>by
  rw[List.foldl_cons,List.foldl_cons,hl s y Ia];exact BP l _ λs x hx=>hl s x (I2 _ hx)
theorem z07(ha:WA W)(h:zd9 W a p name){k:Int}(hu:Q6 W.ID k=true)(u:Int):VX (P9 W a p name).ID k u=VX W.ID k u:=by
 have e:Zb (P9 W a p name).ID k=Zb W.ID k:=zjy ha h 3 k hu;unfold VX;rw[e];refine BP _ _ λs x hx=>?_
 have hxu:Q6 W.ID x=true:=by
  rcases Io.1 hx with hx | hx
  ·exact(YO ha.tree k hu x hx).1
  ·rw[IA.1 hx]; exact ha.root
 rw[DT ha h hxu]
theorem zw5{W W':Q7}(e:W'.IE=W.IE){k:Int}(hp:∀u:Int,VX W'.ID k u=VX W.ID k u)(m:Int):Qw W' k m=Qw W k m:=by
 unfold Qw;rw[e,hp]
theorem z2j(ha:WA W)(h:zd9 W a p name){k:Int}(hu:Q6 W.ID k=true)(m:Int):Qw (P9 W a p name) k m=Qw W k m:=zw5 (W:=W) (W':=P9 W a p name) rfl (z07 ha h hu) m
theorem zu4(iv:JH W)(h:zd9 W a p name):JH (P9 W a p name):=by
 have wp:=iv.wp;have ha:=wp.a;have a1:=h.a1;have a8:=h.a8;have cJ:=ha.gl;have hpu:∀{k:Int},Q6 W.ID k=true->k≠0->Q6 W.ID (gi W.ID k).parent=true:=λhu hz=>(Yd ha.tree hu hz).1
 have hA:WA (P9 W a p name):=by
  refine⟨ha.n1,ha.n2,ha.c1,ha.c2,ha.t,zyw ha h,ha.wT,λk k0 k1=>?_⟩;unfold MV;rw[NY ha h k0];split
  ·refine⟨λhh=>(by cases hh),λ_=>⟨show (1:Int)<=10 by decide,show (10:Int)<=20 by decide,show PE 15=true by decide,show (15:Int)≠0 by decide,show ZM 0=true by decide,by simp[PF]; rfl,λ_=>⟨rfl,rfl,rfl⟩,λ_=>⟨show Ol ⟨0,0,0,[],[]⟩=true by decide,rfl,rfl⟩,λhh=>Is rfl hh⟩⟩
  ·have:=ha.grp k k0 k1;exact⟨this.1,λhu=>by have:=this.2 hu; exact⟨this.w1,this.w2,this.m,this.m0,this.s,this.len,this.root,this.none,this.IN⟩⟩
 refine⟨⟨hA,λt t0 t1=>?_,λk c k0 k1 c0 c1=>?_,λc c0 c1=>?_⟩,λk c hu c0 c1 hb=>?_⟩
 ·rcases wp.t t t0 t1 with hz | ⟨n,hx⟩
  ·exact .inl hz
  ·refine .inr ⟨n,hx.st,(Fv ha h).2 (.inl hx.g),hx.n,hx.m,hx.m0,hx.v,hx.s,hx.u,hx.l1,hx.l2,?_,λhs=>?_⟩
   ·rw[show (Q8 (P9 W a p name) t)=Q8 W t from rfl,z2j ha h hx.g]; exact hx.c
   ·rw[show (Q8 (P9 W a p name) t)=Q8 W t from rfl,KZ ha h hx.g]; exact hx.f hs
 ·by_cases e:a=k
  ·subst e;rw[GF ha h] at c1;have c1:c<(W.IE.length:Int):=by simpa[PF] using c1
   have es:=zqn ha h c0 c1;refine⟨by rw[es]; decide,by rw[es]; decide,by rw[es]; decide,by rw[es]; decide,by rw[es]; decide,λhz=>by omega,λ_=>?_,λ_ ho=>?_⟩
   ·rw[es,zvp ha h c0 c1,zyv wp h]; rfl
   ·rw[es] at ho; cases ho
  ·have hg:gi (P9 W a p name).ID k=gi W.ID k:=by rw[NY ha h k0,C' e]
   rw[hg] at c1
   have hu:Q6 W.ID k=true:=by
    cases hh:(gi W.ID k).used with
    | true=>exact Q5.2 ⟨k0,Qo,hh⟩
    | false=>
     have:=((ha.grp k k0 k1).1 hh).l;omega
   have cl:c<(W.IE.length:Int):=by rw[<-ha.sl hu]; exact c1
   have hs:=wp.s k c k0 k1 c0 c1;have es:=KZ ha h (c:=c) hu;refine⟨by rw[es]; exact hs.f,by rw[es]; exact hs.v,by rw[es]; exact hs.s,by rw[es]; exact hs.w1,by rw[es]; exact hs.w2,λhz=>by rw[es]; exact hs.root hz,λhz=>?_,λhz ho=>?_⟩
   ·rw[es,zvp ha h c0 cl,show Uf (P9 W a p name) k c=Uf W k c by unfold Uf; rw[hg]];exact hs.on hz
   ·rw[es] at ho;rw[es,hg,KZ ha h (hpu hu hz)];exact hs.st hz ho
 ·have hc:=wp.c c c0 c1;refine⟨hc.b,hc.i,hc.c1,hc.c2,hc.no,λh0=>?_⟩;have h0:0<=(gi W.IE c).cur:=h0;obtain⟨y1,y2,y3,y4,y5,y6⟩:=hc.yes h0;have hl:=ha.t
  have lM:Q6 W.ID (Q8 W (gi W.IE c).cur).group=true:=by
   have hc2:=hc.c2;rcases wp.t _ h0 Qo with hz | ⟨_,hx⟩
   ·unfold ZF at y5;rw[hz.1] at y5;simp at y5
   ·exact hx.g
  have hpt:Zb (P9 W a p name).ID (Q8 W (gi W.IE c).cur).group=Zb W.ID (Q8 W (gi W.IE c).cur).group:=zjy ha h 3 _ lM;refine⟨y1,y2,y3,y4,?_,?_⟩
  ·unfold ZF V6 at y5 ⊢;rw[show (gi (P9 W a p name).IE c).cur=(gi W.IE c).cur from rfl,show Q8 (P9 W a p name) (gi W.IE c).cur=Q8 W (gi W.IE c).cur from rfl,hpt];rw[A',List.all_eq_true] at y5 ⊢;exact⟨y5.1,λx hx=>by rw[KZ ha h (YO ha.tree _ lM x hx).1]; exact y5.2 x hx⟩
  ·unfold Mo TW at y6 ⊢;rw[show (gi (P9 W a p name).IE c).cur=(gi W.IE c).cur from rfl,show (gi (P9 W a p name).IE c).aA=(gi W.IE c).aA from rfl,show Q8 (P9 W a p name) (gi W.IE c).cur=Q8 W (gi W.IE c).cur from rfl,hpt,KZ ha h lM];rw[A',List.all_eq_true] at y6 ⊢;refine⟨y6.1,λx hx=>?_⟩;obtain⟨xu,xz⟩:=YO ha.tree _ lM x hx;rw[KZ ha h xu,DT ha h xu,KZ ha h (hpu xu xz)];exact y6.2 x hx
 ·have cl:c<(W.IE.length:Int):=c1
  have Aj9:∀j,j<20->Zp (P9 W a p name) k c j=Zp W k c j:=λj hj=>by
   by_cases vO:j<12
   ·rw[UX vO,UX vO]; rfl
   ·rw[show j=12+(j-12) by omega,JZ,JZ,zqm ha h c0 cl (j-12) Qo]
  rcases (Fv ha h).1 hu with hk | rfl
  ·have hv:∀j,j<20->Zp (P9 W a p name) k c j=true->Zk (P9 W a p name) c j=Zk W c j:=λj hj hm=>by
    unfold Zk;split
    ·rfl
    ·rename_i vO;rw[Aj9 j hj,show j=12+(j-12) by omega,JZ] at hm;unfold J8 at hm;simp only[A'] at hm;rw[KZ ha h (Q5.2 ⟨Qo,Qo,hm.1.2.1⟩)]
   have e:QY (Zp (P9 W a p name) k c) (Zk (P9 W a p name) c) 20=QY (Zp W k c) (Zk W c) 20:=MM Aj9 hv;have rJ:=iv.fl k c hk c0 cl (by unfold Zw at hb ⊢; rwa[e] at hb);rw[KZ ha h hk];refine Int.le_trans (Int.le_of_eq ?_) rJ;unfold Zw at hb;have hb:=Ot hb;rw[e] at hb;unfold Z3;rw[e,C' Qo,C' Qo];rcases Zt (Zp W k c) (Zk W c) 20 with ⟨q,_⟩ | ⟨_,q2,q3,_⟩
   ·omega
   ·have IT:(QY (Zp W k c) (Zk W c) 20).toNat<20:=Qo;exact hv _ IT (by rw[Aj9 _ IT]; exact q3)
  ·exfalso
   unfold Zw at hb;have hb:=Ot hb;rcases Zt (Zp (P9 W k p name) k c) (Zk (P9 W k p name) c) 20 with ⟨q,_⟩ | ⟨_,q2,q3,_⟩
   ·omega
   ·rw[Aj9 _ Qo,zjx wp h _ Qo] at q3;cases q3
end
theorem zvj{W:Q7}(ha:WA W){k c d:Int}(hu:Q6 W.ID k=true)(hd:dep 3 W.ID k=d)(d1:1<=d)(c0:0<=c)(c1:c<(W.IE.length:Int)) :
  WA (Rz W k c (ZY W k c))/\VW (Rz W k c (ZY W k c)) c k/\∀g:Int,Q6 W.ID g=true->g≠k->(gi W.ID k).parent≠g->VW W c g->VW (Rz W k c (ZY W k c)) c g:=by
 have hz:k≠0:=λe=>by subst e; rw[Y8] at hd; omega
 obtain⟨u0,u1,_⟩:=Q5.1 hu;have hl:=ha.gl;have hsl:=ha.sl hu;have tA:c<((gi W.ID k).IF.length:Int):=Qo
 have hpk:(gi W.ID k).parent≠k:=λe=>by
  obtain⟨_,_,_,n,e1,e2,_⟩:=Yd ha.tree hu hz;rw[e] at e2; omega
 have e:∀{i j:Int},0<=i->0<=j->Qc (Rz W k c (ZY W k c)) i j=if k=i/\c=j then ZY W k c else Qc W i j:=λhi hj=>Jo u0 u1 c0 tA hi hj
 have hT:=XW (W:=W) (g:=k) (c:=c) (s:=ZY W k c) u0 u1
 have act:∀g:Int,(gi W.ID k).parent≠g->QV (Rz W k c (ZY W k c)) g c=QV W g c:=λg hg=>by
  refine OP (W:=W) (W':=Rz W k c (ZY W k c)) rfl hT λj hj _ _ hp=>?_
  rw[e Qo c0,C'];rintro⟨h,_⟩;exact hg (by rw[h]; exact hp)
 refine⟨ha.Rz u0 Qo,?_,λg gu gk hg h=>?_⟩
 ·unfold VW;rw[e u0 c0,E' ⟨rfl,rfl⟩,act k hpk,He u0 u1 u0];rfl
 ·unfold VW;have g0:=(Q5.1 gu).1;rw[e g0 c0,C' λh=>gk h.1.symm,act g hg,He u0 u1 g0];exact h
theorem zl1{W:Q7}(ha:WA W){c d:Int}(d1:1<=d)(c0:0<=c)(c1:c<(W.IE.length:Int))(hI:∀g:Int,Q6 W.ID g=true->d<dep 3 W.ID g->VW W c g):∀k:Nat,k<=8->
  WA (Zn W c d k)/\Uj W (Zn W c d k)/\∀g:Int,Q6 W.ID g=true->d<dep 3 W.ID g\/dep 3 W.ID g=d/\g<(k:Int)->VW (Zn W c d k) c g
 | 0,_=>⟨ha,Uj.refl _,λg gu h=>hI g gu (by
   rcases h with h | h
   ·exact h
   ·have:=(Q5.1 gu).1;have:=h.2;omega)⟩
 | k+1,hk=>by
  obtain⟨a,b,ih⟩:=zl1 ha d1 c0 c1 hI k Qo;have hl:=a.gl;have hT:=b.g;simp only[Zn];split
  ·rename_i hc;have hu:Q6 (Zn W c d k).ID (k:Int)=true:=Q5.2 ⟨Qo,Qo,hc.1⟩;obtain⟨l1,l3,l4⟩:=zvj a hu hc.2 d1 c0 (c:=c) (by rw[b.c]; exact c1);refine⟨l1,b.trans (VS Qo Qo),λg gu h=>?_⟩
   by_cases e:g=(k:Int)
   ·subst e; exact l3
   ·have hkz:(k:Int)≠0:=λe=>by have:=hc.2; rw[e,Y8] at this; omega
    obtain⟨_,_,_,n,e1,e2,_⟩:=Yd a.tree hu hkz;refine l4 g (by rw[hT.eO]; exact gu) e (λhp=>?_) (ih g gu ?_)
    ·rw[hp,hT.dep] at e2;have:=hc.2;omega
    ·rcases h with h | h
     ·exact .inl h
     ·exact .inr ⟨h.1,by have:=h.2; omega⟩
  ·rename_i hc;refine⟨a,b,λg gu h=>ih g gu ?_⟩;rcases h with h | h
   ·exact .inl h
   ·refine .inr ⟨h.1,?_⟩
    by_cases e:g=(k:Int)
    ·subst e;exact Is ⟨by rw[hT.u]; exact(Q5.1 gu).2.2,by rw[hT.dep]; exact h.1⟩ hc
    ·have:=h.2;omega
theorem zso{W:Q7}(ha:WA W){c:Int}(c0:0<=c)(c1:c<(W.IE.length:Int)):WA (QG W c)/\Uj W (QG W c)/\∀g:Int,Q6 W.ID g=true->g≠0->VW (QG W c) c g:=by
 have key:∀j:Nat,j<=3->WA (YV W c j)/\Uj W (YV W c j)/\∀g:Int,Q6 W.ID g=true->3-(j:Int)<dep 3 W.ID g->VW (YV W c j) c g:=by
  intro j
  induction j with
  | zero=>exact λ_=>⟨ha,Uj.refl _,λg gu h=>by have:=(Gd ha gu).2; omega⟩
  | succ j ih=>
   intro hj;obtain⟨a,b,h⟩:=ih Qo;have hT:=b.g;obtain⟨a2,b2,h2⟩:=zl1 a (c:=c) (d:=3-(j:Int)) Qo c0 (by rw[b.c]; exact c1) (λg gu hd=>h g (by rwa[hT.eO] at gu) (by rwa[hT.dep] at hd)) 8 (I8 _);refine⟨a2,b.trans b2,λg gu hd=>h2 g (by rw[hT.eO]; exact gu) ?_⟩;rw[hT.dep];have:=(Q5.1 gu).2.1;have:=ha.gl
   by_cases e:dep 3 W.ID g=3-(j:Int)
   ·exact .inr ⟨e,Qo⟩
   ·exact .inl Qo
 obtain⟨a,b,h⟩:=key 3 (I8 _);refine⟨a,b,λg gu gz=>h g gu ?_⟩;obtain⟨_,_,_,n,e1,_⟩:=Yd ha.tree gu gz;omega
theorem zhn{W:Q7}(ha:WA W){c d:Int}(d1:1<=d)(c0:0<=c)(c1:c<(W.IE.length:Int)):∀k:Nat,k<=8->Ba c W (Zn W c d k)/\WA (Zn W c d k)
 | 0,_=>⟨Ba.refl _ _,ha⟩
 | k+1,hk=>by
  obtain⟨o,a⟩:=zhn ha d1 c0 c1 k Qo;have hl:=a.gl;simp only[Zn];split
  ·rename_i hc;have hu:Q6 (Zn W c d k).ID (k:Int)=true:=Q5.2 ⟨Qo,Qo,hc.1⟩;exact⟨o.trans (Nh Qo Qo c0 (by rw[a.sl hu,o.len]; exact c1)),a.Rz Qo Qo⟩
  ·exact⟨o,a⟩
theorem zol{W:Q7}(ha:WA W){c:Int}(c0:0<=c)(c1:c<(W.IE.length:Int)):Ba c W (QG W c):=by
 have key:∀j:Nat,j<=3->Ba c W (YV W c j)/\WA (YV W c j):=by
  intro j
  induction j with
  | zero=>exact λ_=>⟨Ba.refl _ _,ha⟩
  | succ j ih=>
   intro hj;obtain⟨o,a⟩:=ih Qo;obtain⟨o2,a2⟩:=zhn a (c:=c) (d:=3-(j:Int)) Qo c0 (by rw[o.len]; exact c1) 8 (I8 _);exact⟨o.trans o2,a2⟩
 exact(key 3 (I8 _)).1
structure Dm (W:Q7) (c:Int):Prop where
 on:∀k:Int,Q6 W.ID k=true->k≠0->VW W c k
 cu:0<=(gi W.IE c).cur->(Q8 W (gi W.IE c).cur).M'=c/\ZF W (gi W.IE c).cur=true
theorem z19{W:Q7}(wp:J7 W){c:Int}(c0:0<=c)(c1:c<(W.IE.length:Int)):Dm W c:=
 ⟨λk hu hz=>(E8 wp hu c0 c1).on hz,λh=>⟨((wp.c c c0 c1).yes h).2.2.2.1,((wp.c c c0 c1).yes h).2.2.2.2.1⟩⟩
theorem Dm.oth{K:Int}{c d:Int}{W W':Q7}(h:Dm W d)(sw:SW K W)(o:Ba c W W')(d0:0<=d)(d1:d<(W.IE.length:Int))(hd:d≠c):Dm W' d:=by
 refine⟨λk hu hz=>?_,λh0=>?_⟩
 ·rw[o.g.eO] at hu;have k0:=(Q5.1 hu).1;have:=h.on k hu hz;unfold VW at this ⊢;rw[o.e k d k0 d0 hd,o.W9 d0 hd,zi6 (o.b k k0)];exact this
 ·rw[o.cp d d0 hd] at h0 ⊢;rw[Jp o.t];obtain⟨h1,h2⟩:=h.cu h0;refine⟨h1,?_⟩
  have hs:(Q8 W (gi W.IE d).cur).state=1:=by
   unfold ZF at h2;rw[A'] at h2;exact Iz h2.1
  have hu:=(sw.t _ h0 (sw.cu d d0 d1).2 (by rw[hs]; decide)).1;rw[o.line sw.a.tree hu (by rw[h1]; exact d0) (by rw[h1]; exact hd)];exact h2
theorem zmw{K:Int}{W:Q7}(sw:SW K W){c:Int}(c0:0<=c)(c1:c<(W.IE.length:Int)):Ba c W (Vb W c)/\Dm (Vb W c) c:=by
 obtain⟨p1,os,hon⟩:=zso sw.a c0 c1;have ol:=zol sw.a c0 c1;obtain⟨f,hA,_⟩:=BO p1 c0 (c:=c) (by rw[os.c]; exact c1) 8 (I8 _);have f:FC c (QG W c) (Za (QG W c) c):=f;have hon:∀g:Int,Q6 (QG W c).ID g=true->g≠0->VW (QG W c) c g:=λg gu gz=>hon g (by rwa[os.g.eO] at gu) gz
 have Wf:Vb W c=if M7 (Za (QG W c) c) c=true then RD (Za (QG W c) c) c else Za (QG W c) c:=rfl;have hO:Ba c W (Za (QG W c) c):=ol.trans f.o;have hFc:(Za (QG W c) c).IE.length=W.IE.length:=hO.len;have hT:=f.o.g
 have Bj0:∀k:Int,Q6 (Za (QG W c) c).ID k=true->k≠0->VW (Za (QG W c) c) c k:=λk hu hz=>by
  rw[hT.eO] at hu;have k0:=(Q5.1 hu).1;have:=hon k hu hz;unfold VW at this ⊢;rw[f.on k c k0 c0,OP f.o.t hT λj _ _ _ _=>f.on _ c Qo c0,zi6 (f.o.b k k0)];exact this
 rw[Wf];clear Wf;generalize Za (QG W c) c=F at Bj0 hO hFc;have cF:c<(F.IE.length:Int):=by rw[hFc]; exact c1
 split
 ·refine⟨hO.trans (zl7 c0 cF),Bj0,λh0=>?_⟩;rw[show gi (RD F c).IE c=J1 (gi F.IE c) from (QI _ _ c0 cF c0).trans (E' rfl)] at h0;have h0:(0:Int)<=-1:=h0;omega
 ·rename_i hg;have hg:M7 F c=false:=by simpa using hg
  refine⟨hO,Bj0,λh0=>?_⟩;unfold M7 at hg;rw[Ii h0,Bool.true_and,I0] at hg;exact⟨by simpa using hg.1,by simpa using hg.2⟩
theorem zmu{K:Int}{W:Q7}(sw:SW K W)(hK:0<=K):∀c:Nat,c<=W.IE.length->∀d:Int,0<=d->d<(c:Int)->Dm (XS W c) d
 | 0,_=>λd a b=>by omega
 | c+1,hc=>λd d0 d1=>by
  obtain⟨s1,f1⟩:=KE sw hK c Qo;obtain⟨o,dm⟩:=zmw s1 (c:=(c:Int)) Qo (by rw[f1.c]; omega)
  by_cases h:d=(c:Int)
  ·subst h; exact dm
  ·exact(zmu sw hK c Qo d d0 Qo).oth s1 o d0 (by rw[f1.c]; omega) h
theorem ztb{K:Int}{W:Q7}(sw:SW K W)(hK:0<=K){d:Int}(d0:0<=d)(d1:d<(W.IE.length:Int)):Dm (Qg W) d:=by
 obtain⟨s1,o1⟩:=Ok (F:=K) (K:=K+Qi) (sw.sf.mono (I3 _) (by simp only[Qi]; omega)) (I3 _) W.IE.length (I8 _);obtain⟨s2,b2⟩:=Tp s1 8 (I8 _);exact zmu s2.w (by simp only[Qi]; omega) W.IE.length (by show W.IE.length<=(Ye (Yi W W.IE.length) 8).IE.length; rw[b2.c,o1.c]; exact I8 _) d d0 d1
structure zpm (W:Q7) (t c:Int):Prop where
 t0:0<=t
 t1:t<12
 st:(Q8 W t).state=1
 M':(Q8 W t).M'=c
 on:∀x∈Zb W.ID (Q8 W t).group,(Qc W x c).on=true
theorem zsu{W:Q7}(ha:WA W){c:Int}(f:Nat):∀g:Int,Q6 W.ID g=true->(4-dep 3 W.ID g).toNat=f->(∀x∈Zb W.ID g,(Qc W x c).on=true)->0<=Kw W g c->zpm W (Kw W g c) c:=by
 induction f with
 | zero=>
  intro g hu hf;have:=Gd ha hu;omega
 | succ f ih=>
  intro g hu hf hp h;rw[Nd ha hu] at h ⊢
  by_cases h1:QW W g c<0
  ·rw[E' h1] at h; omega
  ·rw[C' h1] at h ⊢
   by_cases h2:QW W g c<12
   ·rw[E' h2] at h ⊢
    have hm:Zp W g c (QW W g c).toNat=true:=by
     rcases Zt (Zp W g c) (Zk W c) 20 with ⟨a,_⟩ | ⟨_,_,a,_⟩
     ·unfold QW at h1; omega
     ·exact a
    rw[UX Qo] at hm;unfold OO at hm;rw[show (((QW W g c).toNat:Nat):Int)=QW W g c by omega] at hm;simp only[A',It] at hm;refine⟨h,h2,hm.1.1,hm.2,?_⟩;rw[show (Q8 W (QW W g c)).group=g from hm.1.2];exact hp
   ·rw[C' h2] at h ⊢;obtain⟨k1,k2,k3,k4⟩:=Hf ha hu (g:=g) (c:=c) Qo
    have hm:Zp W g c (QW W g c).toNat=true:=by
     rcases Zt (Zp W g c) (Zk W c) 20 with ⟨a,_⟩ | ⟨_,_,a,_⟩
     ·unfold QW at h1; omega
     ·exact a
    rw[show (QW W g c).toNat=12+(QW W g c-12).toNat by omega,JZ] at hm;unfold J8 at hm;rw[show (((QW W g c-12).toNat:Nat):Int)=QW W g c-12 by omega] at hm;simp only[A',It] at hm;refine ih _ k1 Qo (λx hx=>?_) h;rw[YI ha.tree k1 k2] at hx;rcases Ij.1 hx with e | e
    ·rw[e]; exact hm.2
    ·rw[hm.1.2.2] at e; exact hp x e
theorem zs3{W:Q7}(ha:WA W){c:Int}(h12:(gi W.IE c).cur<12)(hcu:0<=(gi W.IE c).cur->(Q8 W (gi W.IE c).cur).M'=c/\ZF W (gi W.IE c).cur=true)(h:¬Qu W c<0):zpm W (Qu W c) c:=by
 unfold Qu at h ⊢;split
 ·rename_i hc;obtain⟨h1,h2⟩:=hcu hc.1;unfold ZF V6 at h2;rw[A',List.all_eq_true,h1] at h2;exact⟨hc.1,h12,Iz h2.1,h1,h2.2⟩
 ·rename_i hc;rw[C' hc] at h;exact zsu ha _ 0 ha.root rfl (λx hx=>by rw[show Zb W.ID 0=[] from Zq _ _] at hx; cases hx) Qo
structure TE (W W':Q7):Prop where
 n:W'.now=W.now
 t:W'.tasks=W.tasks
 s:∀i d:Int,(Qc W' i d).sum=(Qc W i d).sum
 g:∀i:Int,(gi W'.ID i).sum=(gi W.ID i).sum
 b:∀i:Int,(gi W'.IE i).busy=(gi W.IE i).busy
 i:∀i:Int,(gi W'.IE i).idle=(gi W.IE i).idle
 u:∀i:Int,(gi W'.IE i).up=(gi W.IE i).up
 r:∀i:Int,(gi W'.IE i).aA=(gi W.IE i).aA\/(gi W'.IE i).aA=0
theorem TE.refl(W:Q7):TE W W:=⟨rfl,rfl,λ_ _=>rfl,λ_=>rfl,λ_=>rfl,λ_=>rfl,λ_=>rfl,λ_=>.inl rfl⟩
theorem TE.trans{A B C:Q7}(h:TE A B)(k:TE B C):TE A C:=
 ⟨k.n.trans h.n,k.t.trans h.t,λi d=>(k.s i d).trans (h.s i d),λi=>(k.g i).trans (h.g i),λi=>(k.b i).trans (h.b i),λi=>(k.i i).trans (h.i i),λi=>(k.u i).trans (h.u i),λi=>by
  rcases k.r i with e | e
  ·rcases h.r i with e2 | e2
   ·exact .inl (e.trans e2)
   ·exact .inr (e.trans e2)
  ·exact .inr e⟩
theorem zwt(W:Q7){g c:Int}{s:KL}(h:s.sum=(Qc W g c).sum):TE W (Rz W g c s):=
 ⟨rfl,rfl,λi d=>YU (f:=λG:ZN=>(gi G.IF d).sum) W.ID g (x:={ gi W.ID g with IF:=(gi W.ID g).IF.set c.toNat s }) (YU (f:=KL.sum) (gi W.ID g).IF c h d) i,λi=>YU (f:=ZN.sum) W.ID g (x:={ gi W.ID g with IF:=(gi W.ID g).IF.set c.toNat s }) rfl i,λ_=>rfl,λ_=>rfl,λ_=>rfl,λ_=>.inl rfl⟩
theorem zws(W:Q7)(g:Int)(b:Js):TE W (RP W g b):=
 ⟨rfl,rfl,λi d=>YU (f:=λG:ZN=>(gi G.IF d).sum) W.ID g (x:={ gi W.ID g with IN:=b }) rfl i,λi=>YU (f:=ZN.sum) W.ID g (x:={ gi W.ID g with IN:=b }) rfl i,λ_=>rfl,λ_=>rfl,λ_=>rfl,λ_=>.inl rfl⟩
theorem zsa{α:Type}[Inhabited α](l:List α)(k:Int)(x:α)(i:Int):gi (l.set k.toNat x) i=gi l i\/gi (l.set k.toNat x) i=x:=by
 unfold gi;simp only[List.getD_eq_getElem?_getD,List.getElem?_set];split
 ·split
  ·exact .inr rfl
  ·rename_i e hl;refine .inl ?_;rw[show l[i.toNat]? = none from List.getElem?_eq_none_iff.2 Qo]
 ·exact .inl rfl
theorem zrd(W:Q7)(c:Int):TE W (RD W c):=
 ⟨rfl,rfl,λ_ _=>rfl,λ_=>rfl,λi=>YU (f:=Px.busy) W.IE c (x:=J1 (gi W.IE c)) rfl i,λi=>YU (f:=Px.idle) W.IE c (x:=J1 (gi W.IE c)) rfl i,λi=>YU (f:=Px.up) W.IE c (x:=J1 (gi W.IE c)) rfl i,λi=>by
  rcases zsa W.IE c (J1 (gi W.IE c)) i with e | e
  ·exact .inl (by show (gi (W.IE.set c.toNat (J1 (gi W.IE c))) i).aA=_; rw[e])
  ·exact .inr (by show (gi (W.IE.set c.toNat (J1 (gi W.IE c))) i).aA=0; rw[e]; rfl)⟩
theorem NJ(W:Q7)(c d:Int):∀k:Nat,TE W (Zn W c d k)
 | 0=>TE.refl _
 | k+1=>by
  simp only[Zn];split
  ·exact(NJ W c d k).trans (zwt _ rfl)
  ·exact NJ W c d k
theorem Ed(W:Q7)(c:Int):∀j:Nat,TE W (YV W c j)
 | 0=>TE.refl _
 | j+1=>(Ed W c j).trans (NJ _ _ _ _)
theorem zdz(W:Q7):∀c:Nat,TE W (Yi W c)
 | 0=>TE.refl _
 | c+1=>(zdz W c).trans (Ed (Yi W c) (c:Int) 3)
theorem NH(W:Q7)(k:Int):∀c:Nat,TE W (ZR W k c)
 | 0=>TE.refl _
 | c+1=>by
  simp only[ZR];split
  ·exact(NH W k c).trans (zws _ _ _)
  ·exact NH W k c
theorem NI(W:Q7):∀k:Nat,TE W (Ye W k)
 | 0=>TE.refl _
 | k+1=>by
  simp only[Ye];split
  ·exact(NI W k).trans (NH _ _ _)
  ·exact NI W k
theorem Ec(W:Q7)(c:Int):∀k:Nat,TE W (QS W c k)
 | 0=>TE.refl _
 | k+1=>by
  simp only[QS];split
  ·exact(Ec W c k).trans (zwt _ rfl)
  ·exact Ec W c k
theorem ztg(W:Q7)(c:Int):TE W (Vb W c):=by
 have h:=(Ed W c 3).trans (Ec (QG W c) c 8);unfold Vb;split
 ·exact h.trans (zrd _ _)
 ·exact h
theorem zh7(W:Q7):∀c:Nat,TE W (XS W c)
 | 0=>TE.refl _
 | c+1=>(zh7 W c).trans (ztg (XS W c) (c:Int))
theorem zo8(W:Q7):TE W (Qg W):=((zdz W W.IE.length).trans (NI (Yi W W.IE.length) 8)).trans (zh7 (Lg (Yi W W.IE.length)) W.IE.length)
structure RB (S:Int) (W:Q7):Prop where
 n:W.now<=50000000000000000
 t:∀t:Int,0<=t->t<12->0<=(Q8 W t).sum/\(Q8 W t).sum<=S/\0<=(Q8 W t).used/\(Q8 W t).used<=S
 s:∀k c:Int,Q6 W.ID k=true->0<=c->c<(W.IE.length:Int)->0<=(Qc W k c).sum/\(Qc W k c).sum<=S
 g:∀k:Int,Q6 W.ID k=true->0<=(gi W.ID k).sum/\(gi W.ID k).sum<=S
 c:∀c:Int,0<=c->c<(W.IE.length:Int)->0<=(gi W.IE c).busy/\(gi W.IE c).busy<=S/\0<=(gi W.IE c).idle/\(gi W.IE c).idle<=50000000000000000/\0<=(gi W.IE c).aA/\(gi W.IE c).aA<=149
theorem RB.sum{S:Int}{W W':Q7}(h:RB S W)(k:TE W W')(hT:Z6 W.ID W'.ID)(hl:W'.IE.length=W.IE.length):RB S W':=by
 refine⟨by rw[k.n]; exact h.n,λt a b=>by rw[Jp k.t]; exact h.t t a b,λi c u a b=>?_,λi u=>?_,λc a b=>?_⟩
 ·rw[hT.eO] at u;rw[hl] at b;rw[k.s]; exact h.s i c u a b
 ·rw[hT.eO] at u;rw[k.g]; exact h.g i u
 ·rw[hl] at b;have:=h.c c a b;rw[k.b,k.i];refine⟨this.1,this.2.1,this.2.2.1,this.2.2.2.1,?_⟩;rcases k.r c with e | e
  ·rw[e]; exact this.2.2.2.2
  ·rw[e]; exact⟨Qo,Qo⟩
theorem z2q{W:Q7}(wp:J7 W)(r:Kg W):RB Qn W:=by
 have hl:=wp.a.gl;have ht:=wp.a.t;refine⟨r.n,λt a b=>?_,λk c u a b=>?_,λk u=>?_,λc a b=>?_⟩
 ·have h:=r.t t a Qo;rcases wp.t t a b with hz | ⟨_,hx⟩
  ·rw[hz.2]; decide
  ·exact⟨(Yq.1 hx.s).1,h.2.1,(Yq.1 hx.u).1,h.2.2⟩
 ·obtain⟨u0,u1,_⟩:=Q5.1 u;have hs:=wp.a.sl u;exact⟨(Yq.1 (E8 wp u a b).s).1,(r.s k c u0 u1 a Qo).2.2⟩
 ·obtain⟨u0,u1,hg⟩:=wp.a.u u;exact⟨(Yq.1 hg.s).1,r.g k u0 Qo⟩
 ·have hc:=wp.c c a b;have hr:=r.c c a b;refine⟨(Yq.1 hc.b).1,hr.1,(Yq.1 hc.i).1,hr.2,?_⟩
  by_cases h:(gi W.IE c).cur<0
  ·rw[hc.no h]; decide
  ·have:=hc.yes Qo; omega
theorem zmy{b:Js}(h:UP b){c:Int}(c0:0<=c)(c1:c<(b.locals.length:Int)):UP (Y5 b c).1/\(Y5 b c).1.locals.length=b.locals.length/\(Y5 b c).1.IY=b.IY:=by
 unfold Y5;split
 ·exact⟨h,rfl,rfl⟩
 ·rename_i hn;have hm:=k9 h.p1;have he:=h.each c c0 c1;have hs:=GX b.locals c (ZC 20 b.RJ) c0 c1 b.locals.length;rw[E' c1] at hs;have p2:=h.p2;have su:=h.sum;have dl:=h.dl;refine⟨⟨h.q1,h.q2,?_,?_,?_,?_,?_,h.s1,h.s2,λd d0 d1=>?_,?_⟩,Qs,rfl⟩
  ·simp only[H']; exact h.l1
  ·simp only[H']; exact h.l2
  ·simp only[H']; exact h.dl
  ·show 0<=b.RJ-ZC 20 b.RJ; omega
  ·show b.RJ-ZC 20 b.RJ<=b.IY; omega
  ·simp only[H'] at d1;have hd:=h.each d d0 d1;show 0<=gi (b.locals.set c.toNat (ZC 20 b.RJ)) d/\gi (b.locals.set c.toNat (ZC 20 b.RJ)) d<=b.IY/\(gi (b.Ry.set c.toNat (ZC 20 b.RJ==0)) d=true->gi (b.locals.set c.toNat (ZC 20 b.RJ)) d=0/\b.RJ-ZC 20 b.RJ=0);rw[QI _ _ c0 c1 d0,QI _ _ c0 Qo d0];have hz:ZC 20 b.RJ=0->b.RJ=0:=λe=>by unfold ZC at e; split at e <;> omega
   by_cases e:c=d
   ·subst e;rw[E' rfl,E' rfl];refine⟨hm.1,Qo,λhd0=>?_⟩;have e0:ZC 20 b.RJ=0:=Iz hd0;have:=hz e0;exact⟨e0,Qo⟩
   ·rw[C' e,C' e];refine⟨hd.1,hd.2.1,λhd0=>?_⟩;have:=hd.2.2 hd0;exact⟨this.1,Qo⟩
  ·show b.RJ-ZC 20 b.RJ+b.Sy+Vc (b.locals.set c.toNat (ZC 20 b.RJ)) (b.locals.set c.toNat (ZC 20 b.RJ)).length=b.IY;rw[H',hs];omega
theorem zh3{b:Js}(h:UP b){c n:Int}(c0:0<=c)(c1:c<(b.locals.length:Int)):UP (XD b c n).1/\(XD b c n).1.locals.length=b.locals.length/\(XD b c n).1.IY=b.IY:=by
 unfold XD;split
 ·exact⟨h,rfl,rfl⟩
 ·rename_i hn;have hs:=GX b.locals c (gi b.locals c-n) c0 c1 b.locals.length;rw[E' c1] at hs;have hnn:=(zki (λd d0 d1=>(h.each d d0 d1).1) c0 b.locals.length (I8 _)).2 c1;have p1:=h.p1;have su:=h.sum;have s1:=h.s1;have dl:=h.dl;have hn1:¬n<1:=λe=>hn (.inl e)
  have hn2:¬n>gi b.locals c:=λe=>hn (.inr e)
  refine⟨⟨h.q1,h.q2,?_,?_,?_,h.p1,h.p2,?_,?_,λd d0 d1=>?_,?_⟩,Qs,rfl⟩
  ·simp only[H']; exact h.l1
  ·simp only[H']; exact h.l2
  ·simp only[H']; exact h.dl
  ·show 0<=b.Sy+n; omega
  ·show b.Sy+n<=b.IY; omega
  ·simp only[H'] at d1;have hd:=h.each d d0 d1;show 0<=gi (b.locals.set c.toNat (gi b.locals c-n)) d/\gi (b.locals.set c.toNat (gi b.locals c-n)) d<=b.IY/\(gi b.Ry d=true->gi (b.locals.set c.toNat (gi b.locals c-n)) d=0/\b.RJ=0);rw[QI _ _ c0 c1 d0]
   by_cases e:c=d
   ·subst e;rw[E' rfl];exact⟨Qo,Qo,λhd0=>by have:=(hd.2.2 hd0).1; omega⟩
   ·rw[C' e];exact hd
  ·show b.RJ+(b.Sy+n)+Vc (b.locals.set c.toNat (gi b.locals c-n)) (b.locals.set c.toNat (gi b.locals c-n)).length=b.IY;rw[H',hs];omega
def zfk(b:Js)(c:Int):Nat->Nat
 | 0=>0
 | d+1=>zfk b c d+if (d:Int)≠c/\gi b.locals (d:Int)>0 then 1 else 0
def zpe(b:Js)(c:Int):Nat:=if gi b.Ry c=true then 0 else 1
def Jn(b:Js)(c:Int):Nat:=9*zfk b c 4+zpe b c
theorem zqc(b:Js)(c:Int):∀n:Nat,zfk b c n<=n
 | 0=>I8 _
 | n+1=>by
  have:=zqc b c n;simp only[zfk]
  split <;> omega
theorem zy2(b:Js)(c:Int):Jn b c<=37:=by
 have:=zqc b c 4;unfold Jn zpe
 split <;> omega
def zgq(W:Q7)(c:Int):Nat->Nat
 | 0=>0
 | k+1=>zgq W c k+Jn (gi W.ID (k:Int)).IN c
def LL(W:Q7)(c:Int):Nat:=zgq W c 8
theorem Hm{W W':Q7}{c:Int}(h:∀k:Nat,k<8->Jn (gi W'.ID (k:Int)).IN c<=Jn (gi W.ID (k:Int)).IN c):∀k:Nat,k<=8->zgq W' c k<=zgq W c k
 | 0,_=>I8 _
 | k+1,hk=>by
  have:=Hm h k Qo;have:=h k Qo;simp only[zgq];omega
theorem zqv{W W':Q7}{c:Int}(h:∀k:Nat,k<8->Jn (gi W'.ID (k:Int)).IN c<=Jn (gi W.ID (k:Int)).IN c){j:Nat}(hj:Jn (gi W'.ID (j:Int)).IN c<Jn (gi W.ID (j:Int)).IN c):∀k:Nat,j<k->k<=8->zgq W' c k<zgq W c k
 | 0,h0,_=>Is h0 (Nat.not_lt_zero j)
 | k+1,iA,hk=>by
  have h1:=Hm h k Qo;have h2:=h k Qo;simp only[zgq]
  by_cases e:j=k
  ·subst e; omega
  ·have:=zqv h hj k Qo Qo;omega
theorem zy4(W:Q7)(c:Int):LL W c<=296:=by
 have key:∀k:Nat,zgq W c k<=37*k:=by
  intro k
  induction k with
  | zero=>exact I8 _
  | succ k ih=>
   have:=zy2 (gi W.ID (k:Int)).IN c;simp only[zgq];omega
 exact key 8
theorem Hg{b b':Js}{c:Int}(h:∀d:Nat,(d:Int)≠c->gi b'.locals (d:Int)=gi b.locals (d:Int)):∀n:Nat,zfk b' c n=zfk b c n
 | 0=>rfl
 | n+1=>by
  simp only[zfk];rw[Hg h n]
  by_cases e:(n:Int)=c
  ·simp[e]
  ·rw[h n e]
theorem zlq{b b':Js}{c:Int}{e:Nat}(he:(e:Int)≠c)(h0:gi b'.locals (e:Int)=0)(h1:gi b.locals (e:Int)>0)(h:∀d:Nat,d≠e->gi b'.locals (d:Int)=gi b.locals (d:Int)):∀n:Nat,zfk b' c n+(if e<n then 1 else 0)=zfk b c n
 | 0=>rfl
 | n+1=>by
  have ih:=zlq he h0 h1 h n;simp only[zfk]
  by_cases hn:n=e
  ·subst hn;rw[C' (Nat.lt_irrefl n)] at ih;rw[E' (Nat.lt_succ_self n),C' (by rintro⟨_,h⟩; omega),E' ⟨he,h1⟩];omega
  ·rw[h n hn];generalize (if (n:Int)≠c/\gi b.locals (n:Int)>0 then 1 else 0)=y
   by_cases IT:e<n
   ·rw[E' IT] at ih;rw[E' Qo];omega
   ·rw[C' IT] at ih;rw[C' Qo];omega
theorem zv5{b:Js}(h:UP b){c:Int}{e:Nat}(e1:(e:Int)<(b.locals.length:Int))(hp:gi b.locals (e:Int)>0):Jn (ZX b (e:Int)) c<=Jn b c:=by
 have hl:=h.l2
 have SY:∀d:Nat,gi (ZX b (e:Int)).locals (d:Int)=if e=d then 0 else gi b.locals (d:Int):=λd=>by
  show gi (b.locals.set (e:Int).toNat 0) (d:Int)=_;rw[QI _ _ Qo e1 Qo]
  by_cases h:e=d
  ·subst h; simp
  ·rw[C' h,C' Qo]
 unfold Jn
 by_cases hc:(e:Int)=c
 ·have h1:=Hg (b:=b) (b':=ZX b (e:Int)) (c:=c) (λd hd=>by rw[SY d,C' (λh=>hd (by rw[<-h]; exact hc))]) 4
  have hw:gi b.Ry c=false:=by
   cases hd:gi b.Ry c with
   | false=>rfl
   | true=>
    have:=((h.each c Qo Qo).2.2 hd).1;rw[<-hc] at this; omega
  rw[h1];unfold zpe;rw[hw]
  split <;> simp
 ·have h1:=zlq (b:=b) (b':=ZX b (e:Int)) (c:=c) hc (by rw[SY e,E' rfl]) hp (λd hd=>by rw[SY d,C' (λh=>hd h.symm)]) 4;rw[E' Qo] at h1;have:zpe (ZX b (e:Int)) c<=1:=by unfold zpe; split <;> omega
  omega
theorem zv6{b:Js}{c:Int}(c0:0<=c)(c1:c<(b.locals.length:Int))(hdl:b.Ry.length=b.locals.length)(hw:gi b.Ry c=false):Jn (Y5 b c).1 c<=Jn b c/\((Y5 b c).2=2->Jn (Y5 b c).1 c<Jn b c)/\((Y5 b c).2≠2->gi (Y5 b c).1.Ry c=false):=by
 unfold Y5;split
 ·exact⟨I8 _,λh=>(by cases h),λ_=>hw⟩
 ·have h1:=Hg (b:=b) (b':=⟨b.IY,b.RJ-ZC 20 b.RJ,b.Sy,b.locals.set c.toNat (ZC 20 b.RJ),b.Ry.set c.toNat (ZC 20 b.RJ==0)⟩) (c:=c) (λd hd=>by
   show gi (b.locals.set c.toNat (ZC 20 b.RJ)) (d:Int)=_;rw[QI _ _ c0 c1 Qo,C' λh=>hd h.symm]) 4
  have hd:gi (b.Ry.set c.toNat (ZC 20 b.RJ==0)) c=(ZC 20 b.RJ==0):=by rw[QI _ _ c0 Qo c0,E' rfl]
  unfold Jn;rw[h1];unfold zpe;rw[hw];simp only[hd]
  by_cases hm:ZC 20 b.RJ=0
  ·rw[E' (show (ZC 20 b.RJ==0)=true by rw[hm]; rfl),C' Qd];exact⟨Qo,λ_=>by omega,λh=>Is (E' hm) h⟩
  ·have hb:(ZC 20 b.RJ==0)=false:=by simpa using hm
   rw[hb];exact⟨I8 _,λh=>(by rw[C' hm] at h; cases h),λ_=>rfl⟩
theorem zs2{b:Js}{c n:Int}(c0:0<=c)(c1:c<(b.locals.length:Int)):Jn (XD b c n).1 c=Jn b c:=by
 unfold XD;split
 ·rfl
 ·unfold Jn zpe
  rw[Hg (b:=b) (c:=c) (λd hd=>by
   show gi (b.locals.set c.toNat (gi b.locals c-n)) (d:Int)=_;rw[QI _ _ c0 c1 Qo,C' λh=>hd h.symm]) 4]
theorem zho{F K:Int}{W:Q7}(h:SF F K W){k:Int}(hu:Q6 W.ID k=true)(hq:(gi W.ID k).IN.IY≠0)(c:Int):∀d:Nat,d<=W.IE.length->(∀j:Int,0<=j->Jn (gi (ZR W k d).ID j).IN c<=Jn (gi W.ID j).IN c)
 | 0,_=>λ_ _=>I8 _
 | d+1,hd=>by
  have ih:=zho h hu hq c d Qo;obtain⟨a,b,q⟩:=Gs h hu hq d Qo;simp only[ZR];split
  ·rename_i hc;have hu':Q6 (ZR W k d).ID k=true:=by rw[b.g.eO]; exact hu
   obtain⟨u0,u1,hg⟩:=a.w.a.u hu';have hb:=hg.IN q;have hl:=a.w.a.gl;intro j hj;show Jn (gi (Re _ k _).ID j).IN c<=_;rw[Yv u0 Qo hj];split
   ·rename_i e;subst e;exact IB (zv5 hb.1 (by rw[hb.2.1,b.c]; omega) hc.1) (ih k hj)
   ·exact ih j hj
  ·exact ih
theorem zhp{F K:Int}{W:Q7}(h:SF F K W)(c:Int):∀k:Nat,k<=8->∀j:Int,0<=j->Jn (gi (Ye W k).ID j).IN c<=Jn (gi W.ID j).IN c
 | 0,_=>λ_ _=>I8 _
 | k+1,hk=>by
  have ih:=zhp h c k Qo;obtain⟨a,b⟩:=Tp h k Qo;have hl:=a.w.a.gl;simp only[Ye];split
  ·rename_i hc;exact λj hj=>IB (zho a (Q5.2 ⟨Qo,Qo,hc.1⟩) hc.2 c _ (I8 _) j hj) (ih j hj)
  ·exact ih
theorem zru{K:Int}{W:Q7}(sw:SW K W){c:Int}(c0:0<=c)(c1:c<(W.IE.length:Int))(i:Int)(hi:0<=i):(gi (Vb W c).ID i).IN=(gi W.ID i).IN:=(zmw sw c0 c1).1.b i hi
theorem zg1{K:Int}{W:Q7}(sw:SW K W)(hK:0<=K)(i:Int)(hi:0<=i):∀c:Nat,c<=W.IE.length->(gi (XS W c).ID i).IN=(gi W.ID i).IN
 | 0,_=>rfl
 | c+1,hc=>by
  obtain⟨s1,f1⟩:=KE sw hK c Qo;rw[show XS W (c+1)=Vb (XS W c) (c:Int) from rfl,zru s1 Qo (by rw[f1.c]; omega) i hi,zg1 sw hK i hi c Qo]
theorem zon{K:Int}{W:Q7}(sw:SW K W)(hK:0<=K)(c:Int):LL (Qg W) c<=LL W c:=by
 obtain⟨s1,o1⟩:=Ok (F:=K) (K:=K+Qi) (sw.sf.mono (I3 _) (by simp only[Qi]; omega)) (I3 _) W.IE.length (I8 _);obtain⟨s2,b2⟩:=Tp s1 8 (I8 _);refine Hm (λk hk=>?_) 8 (I8 _);have h1:(gi (Qg W).ID (k:Int)).IN=(gi (Ye (Yi W W.IE.length) 8).ID (k:Int)).IN:=zg1 s2.w (by simp only[Qi]; omega) (k:Int) Qo W.IE.length (by show W.IE.length<=(Ye (Yi W W.IE.length) 8).IE.length; rw[b2.c,o1.c]; exact I8 _);rw[h1];have h2:=zhp s1 c 8 (I8 _) (k:Int) Qo;rw[o1.b (k:Int) Qo] at h2;exact h2
def YX(W:Q7)(t:Int):List Int:=Zb W.ID (Q8 W t).group++[0]
def z8(W:Q7)(c g:Int):Q7×Bool:=if (gi W.ID g).IN.IY=0 then (W,true) else (RP W g (Y5 (gi W.ID g).IN c).1,decide ((Y5 (gi W.ID g).IN c).2≠2))
def zib(c:Int):List Int->Q7->Q7×Bool
 | [],W=>(W,true)
 | g::l,W=>if (z8 W c g).2=true then zib c l (z8 W c g).1 else ((z8 W c g).1,false)
def zl4(W:Q7)(c g n:Int):Int:=if (gi W.ID g).IN.IY>0 then ZC n (gi (gi W.ID g).IN.locals c) else n
def zcw(W:Q7)(c:Int):List Int->Int->Int
 | [],n=>n
 | g::l,n=>zcw W c l (zl4 W c g n)
def CX(W:Q7)(c n g:Int):KL:={ Qc W g c with v:=if g≠0 then (Qc W g c).v+Zf n (Qc W g c).w else (Qc W g c).v,sum:=(Qc W g c).sum+n }
def zg3(W:Q7)(c n g:Int):Js:=if (gi W.ID g).IN.IY>0 then (ZE (gi W.ID g).IN ⟨2,c,n⟩).1 else (gi W.ID g).IN
def G8(W:Q7)(c n g:Int):Q7:=Rz W g c (CX W c n g)
def NQ(W:Q7)(c n g:Int):ZN:={ gi (G8 W c n g).ID g with sum:=(gi W.ID g).sum+n }
def zbb(W:Q7)(c n g:Int):Q7:=RP (Re (G8 W c n g) g (NQ W c n g)) g (zg3 W c n g)
def zi0(c n:Int):List Int->Q7->Q7
 | [],W=>W
 | g::l,W=>zi0 c n l (zbb W c n g)
def G9(W:Q7)(t n:Int):MC:={ Q8 W t with v:=(Q8 W t).v+Zf n (Qf (Q8 W t).nice),sum:=(Q8 W t).sum+n,used:=(Q8 W t).used+n }
def zpy(W:Q7)(c n:Int):Px:={ gi W.IE c with busy:=(gi W.IE c).busy+n,aA:=(gi W.IE c).aA+n }
def PO(W:Q7)(c t n:Int):Q7:=RX (zi0 c n (YX W t) (IU W t (G9 W t n))) c (zpy W c n)
def YE(W:Q7)(c t:Int):Px:=if t≠(gi W.IE c).cur\/(gi W.IE c).aA>=50 then { gi W.IE c with cur:=t,aA:=0 } else gi W.IE c
def X9(W:Q7)(c t:Int):Q7:=RX W c (YE W c t)
def Gt(W:Q7)(c n:Int):Px:={ gi W.IE c with idle:=(gi W.IE c).idle+n }
def X5(W:Q7)(c:Int):Q7×Bool:=zib c (YX W (Qu W c)) (X9 W c (Qu W c))
def UY(W:Q7)(c left:Int):Int:=zcw (X5 W c).1 c (YX W (Qu W c)) left
def FL(W:Q7)(c left:Int):Q7×Int:=
 if (X5 W c).2=true then (Qg (PO (X5 W c).1 c (Qu W c) (UY W c left)),left-UY W c left) else (Qg (RD (X5 W c).1 c),left)
def zdn(c:Int):Nat->Q7->Int->Q7
 | 0,W,_=>W
 | f+1,W,left=>if left<=0 then Qg W else if Qu W c<0 then Qg (RD (RX W c (Gt W c left)) c) else zdn c f (FL W c left).1 (FL W c left).2
structure ztw (K c:Int) (W W':Q7):Prop where
 sw:SW K W'
 o:VZ W W'
 q:∀i:Int,0<=i->(gi W'.ID i).IN.IY=(gi W.ID i).IN.IY
 l:∀i:Int,0<=i->gi (gi W.ID i).IN.locals c>0->gi (gi W'.ID i).IN.locals c>0
 p:∀i:Int,0<=i->Jn (gi W'.ID i).IN c<=Jn (gi W.ID i).IN c
 su:TE W W'
theorem ztw.refl{K c:Int}{W:Q7}(h:SW K W):ztw K c W W:=⟨h,VZ.refl _,λ_ _=>rfl,λ_ _ h=>h,λ_ _=>I8 _,TE.refl _⟩
theorem ztw.trans{K c:Int}{A B C:Q7}(h:ztw K c A B)(k:ztw K c B C):ztw K c A C:=⟨k.sw,h.o.trans k.o,λi hi=>(k.q i hi).trans (h.q i hi),λi hi g=>k.l i hi (h.l i hi g),λi hi=>IB (k.p i hi) (h.p i hi),h.su.trans k.su⟩
theorem zth{b:Js}(h:UP b){c:Int}(c0:0<=c)(c1:c<(b.locals.length:Int)):(gi b.locals c>0->(Y5 b c).1=b)/\((Y5 b c).2≠2->gi (Y5 b c).1.locals c>0):=by
 unfold Y5;split
 ·rename_i hp;exact⟨λ_=>rfl,λ_=>hp⟩
 ·rename_i hn;refine⟨λh=>Is h hn,λh2=>?_⟩;show gi (b.locals.set c.toNat (ZC 20 b.RJ)) c>0;rw[QI _ _ c0 c1 c0,E' rfl];have hm:=k9 h.p1
  by_cases e:ZC 20 b.RJ=0
  ·exact Is (E' e) h2
  ·omega
theorem zwx{K c:Int}{W:Q7}(sw:SW K W)(c0:0<=c)(c1:c<(W.IE.length:Int)){g:Int}(hu:Q6 W.ID g=true)(hd:(gi W.ID g).IN.IY≠0->gi (gi W.ID g).IN.Ry c=false) :
  ztw K c W (z8 W c g).1/\((z8 W c g).2=true->((gi W.ID g).IN.IY≠0->gi (gi (z8 W c g).1.ID g).IN.locals c>0)/\∀i:Int,0<=i->((gi W.ID i).IN.IY≠0->gi (gi W.ID i).IN.Ry c=false)->(gi W.ID i).IN.IY≠0->gi (gi (z8 W c g).1.ID i).IN.Ry c=false)
   /\ ((z8 W c g).2=false->Jn (gi (z8 W c g).1.ID g).IN c<Jn (gi W.ID g).IN c):=by
 obtain⟨u0,u1,hg⟩:=sw.a.u hu;have cJ:=sw.a.gl;unfold z8;split
 ·rename_i hq;exact⟨ztw.refl sw,λ_=>⟨λh=>Is hq h,λi _ h h2=>h h2⟩,λh=>by cases h⟩
 ·rename_i hq;obtain⟨hb,hbl,_⟩:=hg.IN hq;have sK:c<((gi W.ID g).IN.locals.length:Int):=Qo;obtain⟨dJ,hl2,hq2⟩:=zmy hb c0 sK;obtain⟨p1,p2,p3⟩:=zv6 c0 sK hb.dl (hd hq);obtain⟨l1,l2⟩:=zth hb c0 sK;have ha:=sw.a.RP (g:=g) hu hq dJ (by rw[hl2]; exact hbl) hq2;have e:∀i:Int,0<=i->gi (RP W g (Y5 (gi W.ID g).IN c).1).ID i=if g=i then { gi W.ID g with IN:=(Y5 (gi W.ID g).IN c).1 } else gi W.ID i:=λi hi=>Yv u0 Qo hi
  have ob:=Ng (W:=W) (b:=(Y5 (gi W.ID g).IN c).1) u0 Qo;refine⟨⟨(sw.sf.BI1 ob ha).w,ob,λi hi=>?_,λi hi h=>?_,λi hi=>?_,zws _ _ _⟩,λh=>?_,λh=>?_⟩
  ·show (gi (RP W g _).ID i).IN.IY=_;rw[e i hi]; split
   ·rename_i e; subst e; exact hq2
   ·rfl
  ·show gi (gi (RP W g _).ID i).IN.locals c>0;rw[e i hi]; split
   ·rename_i e; subst e;show gi (Y5 (gi W.ID g).IN c).1.locals c>0;rw[l1 h]; exact h
   ·exact h
  ·show Jn (gi (RP W g _).ID i).IN c<=_;rw[e i hi]; split
   ·rename_i e; subst e; exact p1
   ·exact I8 _
  ·have h:(Y5 (gi W.ID g).IN c).2≠2:=Ot h;refine⟨λ_=>?_,λi hi h1 h2=>?_⟩
   ·show gi (gi (RP W g _).ID g).IN.locals c>0;rw[e g u0,E' rfl];exact l2 h
   ·show gi (gi (RP W g _).ID i).IN.Ry c=false;rw[e i hi]; split
    ·rename_i e; subst e; exact p3 h
    ·exact h1 h2
  ·have h:(Y5 (gi W.ID g).IN c).2=2:=Ir λhn=>Ou h hn
   show Jn (gi (RP W g _).ID g).IN c<_;rw[e g u0,E' rfl];exact p2 h
theorem zwy{K c:Int}(c0:0<=c):∀(l:List Int) {W:Q7},SW K W->c<(W.IE.length:Int)->(∀g∈l,Q6 W.ID g=true)->(∀g∈l,(gi W.ID g).IN.IY≠0->gi (gi W.ID g).IN.Ry c=false)->
  ztw K c W (zib c l W).1/\((zib c l W).2=true->∀g∈l,(gi W.ID g).IN.IY≠0->gi (gi (zib c l W).1.ID g).IN.locals c>0)/\((zib c l W).2=false->∃g∈l,Jn (gi (zib c l W).1.ID g).IN c<Jn (gi W.ID g).IN c)
 | [],W,sw,_,_,_=>⟨ztw.refl sw,λ_ g hg=>(by cases hg),λh=>by cases h⟩
 | g::l,W,sw,c1,hu,hd=>by
  obtain⟨a,b,d⟩:=zwx sw c0 c1 (hu g Ia) (hd g Ia);simp only[zib]
  by_cases h2:(z8 W c g).2=true
  ·rw[E' h2];obtain⟨b1,b2⟩:=b h2;have h0:∀x∈l,0<=x:=λx hx=>(Q5.1 (hu x (I2 _ hx))).1
   obtain⟨a',b',d'⟩:=zwy c0 l (W:=(z8 W c g).1) a.sw (by rw[a.o.c]; exact c1) (λx hx=>by rw[a.o.g.eO]; exact hu x (I2 _ hx)) λx hx hq=>by
    rw[a.q x (h0 x hx)] at hq;exact b2 x (h0 x hx) (hd x (I2 _ hx)) hq
   refine⟨a.trans a',λh x hx hq=>?_,λh=>?_⟩
   ·rcases Ij.1 hx with e | e
    ·subst e;exact a'.l x (Q5.1 (hu x Ia)).1 (b1 hq)
    ·exact b' h x e (by rw[a.q x (h0 x e)]; exact hq)
   ·obtain⟨x,hx,IT⟩:=d' h;exact⟨x,I2 _ hx,Nat.lt_of_lt_of_le IT (a.p x (h0 x hx))⟩
  ·rw[C' h2];exact⟨a,λh=>(by cases h),λ_=>⟨g,Ia,d (by simpa using h2)⟩⟩
theorem zhj{W:Q7}{c:Int}:∀(l:List Int) (n:Int),1<=n->(∀g∈l,(gi W.ID g).IN.IY>0->gi (gi W.ID g).IN.locals c>0)->1<=zcw W c l n/\zcw W c l n<=n
 | [],n,h,_=>⟨h,I3 _⟩
 | g::l,n,h,hl=>by
  simp only[zcw]
  have hm:1<=zl4 W c g n/\zl4 W c g n<=n:=by
   unfold zl4;split
   ·rename_i hq;have:=hl g Ia hq;unfold ZC
    split <;> omega
   ·exact⟨h,I3 _⟩
  have:=zhj l (zl4 W c g n) hm.1 λx hx=>hl x (I2 _ hx)
  omega
theorem Ht(n w:Int)(h0:0<=n)(h1:n<=100):0<=Zf n w/\Zf n w<=Qi:=by
 by_cases h:1<=w/\w<=20
 ·rw[P7 h0 Qo h.1 h.2];have hs:=zdy h.1 h.2;refine⟨Int.mul_nonneg h0 Qo,?_⟩
  calc n*zh6 w<=100*zh6 w:=Int.mul_le_mul_of_nonneg_right h1 Qo
   _<=100*232792560:=Int.mul_le_mul_of_nonneg_left hs.2 Qd
   _<=Qi:=Qd
 ·rw[Hu Qo]; exact⟨I3 _,Qd⟩
theorem zrs{b:Js}(h:UP b){c n:Int}(c0:0<=c)(c1:c<(b.locals.length:Int)):UP (ZE b ⟨2,c,n⟩).1/\(ZE b ⟨2,c,n⟩).1.locals.length=b.locals.length/\(ZE b ⟨2,c,n⟩).1.IY=b.IY/\Jn (ZE b ⟨2,c,n⟩).1 c=Jn b c:=by
 have e:ZE b ⟨2,c,n⟩=XD b c n:=by
  unfold ZE;rw[C' (show ¬(2:Int)=4 by decide),C' (by rw[Qt.2 (by show 0<=c/\c<=_; omega)]; decide),C' (show ¬(2:Int)=1 by decide),E' rfl]
 rw[e];obtain⟨a,b',d⟩:=zh3 h (n:=n) c0 c1;exact⟨a,b',d,zs2 c0 c1⟩
structure zw6 (K S c n:Int) (W W':Q7):Prop where
 sw:SW K W'
 rb:RB S W'
 now:W'.now=W.now
 t:W'.tasks=W.tasks
 cp:W'.IE=W.IE
 g:Z6 W.ID W'.ID
 p:∀i:Int,0<=i->Jn (gi W'.ID i).IN c=Jn (gi W.ID i).IN c
theorem zno{K S c n:Int}{W:Q7}(sw:SW K W)(rb:RB S W)(hS:S+n<=100000000000000000)(c0:0<=c)(c1:c<(W.IE.length:Int)){g:Int}(hu:Q6 W.ID g=true)(n0:0<=n)(n1:n<=100):zw6 (K+Qi) (S+n) c n W (zbb W c n g):=by
 obtain⟨u0,u1,hg⟩:=sw.a.u hu;have cJ:=sw.a.gl;have hsl:=sw.a.sl hu;have hsr:=sw.s g c hu c0 c1;have hv:=Ht n (Qc W g c).w n0 n1;have hlg:0<=Qi:=Qd;have ea:∀{i:Int},0<=i->gi (G8 W c n g).ID i=if g=i then { gi W.ID g with IF:=(gi W.ID g).IF.set c.toNat (CX W c n g) } else gi W.ID i:=λhi=>Yv u0 Qo hi
 have eg:∀i:Int,0<=i->gi (zbb W c n g).ID i=if g=i then { gi W.ID g with IF:=(gi W.ID g).IF.set c.toNat (CX W c n g),sum:=(gi W.ID g).sum+n,IN:=zg3 W c n g } else gi W.ID i:=λi hi=>by
  have nF:g<((Re (G8 W c n g) g (NQ W c n g)).ID.length:Int):=by
   have:(Re (G8 W c n g) g (NQ W c n g)).ID.length=W.ID.length:=by simp[Re,G8,Rz]
   rw[this]; omega
  have hl2:g<((G8 W c n g).ID.length:Int):=by
   have:(G8 W c n g).ID.length=W.ID.length:=by simp[Re,G8,Rz]
   rw[this]; omega
  unfold zbb RP;rw[Yv u0 nF hi,Yv u0 hl2 hi,Yv u0 hl2 u0,E' rfl,ea hi];split
  ·unfold NQ;rw[ea u0,E' rfl]
  ·rfl
 have es:∀i d:Int,0<=i->0<=d->Qc (zbb W c n g) i d=if g=i/\c=d then CX W c n g else Qc W i d:=λi d hi hd=>by
  rw[<-Jo (W:=W) (s:=CX W c n g) u0 Qo c0 Qo hi hd];unfold Qc;show gi (gi (zbb W c n g).ID i).IF d=gi (gi (G8 W c n g).ID i).IF d;rw[eg i hi,ea hi]
  split <;> rfl
 have hT:Z6 W.ID (zbb W c n g).ID:=by
  have t1:=XW (W:=W) (g:=g) (c:=c) (s:=CX W c n g) u0 Qo;have t2:=JV (W:=G8 W c n g) (g:=g) (x:=NQ W c n g) u0 (by show g<((G8 W c n g).ID.length:Int); rw[show (G8 W c n g).ID.length=W.ID.length from t1.len]; omega) rfl rfl rfl;have t3:=JV (W:=Re (G8 W c n g) g (NQ W c n g)) (g:=g) (x:={ gi (Re (G8 W c n g) g (NQ W c n g)).ID g with IN:=zg3 W c n g }) u0 (by rw[t2.len,show (G8 W c n g).ID.length=W.ID.length from t1.len]; omega) rfl rfl rfl;exact(t1.trans t2).trans t3
 have hB:(zg3 W c n g).IY=(gi W.ID g).IN.IY/\Jn (zg3 W c n g) c=Jn (gi W.ID g).IN c/\((gi W.ID g).IN.IY=0->zg3 W c n g=(gi W.ID g).IN)/\((gi W.ID g).IN.IY≠0->UP (zg3 W c n g)/\(zg3 W c n g).locals.length=W.IE.length):=by
  unfold zg3;split
  ·rename_i hq;obtain⟨hb,hbl,_⟩:=hg.IN Qo;obtain⟨a,b,d,e⟩:=zrs hb (n:=n) c0 Qo;exact⟨d,e,λh=>by omega,λ_=>⟨a,by rw[b]; exact hbl⟩⟩
  ·rename_i hq;refine⟨rfl,rfl,λ_=>rfl,λh=>?_⟩;obtain⟨hb,hbl,_⟩:=hg.IN h;exact⟨hb,hbl⟩
 have hrg:=rb.g g hu
 have hW:WA (zbb W c n g):=by
  have hl:=sw.a;refine⟨hl.n1,hl.n2,hl.c1,hl.c2,hl.t,hT.tree hl.tree,hl.wT,λk k0 k1=>?_⟩;unfold MV;rw[eg k k0];split
  ·rename_i e;subst e;refine⟨λh=>?_,λ_=>⟨hg.w1,hg.w2,hg.m,hg.m0,Yq.2 ⟨by show 0<=(gi W.ID g).sum+n; omega,by show (gi W.ID g).sum+n<=_; omega⟩,by show (List.set _ _ _).length=_; rw[H']; exact hg.len,λh=>⟨(hg.root h).1,(hg.root h).2.1,by show (zg3 W c n g).IY=0; rw[hB.1]; exact(hg.root h).2.2⟩,λh=>?_,λh=>?_⟩⟩
   ·have h:(gi W.ID g).used=false:=h;rw[(Q5.1 hu).2.2] at h; cases h
   ·have h:(zg3 W c n g).IY=0:=h;rw[hB.1] at h;have:=hg.none h;exact⟨by show Ol (zg3 W c n g)=true; rw[hB.2.2.1 h]; exact this.1,this.2⟩
   ·have h:(zg3 W c n g).IY≠0:=h;rw[hB.1] at h;obtain⟨_,_,hp⟩:=hg.IN h;exact⟨(hB.2.2.2 h).1,(hB.2.2.2 h).2,hp⟩
  ·have:=hl.grp k k0 k1;exact⟨this.1,λhu=>by have:=this.2 hu; exact⟨this.w1,this.w2,this.m,this.m0,this.s,this.len,this.root,this.none,this.IN⟩⟩
 refine⟨⟨hW,λt a b m=>?_,λt a b=>?_,λk d u a b=>?_,sw.cu⟩,⟨rb.n,λt a b=>?_,λk d u a b=>?_,λk u=>?_,λd a b=>?_⟩,rfl,rfl,rfl,hT,λi hi=>?_⟩
 ·rw[hT.eO]; exact sw.t t a b m
 ·have:=sw.tv t a b;exact⟨this.1,by show (Q8 W t).v<=_; omega⟩
 ·rw[hT.eO] at u;have hk:=(Q5.1 u).1;have h:=sw.s k d u a b;rw[es k d hk a];split
  ·refine⟨hsr.1,by show (Qc W g c).floor<=_; omega,?_,?_,hsr.2.2.2.2.1,hsr.2.2.2.2.2⟩
   ·show 0<=if g≠0 then (Qc W g c).v+Zf n (Qc W g c).w else (Qc W g c).v
    split <;> omega
   ·show (if g≠0 then (Qc W g c).v+Zf n (Qc W g c).w else (Qc W g c).v)<=_
    split <;> omega
  ·exact⟨h.1,Qo,h.2.2.1,Qo,h.2.2.2.2.1,h.2.2.2.2.2⟩
 ·have:=rb.t t a b;exact⟨this.1,by show (Q8 W t).sum<=_; omega,this.2.2.1,by show (Q8 W t).used<=_; omega⟩
 ·rw[hT.eO] at u;have hk:=(Q5.1 u).1;have h:=rb.s k d u a b;rw[es k d hk a];split
  ·have h2:=rb.s g c hu c0 c1;exact⟨by show 0<=(Qc W g c).sum+n; omega,by show (Qc W g c).sum+n<=_; omega⟩
  ·exact⟨h.1,Qo⟩
 ·rw[hT.eO] at u;have h:=rb.g k u;rw[eg k (Q5.1 u).1];split
  ·exact⟨by show 0<=(gi W.ID g).sum+n; omega,by show (gi W.ID g).sum+n<=_; omega⟩
  ·exact⟨h.1,Qo⟩
 ·have:=rb.c d a b;exact⟨this.1,by show (gi W.IE d).busy<=_; omega,this.2.2.1,this.2.2.2.1,this.2.2.2.2⟩
 ·rw[eg i hi];split
  ·rename_i e; subst e; exact hB.2.1
  ·rfl
theorem RB.mono{S S':Int}{W:Q7}(h:RB S W)(k:S<=S'):RB S' W:=
 ⟨h.n,λt a b=>by have:=h.t t a b; omega,λk c u a b=>by have:=h.s k c u a b; omega,λk u=>by have:=h.g k u; omega,λc a b=>by have:=h.c c a b; omega⟩
theorem RB.RX{S:Int}{W:Q7}(h:RB S W){c:Int}(c0:0<=c)(c1:c<(W.IE.length:Int)){x:Px}(hx:0<=x.busy/\x.busy<=S/\0<=x.idle/\x.idle<=50000000000000000/\0<=x.aA/\x.aA<=149):RB S (RX W c x):=by
 have hl:(W.IE.set c.toNat x).length=W.IE.length:=H';refine⟨h.n,h.t,λk d u a b=>?_,h.g,λd a b=>?_⟩
 ·have b:d<(((W.IE.set c.toNat x).length:Nat):Int):=b;rw[hl] at b;exact h.s k d u a b
 ·have b:d<(((W.IE.set c.toNat x).length:Nat):Int):=b;rw[hl] at b;show _<=(gi (W.IE.set c.toNat x) d).busy/\(gi (W.IE.set c.toNat x) d).busy<=_/\_<=(gi (W.IE.set c.toNat x) d).idle/\(gi (W.IE.set c.toNat x) d).idle<=_/\_<=(gi (W.IE.set c.toNat x) d).aA/\(gi (W.IE.set c.toNat x) d).aA<=_;rw[QI _ _ c0 c1 a];split
  ·exact hx
  ·exact h.c d a b
theorem RB.IU{S:Int}{W:Q7}(h:RB S W)(hl:W.tasks.length=12){t:Int}(t0:0<=t)(t1:t<12){x:MC}(hx:0<=x.sum/\x.sum<=S/\0<=x.used/\x.used<=S):RB S (IU W t x):=by
 refine⟨h.n,λu a b=>?_,h.s,h.g,h.c⟩;show _<=(gi (W.tasks.set t.toNat x) u).sum/\(gi (W.tasks.set t.toNat x) u).sum<=_/\_<=(gi (W.tasks.set t.toNat x) u).used/\(gi (W.tasks.set t.toNat x) u).used<=_;rw[QI _ _ t0 Qo a];split
 ·exact hx
 ·exact h.t u a b
theorem zw6.trans{K S K' S' c n:Int}{A B C:Q7}(h:zw6 K S c n A B)(k:zw6 K' S' c n B C):zw6 K' S' c n A C:=
 ⟨k.sw,k.rb,k.now.trans h.now,k.t.trans h.t,k.cp.trans h.cp,h.g.trans k.g,λi hi=>(k.p i hi).trans (h.p i hi)⟩
theorem zug{c n:Int}(c0:0<=c)(n0:0<=n)(n1:n<=100):∀(l:List Int) {K S:Int} {W:Q7},SW K W->RB S W->S+100*(l.length:Int)<=100000000000000000->c<(W.IE.length:Int)->(∀g∈l,Q6 W.ID g=true)->
  zw6 (K+Qi*(l.length:Int)) (S+100*(l.length:Int)) c n W (zi0 c n l W)
 | [],K,S,W,sw,rb,_,_,_=>⟨sw.mono Qs,rb.mono Qs,rfl,rfl,rfl,Z6.refl _,λ_ _=>rfl⟩
 | g::l,K,S,W,sw,rb,hS,c1,hu=>by
  rw[List.length_cons] at hS ⊢;have h1:=zno sw rb Qo c0 c1 (hu g Ia) n0 n1;have h2:=zug c0 n0 n1 l (W:=zbb W c n g) h1.sw (h1.rb.mono (show S+n<=S+100 by omega)) Qo (by rw[h1.cp]; exact c1) λx hx=>by rw[h1.g.eO]; exact hu x (I2 _ hx)
  have h3:=h1.trans h2;exact⟨h3.sw.mono (by simp only[Qi]; omega),h3.rb.mono Qo,h3.now,h3.t,h3.cp,h3.g,h3.p⟩
theorem zy3{W W':Q7}{c:Int}(h:∀i:Int,0<=i->Jn (gi W'.ID i).IN c=Jn (gi W.ID i).IN c):LL W' c=LL W c:=
 Nat.le_antisymm (Hm (λk _=>Nat.le_of_eq (h k Qo)) 8 (I8 _)) (Hm (λk _=>Nat.le_of_eq (h k Qo).symm) 8 (I8 _))
theorem y8{W:Q7}(ha:WA W){t:Int}(hu:Q6 W.ID (Q8 W t).group=true):(∀g∈YX W t,Q6 W.ID g=true)/\(YX W t).length<=4:=by
 refine⟨λg hg=>?_,?_⟩
 ·rcases Io.1 hg with h | h
  ·exact(YO ha.tree _ hu g h).1
  ·rw[IA.1 h]; exact ha.root
 ·have:=zdh W.ID 3 (Q8 W t).group;unfold YX;rw[Ip];show (UN 3 W.ID (Q8 W t).group).length+1<=4;omega
theorem zka{W W':Q7}(ht:W'.tasks=W.tasks)(hT:Z6 W.ID W'.ID)(t:Int):YX W' t=YX W t:=by
 unfold YX;rw[Jp ht,Tv hT]
def FN(f:Nat):Int:=Qn+(400-(f:Int))*346860914400
def Nw(f:Nat):Int:=Qn+(400-(f:Int))*500
structure zea (f:Nat) (c:Int) (W0 W:Q7) (left:Int):Prop where
 sw:SW (FN f) W
 rb:RB (Nw f) W
 dm:Dm W c
 c0:0<=c
 c1:c<(W.IE.length:Int)
 up:(gi W.IE c).up=true
 now:W.now=W0.now
 len:W.IE.length=W0.IE.length
 l0:0<=left
 l1:left<=100
 f1:left+LL W c<(f:Int)
 f2:f<=400
theorem FO{f:Nat}(h:f<=400):Qn<=FN f/\FN f<=50200000000000000:=by
 unfold FN Qn; omega
theorem zkd{f:Nat}(h:f<=400):Qn<=Nw f/\Nw f<=50000000000200000:=by
 unfold Nw Qn; omega
theorem zoy{W:Q7}(wp:J7 W)(r:Kg W){c n:Int}(c0:0<=c)(c1:c<(W.IE.length:Int))(up:(gi W.IE c).up=true)(n0:0<=n)(n1:n<=100):zea 400 c W W n:=by
 have hp:=zy4 W c;exact⟨(Mq wp r).mono (by unfold FN; omega),(z2q wp r).mono (by unfold Nw; omega),z19 wp c0 c1,c0,c1,up,rfl,rfl,n0,n1,Qo,I8 _⟩
theorem FU{K S:Int}{c t:Int}{W:Q7}(sw:SW K W)(rb:RB S W)(c0:0<=c)(c1:c<(W.IE.length:Int))(up:(gi W.IE c).up=true)(t0:0<=t)(t1:t<12) :
  SW K (X9 W c t)/\RB S (X9 W c t)/\(gi (X9 W c t).IE c).up=true/\(gi (X9 W c t).IE c).aA<50/\(gi (X9 W c t).IE c).cur=t/\(X9 W c t).IE.length=W.IE.length:=by
 have e:gi (X9 W c t).IE c=YE W c t:=(QI _ _ c0 c1 c0).trans (E' rfl);have hl:(X9 W c t).IE.length=W.IE.length:=H';have hup:(YE W c t).up=true:=by unfold YE; split <;> exact up
 have hr:=rb.c c c0 c1;have hcu:=sw.cu c c0 c1;refine⟨sw.RX c0 c1 (NM (c:=c) (by rw[H']; exact sw.a.c2) c0 (by rw[H']; exact c1) (by rw[show gi (W.IE.set c.toNat (YE W c t)) c=_ from e]; exact hup)) ?_ ?_,rb.RX c0 c1 ?_,by rw[e]; exact hup,?_,?_,hl⟩
 ·unfold YE; split
  ·show -1<=t; omega
  ·exact hcu.1
 ·unfold YE; split
  ·exact t1
  ·exact hcu.2
 ·unfold YE; split
  ·exact⟨hr.1,hr.2.1,hr.2.2.1,hr.2.2.2.1,by show (0:Int)<=0; decide,by show (0:Int)<=149; decide⟩
  ·exact hr
 ·rw[e];unfold YE; split
  ·show (0:Int)<50; decide
  ·omega
 ·rw[e];unfold YE; split
  ·rfl
  ·rename_i h;exact Ir λhn=>h (.inl λe=>hn e.symm)
structure z24 (f:Nat) (c:Int) (W0 W:Q7) (left:Int):Prop where
 line:zpm W (Qu W c) c
 us:Q6 W.ID (Q8 W (Qu W c)).group=true
 pin:∀g∈YX W (Qu W c),Q6 W.ID g=true
 len:(YX W (Qu W c)).length<=4
 s1:SW (FN (f+1)) (X9 W c (Qu W c))
 r1:RB (Nw (f+1)) (X9 W c (Qu W c))
 aA:(gi (X9 W c (Qu W c)).IE c).aA<50
 tk:ztw (FN (f+1)) c (X9 W c (Qu W c)) (X5 W c).1
 dr:∀g∈YX W (Qu W c),(gi (X9 W c (Qu W c)).ID g).IN.IY≠0->gi (gi (X9 W c (Qu W c)).ID g).IN.Ry c=false
 m:(X5 W c).2=true->1<=UY W c left/\UY W c left<=left
 ch:(X5 W c).2=true->SW (FN (f+1)+5*Qi) (PO (X5 W c).1 c (Qu W c) (UY W c left))/\RB (Nw (f+1)+500) (PO (X5 W c).1 c (Qu W c) (UY W c left))
 nx:zea f c W0 (FL W c left).1 (FL W c left).2
 gt:Z6 W.ID (FL W c left).1.ID
theorem zi1{K S c t n:Int}{W:Q7}(sw:SW K W)(rb:RB S W)(hS:S+500<=100000000000000000)(c0:0<=c)(c1:c<(W.IE.length:Int))(up:(gi W.IE c).up=true)(aA:(gi W.IE c).aA<50)(t0:0<=t)(t1:t<12)(hu:Q6 W.ID (Q8 W t).group=true)(n0:0<=n)(n1:n<=100) :
  SW (K+5*Qi) (PO W c t n)/\RB (S+500) (PO W c t n)/\LL (PO W c t n) c=LL W c/\(PO W c t n).now=W.now/\(PO W c t n).IE.length=W.IE.length/\(gi (PO W c t n).IE c).up=true/\SW (K+Qi) (IU W t (G9 W t n))/\RB (S+100) (IU W t (G9 W t n))/\zw6 (K+5*Qi) (S+500) c n (IU W t (G9 W t n)) (zi0 c n (YX W t) (IU W t (G9 W t n))):=by
 have hv:=Ht n (Qf (Q8 W t).nice) n0 n1;have hlg:0<=Qi:=Qd;have htv:=sw.tv t t0 t1;have htr:=rb.t t t0 t1;have hcr:=rb.c c c0 c1;obtain⟨hp1,dQ⟩:=y8 sw.a hu;have s1:SW (K+Qi) (IU W t (G9 W t n)):=(sw.mono (K':=K+Qi) Qo).IU t0 t1 (x:=G9 W t n) (λh=>sw.t t t0 t1 h) (by show 0<=(Q8 W t).v+Zf n (Qf (Q8 W t).nice); omega) (by show (Q8 W t).v+Zf n (Qf (Q8 W t).nice)<=_; omega);have r1:RB (S+100) (IU W t (G9 W t n)):=(rb.mono (S':=S+100) Qo).IU sw.a.t t0 t1 (x:=G9 W t n) ⟨by show 0<=(Q8 W t).sum+n; omega,by show (Q8 W t).sum+n<=_; omega,by show 0<=(Q8 W t).used+n; omega,by show (Q8 W t).used+n<=_; omega⟩;have h0:=zug c0 n0 n1 (YX W t) s1 r1 Qo c1 hp1;have h2:zw6 (K+5*Qi) (S+500) c n (IU W t (G9 W t n)) (zi0 c n (YX W t) (IU W t (G9 W t n))):=⟨h0.sw.mono (by simp only[Qi]; omega),h0.rb.mono Qo,h0.now,h0.t,h0.cp,h0.g,h0.p⟩;have mB:(zi0 c n (YX W t) (IU W t (G9 W t n))).IE=W.IE:=h2.cp
 have e:gi (PO W c t n).IE c=zpy W c n:=by
  show gi ((zi0 c n (YX W t) (IU W t (G9 W t n))).IE.set c.toNat (zpy W c n)) c=_;rw[mB];exact(QI _ _ c0 c1 c0).trans (E' rfl)
 have hlen:(PO W c t n).IE.length=W.IE.length:=by
  show ((zi0 c n (YX W t) (IU W t (G9 W t n))).IE.set c.toNat (zpy W c n)).length=_;rw[H',mB]
 have hcu:=sw.cu c c0 c1;refine⟨h2.sw.RX c0 (by rw[mB]; exact c1) (x:=zpy W c n) (NM (c:=c) ?_ c0 ?_ ?_) hcu.1 hcu.2,h2.rb.RX c0 (by rw[mB]; exact c1) (x:=zpy W c n) ⟨by show 0<=(gi W.IE c).busy+n; omega,by show (gi W.IE c).busy+n<=_; omega,hcr.2.2.1,hcr.2.2.2.1,by show 0<=(gi W.IE c).aA+n; omega,by show (gi W.IE c).aA+n<=149; omega⟩,zy3 (W':=PO W c t n) h2.p,h2.now,hlen,by rw[e]; exact up,s1,r1,h2⟩
 ·rw[H',mB]; exact sw.a.c2
 ·rw[H',mB]; exact c1
 ·rw[show gi ((zi0 c n (YX W t) (IU W t (G9 W t n))).IE.set c.toNat (zpy W c n)) c=_ from e]; exact up
theorem zds{K S c:Int}{W:Q7}(sw:SW K W)(rb:RB S W)(hK:0<=K)(c0:0<=c)(c1:c<(W.IE.length:Int))(up:(gi W.IE c).up=true) :
  SW (K+UZ) (Qg W)/\RB S (Qg W)/\Dm (Qg W) c/\(gi (Qg W).IE c).up=true/\(Qg W).now=W.now/\(Qg W).IE.length=W.IE.length/\LL (Qg W) c<=LL W c:=by
 obtain⟨s,f⟩:=Ov sw hK;have su:=zo8 W;exact⟨s,rb.sum su f.g f.c,ztb sw hK c0 c1,by rw[su.u]; exact up,f.n,f.c,zon sw hK c⟩
theorem zox{f:Nat}{c left:Int}{W0 W:Q7}(h:zea (f+1) c W0 W left)(hl:0<left)(hp:¬Qu W c<0):z24 f c W0 W left:=by
 have hf:=h.f2;have hh0:(0:Int)<=Qn:=Qd;have hK:=FO (f:=f+1) hf;have hS:=zkd (f:=f+1) hf;have c0:=h.c0;have c1:=h.c1;have eK:FN f=FN (f+1)+346860914400:=by unfold FN; omega
 have eS:Nw f=Nw (f+1)+500:=by unfold Nw; omega
 have nV:=zs3 h.sw.a (h.sw.cu c c0 c1).2 h.dm.cu hp;have hM:UY W c left=zcw (X5 W c).1 c (YX W (Qu W c)) left:=rfl;have hT:X5 W c=zib c (YX W (Qu W c)) (X9 W c (Qu W c)):=rfl;have hR:FL W c left=if (X5 W c).2=true then (Qg (PO (X5 W c).1 c (Qu W c) (UY W c left)),left-UY W c left) else (Qg (RD (X5 W c).1 c),left):=rfl;have t0:=nV.t0;have t1:=nV.t1;obtain⟨us,_,_⟩:=h.sw.t _ t0 t1 (by rw[nV.st]; decide);obtain⟨pin,CQ2⟩:=y8 h.sw.a us;obtain⟨s1,r1,u1,Ck3,cu1,l1⟩:=FU h.sw h.rb c0 c1 h.up t0 t1
 have hdr:∀g∈YX W (Qu W c),(gi (X9 W c (Qu W c)).ID g).IN.IY≠0->gi (gi (X9 W c (Qu W c)).ID g).IN.Ry c=false:=λg hg hq=>by
  have hq:(gi W.ID g).IN.IY≠0:=hq;show gi (gi W.ID g).IN.Ry c=false;have hug:=pin g hg;obtain⟨u0,u8,lM⟩:=h.sw.a.u hug;rcases Io.1 hg with hg | hg
  ·have hon:=nV.on g hg;have hz:=(YO h.sw.a.tree _ us g hg).2;have:=h.dm.on g hug hz;unfold VW at this;rw[hon] at this
   have hd:Uf W g c=false:=by
    cases hd:Uf W g c with
    | false=>rfl
    | true=>rw[hd] at this; simp at this
   unfold Uf at hd;have:=(lM.IN hq).1.q1;rw[Ii Qo,Bool.true_and] at hd;exact hd
  ·rw[IA.1 hg] at hq lM;exact Is (lM.root rfl).2.2 hq
 obtain⟨tk,tl,tf⟩:=zwy c0 (YX W (Qu W c)) s1 (by rw[l1]; exact c1) pin hdr;rw[<-hT] at tk tl tf;have eT:(X5 W c).1.tasks=W.tasks:=tk.o.t;have eC:(X5 W c).1.IE=(X9 W c (Qu W c)).IE:=tk.o.c;have eG:Z6 W.ID (X5 W c).1.ID:=tk.o.g;have lT:(X5 W c).1.IE.length=W.IE.length:=by rw[eC,l1]
 have rT:RB (Nw (f+1)) (X5 W c).1:=r1.sum tk.su tk.o.g (by rw[eC]);have uT:Q6 (X5 W c).1.ID (Q8 (X5 W c).1 (Qu W c)).group=true:=by rw[eG.eO,Jp eT]; exact us
 have pT:YX (X5 W c).1 (Qu W c)=YX W (Qu W c):=zka eT eG _;have upT:(gi (X5 W c).1.IE c).up=true:=by rw[eC]; exact u1
 have BW2:(gi (X5 W c).1.IE c).aA<50:=by rw[eC]; exact Ck3
 have phT:LL (X5 W c).1 c<=LL W c:=Hm (λk _=>tk.p (k:Int) Qo) 8 (I8 _)
 have hm:(X5 W c).2=true->1<=UY W c left/\UY W c left<=left:=λht=>by
  refine zhj _ left Qo λg hg hq=>?_
  have g0:=(Q5.1 (pin g hg)).1;rw[tk.q g g0] at hq;exact tl ht g hg Qo
 have nF:=h.l1;have hch:(X5 W c).2=true->_:=λht=>zi1 (t:=Qu W c) (n:=UY W c left) tk.sw rT Qo c0 (by rw[lT]; exact c1) upT BW2 t0 t1 uT (by have:=hm ht; omega) (by have:=hm ht; omega)
 refine⟨nV,us,pin,CQ2,s1,r1,Ck3,tk,hdr,hm,λht=>⟨(hch ht).1,(hch ht).2.1⟩,?_,?_⟩
 rotate_left
 ·rw[hR]
  by_cases ht:(X5 W c).2=true
  ·rw[E' ht];have a:=(hch ht).1;have g1:Z6 (X5 W c).1.ID (PO (X5 W c).1 c (Qu W c) (UY W c left)).ID:=(hch ht).2.2.2.2.2.2.2.2.g;exact(eG.trans g1).trans (Ov a (by simp only[Qi]; omega)).2.g
  ·rw[C' ht];have g1:Z6 (X5 W c).1.ID (RD (X5 W c).1 c).ID:=Z6.refl _;exact(eG.trans g1).trans (Ov (tk.sw.RD c0 (by rw[lT]; exact c1)) Qo).2.g
 rw[hR];have hf1:=h.f1
 by_cases ht:(X5 W c).2=true
 ·rw[E' ht];obtain⟨a,b,d,e1,e2,e3,_⟩:=hch ht;obtain⟨b1,b2,b3,b4,b5,b6,b7⟩:=zds a b (by simp only[Qi]; omega) c0 (by rw[e2,lT]; exact c1) e3;have hm:=hm ht
  exact⟨b1.mono (by simp only[Qi,UZ]; omega),b2.mono Qo,b3,c0,by rw[b6,e2,lT]; exact c1,b4,by rw[b5,e1,tk.o.n]; exact h.now,by rw[b6,e2,lT]; exact h.len,by show 0<=left-UY W c left; omega,by show left-UY W c left<=100; omega,by
   rw[d] at b7;show left-UY W c left+((LL (Qg (PO (X5 W c).1 c (Qu W c) (UY W c left))) c:Nat):Int)<_;omega,Qo⟩
 ·rw[C' ht];have ht:(X5 W c).2=false:=by simpa using ht
  obtain⟨g,hg,IT⟩:=tf ht;have g0:=Q5.1 (pin g hg);have cJ:=h.sw.a.gl
  have hp1:LL (X5 W c).1 c<LL W c:=by
   refine zqv (λk _=>tk.p (k:Int) Qo) (j:=g.toNat) ?_ 8 Qo (I8 _);rw[show ((g.toNat:Nat):Int)=g by omega];exact IT
  have ce:c<((X5 W c).1.IE.length:Int):=by rw[lT]; exact c1
  have sE:=tk.sw.RD c0 ce;have eE:gi (RD (X5 W c).1 c).IE c=J1 (gi (X5 W c).1.IE c):=(QI _ _ c0 ce c0).trans (E' rfl);have lE:(RD (X5 W c).1 c).IE.length=(X5 W c).1.IE.length:=H';obtain⟨b1,b2,b3,b4,b5,b6,b7⟩:=zds sE (rT.sum (zrd _ c) (Z6.refl _) lE) Qo c0 (by rw[lE]; exact ce) (by rw[eE]; exact upT)
  exact⟨b1.mono (by simp only[Qi,UZ]; omega),b2.mono Qo,b3,c0,by rw[b6,lE]; exact ce,b4,by rw[b5]; show (X5 W c).1.now=_; rw[tk.o.n]; exact h.now,by rw[b6,lE,lT]; exact h.len,h.l0,h.l1,by
   have b7:LL (Qg (RD (X5 W c).1 c)) c<=LL (X5 W c).1 c:=b7;show left+((LL (Qg (RD (X5 W c).1 c)) c:Nat):Int)<_;omega,Qo⟩
theorem z0g{b:Js}{c:Int}(c0:0<=c)(c1:c<(b.locals.length:Int)):ZE b ⟨1,c,0⟩=Y5 b c:=by
 unfold ZE;rw[C' (show ¬(1:Int)=4 by decide),C' (by rw[Qt.2 (by show 0<=c/\c<=_; omega)]; decide),E' rfl]
theorem zjh{α:Type}[Inhabited α]{l:List α}{k:Nat}(h:k<l.length):l.drop k=gi l (k:Int)::l.drop (k+1):=by
 rw[List.drop_eq_getElem_cons h]
 congr 1
 unfold gi;rw[Ih,List.getD_eq_getElem?_getD,Im h]; rfl
theorem zji{α:Type}[Inhabited α]{l:List α}{k:Nat}(h:k<l.length):gi l (k:Int)∈l:=by
 have:=List.getElem_mem h;unfold gi;rw[Ih,List.getD_eq_getElem?_getD,Im h]; exact this
theorem zm0{c g:Int}{l:List Int}{W:Q7}:zib c (g::l) W=if (z8 W c g).2=true then zib c l (z8 W c g).1 else ((z8 W c g).1,false):=rfl
section
variable {base:Nat}{W:Q7}{m:MW}{w:Wo}
theorem Mj{pb n:Nat}{l:List Int}{pO:OA}{pC:Nat}{w2:Wo}{bs:List Nat}{V:Q7}{m2:MW}(hp:Ud Jd 1 Qb pb w pO pC l)(hpn:∀x∈QD pO,x∉QC n m)(hM:Mv n base bs w m w2 V m2):Ud Jd 1 Qb pb w2 pO pC l/\znf bs w2 pO l:=by
 have h:=hp.ext hM.ext hpn
 exact⟨h,h.rd Y3.len λx hx hm=>by
  have:=(hp.lt x hx).2;have:=hM.new x hm;omega⟩
theorem Mv.put{n:Nat}{bs:List Nat}{w0 w w':Wo}{m0:MW}{b:Nat}(h:Mv n base bs w0 m0 w W m)(hx:Q0 bs w w')(hb:w.heap.size<=b):Mv n base (bs++[b]) w0 m0 w' W m:=(h.add hb).step (hx.mono λx hm=>Ib _ hm)
theorem zf1{K c:Int}{l:List Int}{pO:OA}{pC pb:Nat}(h:Zj 8 base w W m)(sw:SW K W)(tN:base<=w.heap.size)(hp:Ud Jd 1 Qb pb w pO pC l)(hpn:∀x∈QD pO,x∉QC 8 m)(hl4:l.length<=4)(c0:0<=c)(c1:c<(W.IE.length:Int))(hu:∀g∈l,Q6 W.ID g=true)(hd:∀g∈l,(gi W.ID g).IN.IY≠0->gi (gi W.ID g).IN.Ry c=false) :
  Cz M6 #[.agg (Qa W m).toArray,.slice pO l.length pC,I c] w λe w'=>∃m',e=.returned (.tuple #[.agg (Qa W m).toArray,.bool (zib c l W).2])/\Mv 8 base [] w m w' (zib c l W).1 m':=by
 refine(zfi _ _ _ _ _ _ _ _ _ _ pO l.length pC c (R:=λv w'=>∃m',v=.tuple #[.agg (Qa W m).toArray,.bool (zib c l W).2]/\Mv 8 base [] w m w' (zib c l W).1 m') ?_).mono λe w' ⟨v,he,m',hv,h3⟩=>⟨m',by rw[he,hv],h3⟩
 intro x hx x1 S4;have cJ:=sw.a.gl;have pQ:=Yw hx S4
 refine⟨λvs w2=>∃(k:Nat) (r:List Va) (V:Q7) (m2:MW),vs=I (k:Int)::r/\k<=l.length/\Mv 8 base [x,x1] w m w2 V m2/\zib c l W=zib c (l.drop k) V/\SW K V/\VZ W V/\∀g∈l.drop k,(gi V.ID g).IN.IY≠0->gi (gi V.ID g).IN.Ry c=false,
  Zs l.length 0,λwr Ra _=>⟨0,_,W,m,rfl,Ie _,(Mv.two h hx S4).R6 Ra,rfl,sw,VZ.refl _,hd⟩,?_⟩
 rintro i1 ll Sd Sn Sr Sj Sp Sq Sf Sg Si w2 Wc ⟨k,r,V,m2,he,hk,WN,hE,swV,oV,hdV⟩;simp only[I5,I6,true_and] at he;obtain⟨rfl,_⟩:=he;have hmg:m2.gO=m.gO:=by rw[WN.hd]
 have hr:=WN.rd;have CM4:V.ID.length=8:=swV.a.gl;obtain⟨_,hpr⟩:=Mj hp hpn WN;refine⟨λIT=>?_,λRN=>?_⟩
 ·have Cc8:=Ot IT;have IT:k<l.length:=Qo;have hdr:=zjh IT;have lM:=hu _ (zji IT);rw[hdr] at hE hdV;have hug:Q6 V.ID (gi l (k:Int))=true:=by rw[oV.g.eO]; exact lM
  have pM:=hpr (k:Int) Qo Qo;have AH4:=hpr.ix Jy (i:=(k:Int)) Qo Qo;have hdk:=hdV _ Ia;generalize tD:gi l (k:Int)=g at hE hdV hug pM hdk lM hdr;obtain⟨u0,u1,hgg⟩:=swV.a.u hug;have RM:g<(V.ID.length:Int):=Qo;have Wg:Ix m.gO W.ID.length g:=by have:=hr.g.ix (i:=g) u0 RM; rwa[CM4,<-cJ,hmg] at this
  have AM9:=hr.g.cells g u0 RM;rw[hmg] at AM9;refine⟨AH4,g,pM,Wg,_,_,_,_,_,_,_,_,_,_,_,_,_,_,_,_,_,_,_,_,AM9,λb4 hb4=>⟨AM9,pM,rfl,λg1=>?_,λg1=>?_⟩⟩
  ·have g1:(gi V.ID g).IN.IY=0:=by simpa using g1
   have hT:z8 V c g=(V,true):=by unfold z8; rw[E' g1]
   rw[zm0,hT,E' rfl] at hE;exact⟨⟨Qo,Qo⟩,λwr Ra _=>⟨⟨k+1,_,V,m2,by simp; rfl,Qo,WN.step Ra,hE,swV,oV,λy hy=>hdV y (I2 _ hy)⟩,Zc (k:=k) rfl rfl IT⟩⟩
  ·have g1:(gi V.ID g).IN.IY≠0:=by simpa using g1
   obtain⟨hb,hbl,_⟩:=hgg.IN g1;have BR4:c<(V.IE.length:Int):=by rw[oV.c]; exact c1
   have sK:c<((gi V.ID g).IN.locals.length:Int):=Qo;intro Ru Ra eM;have iT:=WN.put Ra hb4;have hr4:=iT.rd0;refine I4 (JR (op:=⟨1,c,0⟩) hb (hr4.g.locals g u0 RM) (hr4.g.Ry g u0 RM)) ?_;rintro e Rr ⟨p,he,hO,hy⟩;rw[z0g c0 sK] at he hO;have hM5:=iT.R6 hy;have hbs:base<=Ru.heap.size:=by have:=iT.ext.size; omega
   have hOb:∀y∈ZI p,Ru.heap.size<=y:=λy hy=>(hO.lt y hy).1
   have BS5:=hM5.own.B97 (i:=g) u0 Qo (hO.mono hbs) (λy hy hm=>by have:=hOb y hy; have:=(iT.own.lt y hm).2; omega);have vR:=zd7 hM5.own hM5.nb (i:=g) u0 Qo (j:=8) (k:=5) Qd;have nH:=iT.ext.size
   have hM6:=hM5.swap BS5 FV rfl λy hy=>by
    rcases Oq y hy with h1 | h1
    ·exact .inl h1
    ·rcases On y h1 with h2 | h2
     ·have:=hOb y h2;exact .inr ⟨Qo,λhm=>by have:=eM y hm; omega⟩
     ·exact .inl (J2 Qo h2)
   rw[hmg] at vR;have hgO:m2.gO=m.gO:=hmg;rw[hgO] at hM6;obtain⟨_,C32⟩:=Mj hp hpn hM5;have Cd9:=C32 (k:Int) Qo Qo;rw[tD] at Cd9;have hTk:z8 V c g=(RP V g (Y5 (gi V.ID g).IN c).1,decide ((Y5 (gi V.ID g).IN c).2≠2)):=by unfold z8; rw[C' g1]
   obtain⟨tk,t2,_⟩:=zwx swV c0 BR4 hug hdk;rw[zm0] at hE;refine⟨_,_,_,_,_,_,_,_,_,_,he,Qe hy eM,λb5 hb5=>⟨AH4,g,Cd9,Wg,vR,λg2 Sh bJ=>?_,λg2=>⟨⟨Qo,Qo⟩,λSh bJ hs6=>⟨⟨k+1,_,RP V g (Y5 (gi V.ID g).IN c).1,_,by simp; rfl,Qo,(hM6.step bJ).BW4 Qs,?_,?_,?_,λy hy hq=>?_⟩,Zc (k:=k) rfl rfl IT⟩⟩⟩⟩
   ·have g2:(Y5 (gi V.ID g).IN c).2=2:=by simpa using g2
    have:(z8 V c g).2=false:=by rw[hTk]; simp[g2]
    rw[hE,this,C' Qd,hTk];exact⟨_,rfl,(hM6.step bJ).close⟩
   all_goals
    have g2:(Y5 (gi V.ID g).IN c).2≠2:=by simpa using g2
    have ht2:(z8 V c g).2=true:=by rw[hTk]; simp[g2]
    have hT1:(z8 V c g).1=RP V g (Y5 (gi V.ID g).IN c).1:=by rw[hTk]
   ·rw[hE,E' ht2,hT1]
   ·rw[<-hT1]; exact tk.sw
   ·rw[<-hT1]; exact oV.trans tk.o
   ·have y0:=(Q5.1 (hu y (List.mem_of_mem_drop hy))).1;rw[<-hT1] at hq ⊢;rw[tk.q y y0] at hq;exact(t2 ht2).2 y y0 (hdV y (I2 _ hy)) hq
 ·have RN:=Ou RN;have vP:k=l.length:=Qo;subst vP;rw[List.drop_length] at hE;rw[hE];exact λw3 Ra=>⟨m2,rfl,(WN.step Ra).close⟩
theorem zfy{c n:Int}{l:List Int}{pO:OA}{pC:Nat}{bs:List Nat}(h:Xl bs w W m)(ha:WA W)(hp:znf bs w pO l)(hl4:l.length<=4)(c0:0<=c)(c1:c<(W.IE.length:Int))(hu:∀g∈l,Q6 W.ID g=true) :
  PX bs M4 #[.agg (Qa W m).toArray,.slice pO l.length pC,I c,I n] w (I (zcw W c l n)):=
 zgn _ _ _ _ _ _ _ _ _ _ pO l.length pC c n λwr hx=>by
  have h:=(h.ext hx).less (cs:=[]) Qs;have hp:=(hp.ext hx).less (cs:=[]) Qs;intro _ _;refine P3 l.length 0 rfl (λy k=>k<=l.length/\zcw W c l n=zcw W c (l.drop k) y) ⟨Ie _,rfl⟩ λy k ⟨hk,hy⟩=>⟨λIT=>?_,λRN=>?_⟩
  ·have Cc8:=Ot IT;have IT:k<l.length:=Qo;have hdr:=zjh IT;have lM:=hu _ (zji IT);rw[hdr] at hy;have pM:=hp (k:Int) Qo Qo;generalize gi l (k:Int)=g at hy pM lM;obtain⟨u0,u1,hgg⟩:=ha.u lM;have cJ:=ha.gl;have hyy:zcw W c (g::l.drop (k+1)) y=zcw W c (l.drop (k+1)) (zl4 W c g y):=rfl;rw[hyy] at hy;refine⟨hp.ix Jy (i:=(k:Int)) Qo Qo,g,pM,h.g.ix u0 Qo,_,_,_,_,_,_,_,_,_,h.g.IN u0 Qo,λb1 fD=>⟨h.g.IN u0 Qo,pM,rfl,λg1=>?_,λg1=>?_⟩⟩
   ·have g1:=Ot g1;obtain⟨hb,hbl,_⟩:=hgg.IN Qo;have hLo:=h.g.locals g u0 Qo;refine⟨hLo.ix Jy c0 Qo,_,hLo c c0 Qo,_,JF,⟨Qo,Qo⟩,QK Qo ⟨Qo,?_⟩⟩;rw[hy]; unfold zl4; rw[E' g1]
   ·have g1:=Ou g1;refine⟨⟨Qo,Qo⟩,QK Qo ⟨Qo,?_⟩⟩;rw[hy]; unfold zl4; rw[C' g1]
  ·have RN:=Ou RN;have:k=l.length:=Qo;subst this;rw[List.drop_length] at hy;show I y=_;rw[hy]; rfl
end
theorem zk2{c n g:Int}{l:List Int}{W:Q7}:zi0 c n (g::l) W=zi0 c n l (zbb W c n g):=rfl
theorem Hd(W:Q7)(c n g:Int):(G8 W c n g).ID.length=W.ID.length:=by simp[G8,Rz,Re]
theorem znn{W:Q7}{c n g:Int}(u0:0<=g)(u1:g<(W.ID.length:Int)):gi (G8 W c n g).ID g={ gi W.ID g with IF:=(gi W.ID g).IF.set c.toNat (CX W c n g) }:=by
 unfold G8 Rz;rw[Yv u0 u1 u0,E' rfl]
theorem znp{W:Q7}{c n g:Int}(u0:0<=g)(u1:g<(W.ID.length:Int)):gi (Re (G8 W c n g) g (NQ W c n g)).ID g=NQ W c n g:=by
 rw[Yv u0 (by rw[Hd]; exact u1) u0,E' rfl]
theorem zbc{W:Q7}{c n g:Int}(u0:0<=g)(u1:g<(W.ID.length:Int)):(NQ W c n g).IN=(gi W.ID g).IN:=by
 unfold NQ;rw[znn u0 u1]
theorem zk1{W:Q7}{c n g:Int}(u0:0<=g)(u1:g<(W.ID.length:Int))(h:¬(gi W.ID g).IN.IY>0):zbb W c n g=Re (G8 W c n g) g (NQ W c n g):=by
 unfold zbb zg3;rw[C' h,<-zbc (c:=c) (n:=n) u0 u1];have:=znp (c:=c) (n:=n) u0 u1
 conv=>lhs; arg 3; rw[<-this]
 exact zdr u0 (by simp only[Re,H']; rw[Hd]; exact u1)
section
variable {base:Nat}{W:Q7}{m:MW}{w:Wo}
theorem Cq{K S t c n:Int}{pO:OA}{pC pb:Nat}(h:Zj 8 base w W m)(tN:base<=w.heap.size)(hp:Ud Jd 1 Qb pb w pO pC (YX W t))(hpn:∀x∈QD pO,x∉QC 8 m)(sw:SW K W)(rb:RB S W)(hK:0<=K/\K<=60000000000000000)(hS:0<=S/\S<=60000000000000000)(c0:0<=c)(c1:c<(W.IE.length:Int))(up:(gi W.IE c).up=true)(aA:(gi W.IE c).aA<50)(t0:0<=t)(t1:t<12)(hu:Q6 W.ID (Q8 W t).group=true)(n0:0<=n)(n1:n<=100) :
  Cz Of #[.agg (Qa W m).toArray,I t,.slice pO (YX W t).length pC,I c,I n] w λe w'=>∃m',e=.returned (.agg (Qa (Qg (PO W c t n)) m').toArray)/\Mv 8 base [] w m w' (Qg (PO W c t n)) m':=by
 obtain⟨sE,rE,_,_,hlE,_,s1,r1,cp1⟩:=zi1 sw rb Qo c0 c1 up aA t0 t1 hu n0 n1;obtain⟨pin,CQ2⟩:=y8 sw.a hu;refine(C5 _ _ _ _ _ _ _ _ _ _ t pO (YX W t).length pC c n (R:=λv w'=>∃m',v=.agg (Qa (Qg (PO W c t n)) m').toArray/\Mv 8 base [] w m w' (Qg (PO W c t n)) m') ?_).mono λe w' ⟨v,he,m',hv,h3⟩=>⟨m',by rw[he,hv],h3⟩
 intro x hx x1 S4;have cJ:=sw.a.gl;have kG:=sw.a.t;have hlg:Qi=34686091440:=rfl;have bU:=h.rd (bs:=[]) Qs;have Wg:=bU.t.ix QM t0 Qo;have htv:=sw.tv t t0 t1;have htr:=rb.t t t0 t1;have hv:=Ht n (Qf (Q8 W t).nice) n0 n1;refine⟨Wg,_,_,_,_,_,_,_,_,_,bU.t t t0 Qo,λx2 R3=>⟨_,ZP,_,Xo,⟨?_,?_⟩,⟨?_,?_⟩,⟨?_,?_⟩,Wg,zgv h Qs t0 Qo (j:=0) Qd,?_⟩⟩
 ·show _<=(Q8 W t).v+Zf n (Qf (Q8 W t).nice); omega
 ·show (Q8 W t).v+Zf n (Qf (Q8 W t).nice)<=_; omega
 ·show _<=(Q8 W t).sum+n; omega
 ·show (Q8 W t).sum+n<=_; omega
 ·show _<=(Q8 W t).used+n; omega
 ·show (Q8 W t).used+n<=_; omega
 have eT:Zj 8 base (R8 w m.tO (Int.toNat t*9) (Xa (G9 W t n))) (IU W t (G9 W t n)) m:=h.vV t0 Qo (j:=0) (vs:=Xa (G9 W t n)) (x:=G9 W t n) (by simp[Xa]) (by simp[Xa]);have hM1:Mv 8 base [x,x1,x2] w m (R8 w m.tO (Int.toNat t*9) (Xa (G9 W t n))) (IU W t (G9 W t n)) m:=((Mv.two h hx S4).add R3).SA eT L8
 refine⟨λvs w2=>∃(k:Nat) (V:Q7) (m2:MW),vs=[I (k:Int)]/\k<=(YX W t).length/\Mv 8 base [x,x1,x2] w m w2 V m2/\zi0 c n (YX W t) (IU W t (G9 W t n))=zi0 c n ((YX W t).drop k) V/\zw6 (K+Qi+Qi*(k:Int)) (S+100+100*(k:Int)) c n (IU W t (G9 W t n)) V,
  Zs (YX W t).length 0,λwr Ra _=>⟨0,_,m,rfl,Ie _,hM1.R6 Ra,rfl,⟨s1.mono Qs,r1.mono Qs,rfl,rfl,rfl,Z6.refl _,λ_ _=>rfl⟩⟩,?_⟩
 rintro i1 w2 Wc ⟨k,V,m2,he,hk,WN,hE,hC⟩;simp only[I5,I6,true_and,and_true] at he;subst he;have hkk:0<=Qi*(k:Int)/\Qi*(k:Int)<=138744365760:=by simp only[Qi]; omega
 have hk1:Qi*((k+1:Nat):Int)=Qi*(k:Int)+Qi:=by simp only[Qi]; omega
 have hmg:m2.gO=m.gO:=by rw[WN.hd]
 have hmc:m2.cO=m.cO:=by rw[WN.hd]
 have hr:=WN.rd;have CM4:V.ID.length=8:=hC.sw.a.gl;have BR4:V.IE.length=W.IE.length:=by rw[hC.cp]; rfl
 obtain⟨_,hpr⟩:=Mj hp hpn WN;refine⟨λIT=>?_,λRN=>?_⟩
 ·have Cc8:=Ot IT;have IT:k<(YX W t).length:=Qo;have hdr:=zjh IT;have lM:=pin _ (zji IT);rw[hdr,zk2] at hE;have hug:Q6 V.ID (gi (YX W t) (k:Int))=true:=by rw[hC.g.eO]; exact lM
  have pM:=hpr (k:Int) Qo Qo;have AH4:=hpr.ix Jy (i:=(k:Int)) Qo Qo;generalize tD:gi (YX W t) (k:Int)=g at hE hug pM lM hdr;have hC2:=hC.trans (zno hC.sw hC.rb Qo c0 (by rw[BR4]; exact c1) hug n0 n1);have hC3:zw6 (K+Qi+Qi*((k+1:Nat):Int)) (S+100+100*((k+1:Nat):Int)) c n (IU W t (G9 W t n)) (zbb V c n g):=⟨hC2.sw.mono Qo,hC2.rb.mono Qo,hC2.now,hC2.t,hC2.cp,hC2.g,hC2.p⟩;obtain⟨u0,u1,hgg⟩:=hC.sw.a.u hug;have RM:g<(V.ID.length:Int):=Qo;have hsl:=hC.sw.a.sl hug;have hcs:c<((gi V.ID g).IF.length:Int):=Qo;have BS0:Ix m.gO W.ID.length g:=by have:=hr.g.ix (i:=g) u0 RM; rwa[CM4,<-cJ,hmg] at this
  have AM9:=hr.g.cells g u0 RM;rw[hmg] at AM9;have wD:=hr.g.IF g u0 RM;have hsc:=wD c c0 hcs;have CM7:=wD.ix ZZ c0 hcs;have hsv:=hC.sw.s g c hug c0 (by rw[BR4]; exact c1);have hsr:=hC.rb.s g c hug c0 (by rw[BR4]; exact c1);have hgr:=hC.rb.g g hug;have hv2:=Ht n (Qc V g c).w n0 n1;refine⟨AH4,g,pM,BS0,_,_,_,_,_,_,_,_,_,_,_,_,_,_,_,_,_,_,_,_,AM9,λb3 hb3=>⟨AM9,pM,rfl,CM7,_,_,_,_,_,hsc,λb4 hb4=>⟨AH4,g,pM,?_⟩⟩⟩
  have eA:∀s:KL,s=CX V c n g->Zj 8 base (R8 w2 (m2.ms g.toNat).sO (Int.toNat c*5) (PS s)) (G8 V c n g) m2:=λs hs=>by
   subst hs;exact WN.own.BI3 u0 Qo c0 hcs (j:=0) (vs:=PS (CX V c n g)) (x:=CX V c n g) (by simp[PS]) (by simp[PS])
  have Cg4:=zzl WN.own WN.nb (i:=g) u0 Qo c0 hcs (j:=0) (k:=5) Qd;have CO3:=hr.g.RE (i:=g) u0 RM;rw[hmg] at CO3;refine⟨λg1=>?_,λg1=>?_⟩
  ·have g1:g≠0:=by simpa using g1
   have hs:(⟨(Qc V g c).floor,(Qc V g c).on,(Qc V g c).v+Zf n (Qc V g c).w,(Qc V g c).w,(Qc V g c).sum+n⟩:KL)=CX V c n g:=by unfold CX; rw[E' g1]
   have eA:=eA _ hs;refine⟨_,Xo,⟨?_,?_⟩,⟨?_,?_⟩,AH4,g,pM,BS0,_,_,_,CO3,CM7,Cg4,AH4,g,?_,⟨?_,?_⟩,BS0,?_,?_⟩
   ·show _<=(Qc V g c).v+Zf n (Qc V g c).w; omega
   ·show (Qc V g c).v+Zf n (Qc V g c).w<=_; omega
   ·show _<=(Qc V g c).sum+n; omega
   ·show (Qc V g c).sum+n<=_; omega
   ·have:=(Mj hp hpn (WN.SA eA (NF Qo))).2 (k:Int) Qo Qo;rw[tD] at this;exact this
   ·show _<=(gi V.ID g).sum+n; omega
   ·show (gi V.ID g).sum+n<=_; omega
   ·have:=zd7 eA WN.nb (i:=g) u0 Qo (j:=7) (k:=1) Qd;rw[hmg] at this;exact this
   have hZ:=((WN.add hb3).add hb4).SA eA (NF Qo);have eU:=eA.An0 (i:=g) u0 Qo (g:=NQ V c n g) rfl rfl rfl (j:=7) (vs:=[I ((gi V.ID g).sum+n)]) (by unfold NQ; rw[znn u0 RM]; rfl) Qs;have iT:=hZ.SA eU FV;rw[hmg] at iT;have iT:Mv 8 base [x,x1,x2,b3,b4] w m _ (Re (G8 V c n g) g (NQ V c n g)) m2:=iT;have hgb:=zbc (c:=c) (n:=n) u0 RM;have hgi:=znp (c:=c) (n:=n) u0 RM;have hl5:(Re (G8 V c n g) g (NQ V c n g)).ID.length=V.ID.length:=by simp only[Re,H']; exact Hd _ _ _ _
   have AS9:=zk1 (c:=c) (n:=n) u0 RM;have Wf:zbb V c n g=RP (Re (G8 V c n g) g (NQ V c n g)) g (zg3 V c n g):=rfl;generalize Re (G8 V c n g) g (NQ V c n g)=V5 at iT hgi hl5 AS9 Wf;refine⟨λg2 J' Ra fX=>?_,λg2=>⟨⟨Qo,Qo⟩,λJ' Ra _=>⟨⟨k+1,zbb V c n g,m2,Qs,Qo,?_,hE,hC3⟩,Zc (k:=k) rfl rfl IT⟩⟩⟩
   ·have g2:(gi V.ID g).IN.IY>0:=Ot g2;have hB:zg3 V c n g=(ZE (gi V.ID g).IN ⟨2,c,n⟩).1:=by unfold zg3; rw[E' g2]
    rw[hB] at Wf;obtain⟨hb,hbl,_⟩:=hgg.IN Qo;have hM6:Mv 8 base [x,x1,x2,b3,b4] w m J' V5 m2:=iT.step (Ra.mono λy hy=>by simp only[Ij,List.not_mem_nil,or_false] at hy ⊢; rcases hy with h | h | h <;> simp[h]);have hr6:=hM6.rd0;have hg5:g<(V5.ID.length:Int):=by rw[hl5]; exact RM
    have hLo:=hr6.g.locals g u0 hg5;have hDo:=hr6.g.Ry g u0 hg5;rw[hgi,hgb] at hLo hDo;refine I4 (JR (op:=⟨2,c,n⟩) hb hLo hDo) ?_;rintro e Rr ⟨p,he,hO,hy⟩;have wH:=hM6.R6 hy;have hbs:base<=J'.heap.size:=by have:=hM6.ext.size; omega
    have hOb:∀y∈ZI p,J'.heap.size<=y:=λy hy=>(hO.lt y hy).1
    have BS5:=wH.own.B97 (i:=g) u0 Qo (hO.mono hbs) (λy hy hm=>by have:=hOb y hy; have:=(hM6.own.lt y hm).2; omega);have vR:=zd7 wH.own wH.nb (i:=g) u0 Qo (j:=8) (k:=5) Qd;have nH:=hM6.ext.size
    have hM8:=wH.swap BS5 FV rfl λy hy=>by
     rcases Oq y hy with h1 | h1
     ·exact .inl h1
     ·rcases On y h1 with h2 | h2
      ·have:=hOb y h2;exact .inr ⟨Qo,λhm=>by have:=fX y hm; omega⟩
      ·exact .inl (J2 Qo h2)
    rw[hmg] at vR hM8;rw[<-Wf] at hM8;have Bx0:=(Mj hp hpn wH).2 (k:Int) Qo Qo;rw[tD] at Bx0;exact⟨_,_,_,_,_,_,_,_,_,_,he,Qe hy fX,λb5 hb5=>⟨AH4,g,Bx0,BS0,vR,⟨Qo,Qo⟩,λSh bJ _=>⟨⟨k+1,zbb V c n g,_,Qs,Qo,(hM8.step bJ).BW4 Qs,hE,hC3⟩,Zc (k:=k) rfl rfl IT⟩⟩⟩
   ·have g2:¬(gi V.ID g).IN.IY>0:=Ou g2;rw[AS9 g2];exact(iT.BW4 (cs:=[x,x1,x2]) (λy hy=>by simp only[Ij,List.not_mem_nil,or_false] at hy ⊢; rcases hy with h | h | h <;> simp[h])).step Ra
  ·have g1:¬g≠0:=by simpa using g1
   have hs:(⟨(Qc V g c).floor,(Qc V g c).on,(Qc V g c).v,(Qc V g c).w,(Qc V g c).sum+n⟩:KL)=CX V c n g:=by unfold CX; rw[C' g1]
   have eA:=eA _ hs;refine⟨⟨?_,?_⟩,AH4,g,pM,BS0,_,_,_,CO3,CM7,Cg4,AH4,g,?_,⟨?_,?_⟩,BS0,?_,?_⟩
   ·show _<=(Qc V g c).sum+n; omega
   ·show (Qc V g c).sum+n<=_; omega
   ·have:=(Mj hp hpn (WN.SA eA (NF Qo))).2 (k:Int) Qo Qo;rw[tD] at this;exact this
   ·show _<=(gi V.ID g).sum+n; omega
   ·show (gi V.ID g).sum+n<=_; omega
   ·have:=zd7 eA WN.nb (i:=g) u0 Qo (j:=7) (k:=1) Qd;rw[hmg] at this;exact this
   have hZ:=((WN.add hb3).add hb4).SA eA (NF Qo);have eU:=eA.An0 (i:=g) u0 Qo (g:=NQ V c n g) rfl rfl rfl (j:=7) (vs:=[I ((gi V.ID g).sum+n)]) (by unfold NQ; rw[znn u0 RM]; rfl) Qs;have iT:=hZ.SA eU FV;rw[hmg] at iT;have iT:Mv 8 base [x,x1,x2,b3,b4] w m _ (Re (G8 V c n g) g (NQ V c n g)) m2:=iT;have hgb:=zbc (c:=c) (n:=n) u0 RM;have hgi:=znp (c:=c) (n:=n) u0 RM;have hl5:(Re (G8 V c n g) g (NQ V c n g)).ID.length=V.ID.length:=by simp only[Re,H']; exact Hd _ _ _ _
   have AS9:=zk1 (c:=c) (n:=n) u0 RM;have Wf:zbb V c n g=RP (Re (G8 V c n g) g (NQ V c n g)) g (zg3 V c n g):=rfl;generalize Re (G8 V c n g) g (NQ V c n g)=V5 at iT hgi hl5 AS9 Wf;refine⟨λg2 J' Ra fX=>?_,λg2=>⟨⟨Qo,Qo⟩,λJ' Ra _=>⟨⟨k+1,zbb V c n g,m2,Qs,Qo,?_,hE,hC3⟩,Zc (k:=k) rfl rfl IT⟩⟩⟩
   ·have g2:(gi V.ID g).IN.IY>0:=Ot g2;have hB:zg3 V c n g=(ZE (gi V.ID g).IN ⟨2,c,n⟩).1:=by unfold zg3; rw[E' g2]
    rw[hB] at Wf;obtain⟨hb,hbl,_⟩:=hgg.IN Qo;have hM6:Mv 8 base [x,x1,x2,b3,b4] w m J' V5 m2:=iT.step (Ra.mono λy hy=>by simp only[Ij,List.not_mem_nil,or_false] at hy ⊢; rcases hy with h | h | h <;> simp[h]);have hr6:=hM6.rd0;have hg5:g<(V5.ID.length:Int):=by rw[hl5]; exact RM
    have hLo:=hr6.g.locals g u0 hg5;have hDo:=hr6.g.Ry g u0 hg5;rw[hgi,hgb] at hLo hDo;refine I4 (JR (op:=⟨2,c,n⟩) hb hLo hDo) ?_;rintro e Rr ⟨p,he,hO,hy⟩;have wH:=hM6.R6 hy;have hbs:base<=J'.heap.size:=by have:=hM6.ext.size; omega
    have hOb:∀y∈ZI p,J'.heap.size<=y:=λy hy=>(hO.lt y hy).1
    have BS5:=wH.own.B97 (i:=g) u0 Qo (hO.mono hbs) (λy hy hm=>by have:=hOb y hy; have:=(hM6.own.lt y hm).2; omega);have vR:=zd7 wH.own wH.nb (i:=g) u0 Qo (j:=8) (k:=5) Qd;have nH:=hM6.ext.size
    have hM8:=wH.swap BS5 FV rfl λy hy=>by
     rcases Oq y hy with h1 | h1
     ·exact .inl h1
     ·rcases On y h1 with h2 | h2
      ·have:=hOb y h2;exact .inr ⟨Qo,λhm=>by have:=fX y hm; omega⟩
      ·exact .inl (J2 Qo h2)
    rw[hmg] at vR hM8;rw[<-Wf] at hM8;have Bx0:=(Mj hp hpn wH).2 (k:Int) Qo Qo;rw[tD] at Bx0;exact⟨_,_,_,_,_,_,_,_,_,_,he,Qe hy fX,λb5 hb5=>⟨AH4,g,Bx0,BS0,vR,⟨Qo,Qo⟩,λSh bJ _=>⟨⟨k+1,zbb V c n g,_,Qs,Qo,(hM8.step bJ).BW4 Qs,hE,hC3⟩,Zc (k:=k) rfl rfl IT⟩⟩⟩
   ·have g2:¬(gi V.ID g).IN.IY>0:=Ou g2;rw[AS9 g2];exact(iT.BW4 (cs:=[x,x1,x2]) (λy hy=>by simp only[Ij,List.not_mem_nil,or_false] at hy ⊢; rcases hy with h | h | h <;> simp[h])).step Ra
 ·have RN:=Ou RN;have vP:k=(YX W t).length:=Qo;subst vP;rw[List.drop_length] at hE;have hE:zi0 c n (YX W t) (IU W t (G9 W t n))=V:=hE;have hcV:V.IE=W.IE:=hC.cp;have cV:c<(V.IE.length:Int):=by rw[BR4]; exact c1
  have AS8:Ix m.cO W.IE.length c:=by have:=hr.c.ix ZT c0 cV; rwa[BR4,hmc] at this
  have hcr:=rb.c c c0 c1;have e1:=WN.own.AX8 c0 cV (j:=3) (vs:=[I ((gi W.IE c).busy+n)]) (x:={ gi W.IE c with busy:=(gi W.IE c).busy+n }) (by rw[hcV]; rfl) Qs;have nF:(V.IE.set c.toNat { gi W.IE c with busy:=(gi W.IE c).busy+n }).length=V.IE.length:=H';have hg1:gi (V.IE.set c.toNat { gi W.IE c with busy:=(gi W.IE c).busy+n }) c={ gi W.IE c with busy:=(gi W.IE c).busy+n }:=(QI _ _ c0 cV c0).trans (E' rfl);have e2:=e1.AX8 c0 (by simpa using cV) (j:=2) (vs:=[I ((gi W.IE c).aA+n)]) (x:=zpy W c n) (by rw[hg1]; rfl) Qs;have hb:=hr.c.f c0 cV (j:=3) rfl;have wK:=zpg WN.own WN.nb c0 cV (j:=3) (k:=1) Qd;have hZ:=WN.SA e1 NE;have hrn:=hZ.rd.c.f c0 (by show c<((V.IE.set c.toNat { gi W.IE c with busy:=(gi W.IE c).busy+n }).length:Int); rw[nF]; exact cV) (j:=2) rfl;have hw2:=zpg e1 WN.nb c0 (by show c<((V.IE.set c.toNat { gi W.IE c with busy:=(gi W.IE c).busy+n }).length:Int); rw[nF]; exact cV) (j:=2) (k:=1) Qd;rw[hmc] at hb wK hrn hw2;rw[hcV] at hb;rw[show gi ({ V with IE:=V.IE.set c.toNat { gi W.IE c with busy:=(gi W.IE c).busy+n } }:Q7).IE c=_ from hg1] at hrn;have iT:=hZ.SA e2 NE
  have hW4:({ V with IE:=(V.IE.set c.toNat { gi W.IE c with busy:=(gi W.IE c).busy+n }).set c.toNat (zpy W c n) }:Q7)=PO W c t n:=by
   unfold PO RX;rw[hE,List.set_set]
  rw[hmc] at iT;have iT:Mv 8 base [x,x1,x2] w m _ ({ V with IE:=(V.IE.set c.toNat { gi W.IE c with busy:=(gi W.IE c).busy+n }).set c.toNat (zpy W c n) }:Q7) m2:=iT;rw[hW4] at iT;refine⟨AS8,_,hb,⟨?_,?_⟩,AS8,wK,AS8,_,hrn,⟨?_,?_⟩,AS8,hw2,λSz nN hs7=>?_⟩
  ·show _<=(gi W.IE c).busy+n; omega
  ·show (gi W.IE c).busy+n<=_; omega
  ·show _<=(gi W.IE c).aA+n; omega
  ·show (gi W.IE c).aA+n<=_; omega
  have wH:=iT.step nN;have nH:=wH.ext.size;have Rt:=Qv wH.own sE Qo Qo Qo;rw[show Qa (PO W c t n) m2=Qa W m from wH.AO5 (by rw[show (PO W c t n).now=V.now from by rw[<-hW4]]; exact hC.now) hlE (by rw[<-hW4,show ({ V with IE:=(V.IE.set c.toNat { gi W.IE c with busy:=(gi W.IE c).busy+n }).set c.toNat (zpy W c n) }:Q7).tasks=V.tasks from rfl,hC.t]; simp[IU]) (by rw[<-hW4]; exact hC.g.len)] at Rt;refine I4 Rt ?_;rintro e wv ⟨m3,he,hy⟩;exact⟨_,_,_,_,_,_,_,_,_,_,he,wH.kept hy hs7,λW8 tG=>⟨m3,rfl,((wH.call hy hs7).step tG).close⟩⟩
end
theorem zof{Q:Nat->Prop}(h:∃f,Q f):∃f,Q f/\∀g,Q g->f<=g:=by
 obtain⟨f,hf⟩:=h
 induction f using Nat.strongRecOn with
 | ind f ih=>
  by_cases h:∃g,g<f/\Q g
  ·obtain⟨g,hg,hq⟩:=h;exact ih g hg hq
  ·exact⟨f,hf,λg hq=>Nat.le_of_not_lt λIT=>h ⟨g,IT,hq⟩⟩
open Classical in
noncomputable def zoe(Q:Nat->Prop):Nat:=if h:∃f,Q f then (zof h).choose else 0
theorem zsp{Q:Nat->Prop}(h:∃f,Q f):Q (zoe Q):=by
 unfold zoe;rw[dif_pos h];exact(zof h).choose_spec.1
theorem zyp{Q:Nat->Prop}{f:Nat}(h:Q f):zoe Q<=f:=by
 unfold zoe;rw[dif_pos ⟨f,h⟩];exact(zof ⟨f,h⟩).choose_spec.2 f h
noncomputable def FM(W:Q7)(c n:Int):Int:=if YJ n 1 100=false\/YQ W c=false then 1 else if (gi W.IE c).up=false then 6 else if QO W=false then 10 else 0
def zs6(W:Q7)(c n:Int):Q7:=zdn c 400 W n
theorem zmk{c:Int}{f:Nat}{W:Q7}{left:Int}(h:left<=0):zdn c (f+1) W left=Qg W:=by
 rw[zdn,E' h]
theorem zhv{c:Int}{f:Nat}{W:Q7}{left:Int}(h:¬left<=0)(hp:Qu W c<0):zdn c (f+1) W left=Qg (RD (RX W c (Gt W c left)) c):=by
 rw[zdn,C' h,E' hp]
theorem zhw{c:Int}{f:Nat}{W:Q7}{left:Int}(h:¬left<=0)(hp:¬Qu W c<0):zdn c (f+1) W left=zdn c f (FL W c left).1 (FL W c left).2:=by
 rw[zdn,C' h,C' hp]
theorem zwf{W:Q7}{c n:Int}(hW:Qy W=true)(hb:FM W c n=0):YJ n 1 100=true/\YQ W c=true/\(gi W.IE c).up=true/\QO W=true/\zea 400 c W W n:=by
 unfold FM at hb
 split at hb
 ·cases hb
 ·rename_i h1
  split at hb
  ·cases hb
  ·rename_i h2
   split at hb
   ·cases hb
   ·rename_i h3
    have h1a:YJ n 1 100=true:=by
     cases h:YJ n 1 100 with
     | true=>rfl
     | false=>exact Is (.inl h) h1
    have h1b:YQ W c=true:=by
     cases h:YQ W c with
     | true=>rfl
     | false=>exact Is (.inr h) h1
    have h2:(gi W.IE c).up=true:=by simpa using h2
    have h3:QO W=true:=by simpa using h3
    obtain⟨c0,c1⟩:=Uy h1b;have:=Qt.1 h1a;exact⟨h1a,h1b,h2,h3,zoy (Qj.1 hW) (Qj.1 h3) c0 c1 h2 Qo Qo⟩
theorem zwd{f:Nat}{c left:Int}{W0 W:Q7}(h:zea f c W0 W left):∃g,f=g+1:=by
 have h1:=h.f1;have h2:=h.l0;exact⟨f-1,Qo⟩
theorem zu0{f:Nat}{c left:Int}{W0 W:Q7}(h:zea f c W0 W left):SW (FN f) (RD (RX W c (Gt W c left)) c)/\SW (FN f) (RX W c (Gt W c left))/\0<=(gi W.IE c).idle+left/\(gi W.IE c).idle+left<=60000000000000000:=by
 have c0:=h.c0;have c1:=h.c1;have hcu:=h.sw.cu c c0 c1;have hl0:=h.l0;have nF:=h.l1;have hr:=h.rb.c c c0 c1;have s1:SW (FN f) (RX W c (Gt W c left)):=h.sw.RX c0 c1 (NM (c:=c) (by rw[H']; exact h.sw.a.c2) c0 (by rw[H']; exact c1) (by rw[show gi (W.IE.set c.toNat (Gt W c left)) c=Gt W c left from (QI _ _ c0 c1 c0).trans (E' rfl)]; exact h.up)) hcu.1 hcu.2;exact⟨s1.RD c0 (by show c<((W.IE.set c.toNat (Gt W c left)).length:Int); rw[H']; exact c1),s1,Qo,Qo⟩
section
variable {W:Q7}{m:MW}{w:Wo}
def zrm(y y1:Nat)(w0:Wo)(c n:Int)(W:Q7)(f:Nat)(vs:List Va)(w2:Wo):Prop:=
 ∃(V:Q7) (m2:MW) (left:Int),vs=I left::Qa V m2/\Wk 8 [y,y1] w0 w2 V m2/\zea f c W V left/\zdn c f V left=zs6 W c n
theorem Ci{c n:Int}(h:Xl [] w W m)(hl:Xz W) :
  Cz O8 #[.agg (Qa W m).toArray,I c,I n] w λe w'=>∃v,e=.returned v/\QP (YK W (FM W c n) (zs6 W c n)) w v w':=by
 refine AZ _ _ _ _ _ _ _ _ _ _ c n (R:=λv w'=>QP (YK W (FM W c n) (zs6 W c n)) w v w') ?_;intro y hy y1 cX;have hm0:=XF;have tR:=hl.c;refine⟨_,Ur h hl.c hl.t hl.g hl.f,λg wr hx=>QP.bad (by simpa using g) hx,λg wr R3 Wc=>?_⟩;have hW:Qy W=true:=by simpa using g
 have wp:=Qj.1 hW;refine I4 (PC (h.ext R3) wp.a) ?_;rintro e wv ⟨m',he,hM,SJ⟩;have hK:=Wk.begin hy cX R3 Wc hM SJ;have hr:=hK.rd;refine⟨_,_,_,_,_,_,_,_,_,_,he,Qe SJ Wc,_,Qr,λ_=>⟨Qo,Qo⟩,YQ W c,λ_=>Qr,λg J' Ra=>?_,λg=>?_⟩
 ·have hb:FM W c n=1:=by
   unfold FM; rw[E']
   simpa using g
  exact QP.no hW (by rw[hb]; decide) (hK.step Ra) hb
 have g:YJ n 1 100=true/\YQ W c=true:=by simpa using g
 have hn1:¬(YJ n 1 100=false\/YQ W c=false):=by rw[g.1,g.2]; simp
 obtain⟨c0,c1⟩:=Uy g.2;have hro:=Oj hr hl;refine⟨hr.c.ix ZT c0 c1,_,hr.c.f c0 c1 (j:=0) rfl,λg2 J' Ra=>?_,λg2=>⟨_,hro,λg3 J' Ra=>?_,λg3=>?_⟩⟩
 ·have hb:FM W c n=6:=by unfold FM; rw[C' hn1,E' (by simpa using g2)]
  exact QP.no hW (by rw[hb]; decide) (hK.step Ra) hb
 ·have g2:(gi W.IE c).up=true:=by simpa using g2
  have bU:¬QO W=true:=λhr=>by
   rw[show JI (J7 W/\Kg W)=true from Qj.2 ⟨wp,Qj.1 hr⟩] at g3;cases g3
  have hb:FM W c n=10:=by unfold FM; rw[C' hn1,C' (by rw[g2]; decide),E' (by simpa using bU)]
  exact QP.no hW (by rw[hb]; decide) (hK.step Ra) hb
 have g2:(gi W.IE c).up=true:=by simpa using g2
 have bU:QO W=true:=by
  have hd:JI (J7 W/\Kg W)=true:=by simpa using g3
  exact Qj.2 (Qj.1 hd).2
 have hb:FM W c n=0:=by unfold FM; rw[C' hn1,C' (by rw[g2]; decide),C' (by rw[bU]; decide)]
 obtain⟨_,_,_,_,hI0⟩:=zwf hW hb;refine⟨λvs _ w2=>∃(V:Q7) (m2:MW) (K:Int),vs=Qa V m2/\Wk 8 [y,y1] w w2 V m2/\SW K V/\0<=K/\K<=60000000000000000/\Qg V=zs6 W c n,?_,?_⟩
 ·refine⟨λvs w2=>∃f,zrm y y1 w c n W f vs w2,λvs w2=>zoe λf=>zrm y y1 w c n W f vs w2,λwr Ra _=>⟨400,W,m',n,rfl,hK.step Ra,hI0,rfl⟩,?_⟩;intro left l0 Sd Sn Sr Sj Sp Sq Sf Sg Si w2 fX hinv;obtain⟨f0,hf0⟩:∃f0,f0=zoe λf=>zrm y y1 w c n W f [I left,I l0,.slice Sd Sn Sr,.slice Sj Sp Sq,.slice Sf Sg Si] w2:=⟨_,rfl⟩
  have hS:=zsp hinv;simp only[<-hf0] at hS ⊢;clear hf0 hinv;obtain⟨V,m2,DF8,hv,gV,hI,hN⟩:=hS;simp only[Qa,I5,I6,Iw,true_and,and_true] at hv;obtain⟨rfl,rfl,⟨rfl,rfl,rfl⟩,⟨rfl,rfl,rfl⟩,rfl,rfl,rfl⟩:=hv;obtain⟨f,rfl⟩:=zwd hI;have Ba0:∀{vs:List Va} {w9:Wo},zrm y y1 w c n W f vs w9->(∃f,zrm y y1 w c n W f vs w9)/\(zoe λf=>zrm y y1 w c n W f vs w9)<f+1:=λhh=>⟨⟨f,hh⟩,Nat.lt_succ_of_le (zyp hh)⟩
  have uN:=gV.rd;have hf:=hI.f2;have hKu:=FO hf;have hSu:=zkd hf;have hh0:(0:Int)<=Qn:=Qd;have c1V:=hI.c1;have AS8:=uN.c.ix ZT c0 c1V;refine⟨λIT=>?_,λRN=>?_⟩
  ·have IT:=Ot IT;refine⟨_,zf0 uN hI.sw.a c0 c1V,λgp=>?_,λgp=>?_⟩
   ·have gp:=Ot gp;rw[zhv Qo gp] at hN;obtain⟨i1,i2,i3,i4⟩:=zu0 hI;have e1:Zj 8 w.heap.size _ (RX V c (Gt V c left)) m2:=gV.own.AX8 c0 c1V (j:=4) (vs:=[I ((gi V.IE c).idle+left)]) (x:=Gt V c left) rfl Qs;refine⟨AS8,_,uN.c.f c0 c1V (j:=4) rfl,⟨Qo,Qo⟩,AS8,zpg gV.own gV.nb c0 c1V (j:=4) Qd,λRC SZ eM=>?_⟩;have eQ:=(gV.R8 e1 NE).step SZ;have Rt:=ZA eQ.own c0 (by show c<((V.IE.set c.toNat (Gt V c left)).length:Int); rw[H']; exact c1V);rw[F4] at Rt;refine I4 Rt ?_;rintro e2 Rr ⟨aE,lB⟩;exact⟨_,_,_,_,_,_,_,_,_,_,aE,eQ.kept lB eM,λRQ Sw _=>⟨_,m2,_,rfl,(eQ.SA lB eM).step Sw,i1,Qo,Qo,hN⟩⟩
   ·have gp:=Ou gp;rw[zhw Qo gp] at hN;have hR:=zox hI IT gp;have t0:=hR.line.t0;have t1:=hR.line.t1;have kG:V.tasks.length=12:=hI.sw.a.t;refine⟨λ_ _ w3=>Wk 8 [y,y1] w w3 (X9 V c (Qu V c)) m2,?_,?_⟩
    ·refine⟨AS8,_,uN.c.f c0 c1V (j:=1) rfl,λ_=>AS8,_,λ_=>uN.c.f c0 c1V (j:=2) rfl,λg5=>?_,λg5 RC SZ _=>?_⟩
     ·have g5:Qu V c≠(gi V.IE c).cur\/(gi V.IE c).aA>=50:=by simpa using g5
      have hS:YE V c (Qu V c)={ gi V.IE c with cur:=Qu V c,aA:=0 }:=by unfold YE; rw[E' g5]
      have e1:=gV.own.AX8 c0 c1V (j:=1) (vs:=[I (Qu V c)]) (x:={ gi V.IE c with cur:=Qu V c }) rfl Qs;have nF:(V.IE.set c.toNat { gi V.IE c with cur:=Qu V c }).length=V.IE.length:=H';have hg1:gi (V.IE.set c.toNat { gi V.IE c with cur:=Qu V c }) c={ gi V.IE c with cur:=Qu V c }:=(QI _ _ c0 c1V c0).trans (E' rfl);have e2:=e1.AX8 c0 (by simpa using c1V) (j:=2) (vs:=[I 0]) (x:=YE V c (Qu V c)) (by rw[hg1,hS]; rfl) Qs
      have hW2:({ V with IE:=(V.IE.set c.toNat { gi V.IE c with cur:=Qu V c }).set c.toNat (YE V c (Qu V c)) }:Q7)=X9 V c (Qu V c):=by
       unfold X9 RX;rw[List.set_set]
      have oJ:=gV.R8 e1 NE;have eQ:Wk 8 [y,y1] w _ ({ V with IE:=(V.IE.set c.toNat { gi V.IE c with cur:=Qu V c }).set c.toNat (YE V c (Qu V c)) }:Q7) m2:=oJ.R8 e2 NE;rw[hW2] at eQ;exact⟨AS8,zpg gV.own gV.nb c0 c1V (j:=1) Qd,AS8,zpg e1 gV.nb c0 (by show c<((V.IE.set c.toNat { gi V.IE c with cur:=Qu V c }).length:Int); rw[nF]; exact c1V) (j:=2) Qd,λRC SZ _=>eQ.step SZ⟩
     ·have g5:¬(Qu V c≠(gi V.IE c).cur\/(gi V.IE c).aA>=50):=by simpa using g5
      have hS:X9 V c (Qu V c)=V:=by
       unfold X9 YE RX;rw[C' g5,zta c0 c1V]
      rw[hS];exact gV.step SZ
    ·intro WJ lV dR Sh bJ hs6;have tB:=dR.step bJ;have hcG:=Lp (t:=Qu V c) (tB.rd.less (cs:=[]) Qs) hR.s1.a.tree t0 (by show _<((V.tasks.length:Nat):Int); omega) hR.us;have ecp:Qa (X9 V c (Qu V c)) m2=Qa V m2:=F4 _ _ _ _;rw[ecp] at hcG;refine I4 hcG ?_;rintro e3 fI ⟨pO,pC,iP,hO,hy6⟩;have hO:Ud Jd 1 Qb Sh.heap.size fI pO pC (YX V (Qu V c)):=hO;have iP:e3=.returned (.slice pO (YX V (Qu V c)).length pC):=iP;have hK7:=tB.R6 hy6;refine⟨_,_,_,iP,Qe hy6 hs6,λW8 tG hs8=>?_⟩;have hK8:=hK7.step tG
     have CN5:∀z∈QD pO,z∉[y,y1]:=λz hz hm=>by
      have:=(hO.lt z hz).1;have:=hs6 z hm;omega
     have hO8:=hO.ext tG CN5
     have CN6:∀z∈QD pO,z∉QC 8 m2:=λz hz hm=>by
      have:=(hO.lt z hz).1;have:=(tB.own.lt z hm).2;omega
     have hcT:=zf1 hK8.own hR.s1 hK8.base hO8 CN6 hR.len c0 (by rw[(FU hI.sw hI.rb c0 c1V hI.up t0 t1).2.2.2.2.2]; exact c1V) hR.pin hR.dr;rw[ecp] at hcT;refine I4 hcT ?_;rintro e4 pH ⟨m3,he4,hy9⟩;have hK9:Wk 8 [y,y1] w pH (X5 V c).1 m3:=hK8.SA hy9 hs8;have hTk:zib c (YX V (Qu V c)) (X9 V c (Qu V c))=X5 V c:=rfl;rw[hTk] at he4 hy9;have hO9:=hO8.ext hy9.ext CN6
     have C31:∀z∈QD pO,z∉QC 8 m3:=λz hz hm=>by
      rcases hy9.sub z hm with h1 | h1
      ·exact CN6 z hz h1
      ·have:=(hO8.lt z hz).2;omega
     have eC:(X5 V c).1.IE=(X9 V c (Qu V c)).IE:=hR.tk.o.c;have lT:(X5 V c).1.IE.length=V.IE.length:=by rw[eC]; exact(FU hI.sw hI.rb c0 c1V hI.up t0 t1).2.2.2.2.2
     have cT:c<((X5 V c).1.IE.length:Int):=by rw[lT]; exact c1V
     have e9:Qa (X5 V c).1 m3=Qa V m2:=by
      rw[hy9.AO5 (W0:=X9 V c (Qu V c)) hR.tk.o.n (by rw[eC]) (by rw[hR.tk.o.t]) hR.tk.o.g.len];exact ecp
     have rT:RB (Nw (f+1)) (X5 V c).1:=hR.r1.sum hR.tk.su hR.tk.o.g (by rw[eC]);have eT:(X5 V c).1.tasks=V.tasks:=hR.tk.o.t;have eG:Z6 V.ID (X5 V c).1.ID:=hR.tk.o.g;have pT:YX (X5 V c).1 (Qu V c)=YX V (Qu V c):=zka eT eG _;have uT:Q6 (X5 V c).1.ID (Q8 (X5 V c).1 (Qu V c)).group=true:=by rw[eG.eO,Jp eT]; exact hR.us
     have upT:(gi (X5 V c).1.IE c).up=true:=by rw[eC]; exact(FU hI.sw hI.rb c0 c1V hI.up t0 t1).2.2.1
     have BW2:(gi (X5 V c).1.IE c).aA<50:=by rw[eC]; exact hR.aA
     have hnx:=hR.nx;refine⟨_,_,_,_,_,_,_,_,_,_,_,he4,hK8.kept hy9 hs8,λgt S9 AD0 oP=>?_,λgt=>?_⟩
     ·have gt:¬(X5 V c).2=true:=by simpa using gt
      have hRW:FL V c left=(Qg (RD (X5 V c).1 c),left):=by unfold FL; rw[C' gt]
      rw[hRW] at hnx hN;have AH0:=hK9.step AD0;have hcE:=ZA AH0.own c0 cT;rw[e9] at hcE;refine I4 hcE ?_;rintro e5 gT ⟨he5,Bj6⟩;refine⟨_,_,_,_,_,_,_,_,_,_,he5,AH0.kept Bj6 oP,λSv wL AT1=>?_⟩;have BC3:=(AH0.SA Bj6 oP).step wL;refine I4 (Qv BC3.own (hR.tk.sw.RD c0 cT) Qo Qo BC3.base) ?_;rintro e6 lH ⟨m4,he6,CP5⟩;generalize Qg (RD (X5 V c).1 c)=V9 at he6 CP5 hnx hN;exact⟨_,_,_,_,_,_,_,_,_,_,he6,BC3.kept CP5 AT1,λWj BS9 _=>Ba0 ⟨V9,m4,left,rfl,(BC3.SA CP5 AT1).step BS9,hnx,hN⟩⟩
     ·have gt:(X5 V c).2=true:=by simpa using gt
      have hRW:FL V c left=(Qg (PO (X5 V c).1 c (Qu V c) (UY V c left)),left-UY V c left):=by unfold FL; rw[E' gt]
      rw[hRW] at hnx hN;obtain⟨m1,m2'⟩:=hR.m gt;have nF:=hI.l1;have hcM:=zfy (n:=left) hK9.rd hR.tk.sw.a (hO9.rd Y3.len CN5) (pC:=pC) hR.len c0 cT (λz hz=>by rw[eG.eO]; exact hR.pin z hz);rw[e9] at hcM;refine⟨_,hcM,λS9 AD0 oP=>?_⟩;have AH0:=hK9.step AD0;have Cx3:Ud Jd 1 Qb Sh.heap.size S9 pO pC (YX (X5 V c).1 (Qu V c)):=by rw[pT]; exact hO9.ext AD0 CN5
      have hcC:=Cq (t:=Qu V c) (n:=UY V c left) AH0.own AH0.base Cx3 C31 hR.tk.sw rT ⟨Qo,Qo⟩ ⟨Qo,Qo⟩ c0 cT upT BW2 t0 t1 uT Qo Qo;rw[e9,pT] at hcC;refine I4 hcC ?_;rintro e7 gT ⟨m4,he7,Bj6⟩;generalize Qg (PO (X5 V c).1 c (Qu V c) (UY V c left))=V9 at he7 Bj6 hnx hN;exact⟨_,_,_,_,_,_,_,_,_,_,he7,AH0.kept Bj6 oP,⟨by show _<=left-UY V c left; omega,by show left-UY V c left<=_; omega⟩,λSv wL _=>Ba0 ⟨V9,m4,left-UY V c left,rfl,(AH0.SA Bj6 oP).step wL,hnx,hN⟩⟩
  ·have RN:=Ou RN;rw[zmk Qo] at hN;exact λRC SZ _=>⟨V,m2,_,rfl,gV.step SZ,hI.sw,Qo,Qo,hN⟩
 ·rintro a0 a1O a1L a1C a2O a2L a2C a3O a3L a3C w2 fX ⟨V,m2,K,hv,gV,sw,k0,k1,hN⟩ RC SZ eM;simp only[Qa,I5,I6,Iw,true_and,and_true] at hv;obtain⟨rfl,⟨rfl,rfl,rfl⟩,⟨rfl,rfl,rfl⟩,rfl,rfl,rfl⟩:=hv;have eQ:=gV.step SZ;refine I4 (Qv eQ.own sw k0 Qo eQ.base) ?_;rintro e3 S5 ⟨m3,iP,hy5⟩;rw[hN] at iP hy5;exact⟨_,_,_,_,_,_,_,_,_,_,iP,eQ.kept hy5 eM,λW8 tG=>QP.ok hW hb ((eQ.SA hy5 eM).step tG)⟩
end
def cO:Code->Code
 | .loop c=>c
 | c=>c
theorem zny{W:Q7}{g c:Int}(h:¬QW W g c<0):Zw W g c 20=true/\Z3 W g c 20=Zk W c (QW W g c).toNat:=by
 unfold Zw Z3;unfold QW at h ⊢;rw[C' h];exact⟨Ii Qo,rfl⟩
theorem zvv{W:Q7}(ha:WA W)(fl:z2z W){c:Int}(c0:0<=c)(c1:c<(W.IE.length:Int))(f:Nat):∀g:Int,Q6 W.ID g=true->(4-dep 3 W.ID g).toNat=f->(∀x∈Zb W.ID g,(Qc W x c).v<=(Qc W (gi W.ID x).parent c).floor)->0<=Kw W g c->
  (Q8 W (Kw W g c)).v<=(Qc W (Q8 W (Kw W g c)).group c).floor/\∀x∈Zb W.ID (Q8 W (Kw W g c)).group,(Qc W x c).v<=(Qc W (gi W.ID x).parent c).floor:=by
 induction f with
 | zero=>
  intro g hu hf;have:=Gd ha hu;omega
 | succ f ih=>
  intro g hu hf hp h;rw[Nd ha hu] at h ⊢
  by_cases h1:QW W g c<0
  ·rw[E' h1] at h; omega
  ·rw[C' h1] at h ⊢;obtain⟨b1,b2⟩:=zny h1;have rJ:=fl g c hu c0 c1 b1;rw[b2] at rJ
   by_cases h2:QW W g c<12
   ·rw[E' h2] at h ⊢
    have hm:Zp W g c (QW W g c).toNat=true:=by
     rcases Zt (Zp W g c) (Zk W c) 20 with ⟨a,_⟩ | ⟨_,_,a,_⟩
     ·unfold QW at h1; omega
     ·exact a
    rw[UX Qo] at hm;unfold OO at hm;rw[show (((QW W g c).toNat:Nat):Int)=QW W g c by omega] at hm;simp only[A',It] at hm;unfold Zk at rJ;rw[E' Qo,show (((QW W g c).toNat:Nat):Int)=QW W g c by omega] at rJ;rw[show (Q8 W (QW W g c)).group=g from hm.1.2];exact⟨rJ,hp⟩
   ·rw[C' h2] at h ⊢;obtain⟨k1,k2,k3,k4⟩:=Hf ha hu (g:=g) (c:=c) Qo
    have hm:Zp W g c (QW W g c).toNat=true:=by
     rcases Zt (Zp W g c) (Zk W c) 20 with ⟨a,_⟩ | ⟨_,_,a,_⟩
     ·unfold QW at h1; omega
     ·exact a
    rw[show (QW W g c).toNat=12+(QW W g c-12).toNat by omega,JZ] at hm;unfold J8 at hm;rw[show (((QW W g c-12).toNat:Nat):Int)=QW W g c-12 by omega] at hm;simp only[A',It] at hm;unfold Zk at rJ;rw[C' Qo,show (((QW W g c).toNat-12:Nat):Int)=QW W g c-12 by omega] at rJ;refine ih _ k1 Qo (λx hx=>?_) h;rw[YI ha.tree k1 k2] at hx;rcases Ij.1 hx with e | e
    ·rw[e,hm.1.2.2]; exact rJ
    ·rw[hm.1.2.2] at e; exact hp x e
structure z1z (W:Q7) (c t aA:Int):Prop where
 r0:0<=aA
 r1:aA<50
 t1:(Q8 W t).v-(Qc W (Q8 W t).group c).floor<=Zf aA (Qf (Q8 W t).nice)
 t2:(Qc W (Q8 W t).group c).floor<=(Q8 W t).v
 p1:∀x∈Zb W.ID (Q8 W t).group,(Qc W x c).v-(Qc W (gi W.ID x).parent c).floor<=Zf aA (Qc W x c).w
 p2:∀x∈Zb W.ID (Q8 W t).group,(Qc W (gi W.ID x).parent c).floor<=(Qc W x c).v
theorem zxj{W:Q7}(iv:JH W){c:Int}(c0:0<=c)(c1:c<(W.IE.length:Int))(hl:zpm W (Qu W c) c)(hp:¬Qu W c<0):z1z W c (Qu W c) (gi (X9 W c (Qu W c)).IE c).aA:=by
 have wp:=iv.wp;have p:=Xq wp;have h:=OC p hl.t0 hl.t1 (by rw[hl.st]; decide);have e:gi (X9 W c (Qu W c)).IE c=YE W c (Qu W c):=(QI _ _ c0 c1 c0).trans (E' rfl)
 have t2:(Qc W (Q8 W (Qu W c)).group c).floor<=(Q8 W (Qu W c)).v:=by
  have:=(h.f hl.st).1
  rwa[hl.M'] at this
 have p2:∀x∈Zb W.ID (Q8 W (Qu W c)).group,(Qc W (gi W.ID x).parent c).floor<=(Qc W x c).v:=λx hx=>by
  obtain⟨xu,xz⟩:=YO wp.a.tree _ h.g x hx;exact((p.s x c xu c0 c1).st xz (hl.on x hx)).1
 rw[e]
 by_cases hc:(gi W.IE c).cur>=0/\(gi W.IE c).aA<50
 ·have hpk:Qu W c=(gi W.IE c).cur:=by unfold Qu; rw[E' hc]
  have hs:YE W c (Qu W c)=gi W.IE c:=by
   unfold YE;rw[C'];rintro (h | h)
   ·exact h hpk
   ·omega
  rw[hs];have hy:=(p.c c c0 c1).yes hc.1;have hq:=(p.c c c0 c1).q hc.1 (by rw[<-hpk]; exact hl.st) (by rw[<-hpk]; exact hl.M');rw[<-hpk] at hq;exact⟨Qo,hc.2,hq.1,t2,λx hx=>(hq.2 x hx).2,p2⟩
 ·have hpk:Qu W c=Kw W 0 c:=by unfold Qu; rw[C' hc]
  have hs:(YE W c (Qu W c)).aA=0:=by
   unfold YE;rw[E']
   by_cases h0:(gi W.IE c).cur>=0
   ·exact .inr Qo
   ·exact .inl Qo
  rw[hs];have hn:=zvv wp.a iv.fl c0 c1 _ 0 wp.a.root rfl (λx hx=>by rw[show Zb W.ID 0=[] from Zq _ _] at hx; cases hx) (by rw[<-hpk]; omega);rw[<-hpk] at hn;have v0:∀w:Int,0<=Zf 0 w:=λw=>(H7 0 w).1
  refine⟨I3 _,Qd,?_,t2,λx hx=>?_,p2⟩
  ·have:=v0 (Qf (Q8 W (Qu W c)).nice);have:=hn.1;omega
  ·have:=v0 (Qc W x c).w;have:=hn.2 x hx;omega
theorem zv3{gs:List ZN}(ht:Yc gs):∀g:Int,Q6 gs g=true->∀x∈Zb gs g,dep 3 gs x<=dep 3 gs g:=
 Mi ht (λx hx=>by rw[show Zb gs 0=[] from Zq _ _] at hx; cases hx) λh hu hz ih x hx=>by
  rw[YI ht hu hz] at hx;rcases Ij.1 hx with e | e
  ·subst e; exact I3 _
  ·obtain⟨_,_,_,d,e1,e2,_⟩:=Yd ht hu hz;have:=ih x e;omega
theorem zy1{gs:List ZN}(ht:Yc gs):∀g:Int,Q6 gs g=true->(Zb gs g++[0]).Nodup:=
 Mi ht (by rw[show Zb gs 0=[] from Zq _ _]; simp) λh hu hz ih=>by
  rw[YI ht hu hz,List.cons_append,List.nodup_cons];refine⟨λhm=>?_,ih⟩;rcases Io.1 hm with hm | hm
  ·obtain⟨hp,_,_,d,e1,e2,_⟩:=Yd ht hu hz;have:=zv3 ht _ hp h hm;omega
  ·exact hz (IA.1 hm)
theorem zxn{W:Q7}{c n g:Int}(cJ:W.ID.length=8)(u0:0<=g)(u1:g<8)(c0:0<=c)(cs:c<((gi W.ID g).IF.length:Int))(i d:Int)(hi:0<=i)(hd:0<=d):Qc (zbb W c n g) i d=if g=i/\c=d then CX W c n g else Qc W i d:=by
 rw[<-Jo (W:=W) (s:=CX W c n g) u0 Qo c0 cs hi hd];have hl2:g<((G8 W c n g).ID.length:Int):=by rw[Hd]; omega
 have nF:g<((Re (G8 W c n g) g (NQ W c n g)).ID.length:Int):=by simp only[Re,H']; rw[Hd]; omega
 unfold Qc;show gi (gi (zbb W c n g).ID i).IF d=gi (gi (G8 W c n g).ID i).IF d;unfold zbb RP;rw[Yv u0 nF hi,Yv u0 hl2 hi,Yv u0 hl2 u0,E' rfl];split
 ·rename_i e;subst e;rfl
 ·rfl
theorem zxo{K S c n:Int}(c0:0<=c)(n0:0<=n)(n1:n<=100):∀(l:List Int) {W:Q7},l.Nodup->SW K W->RB S W->S+100*(l.length:Int)<=100000000000000000->c<(W.IE.length:Int)->(∀g∈l,Q6 W.ID g=true)->
  ∀i d:Int,0<=i->0<=d->Qc (zi0 c n l W) i d=if i∈l/\c=d then CX W c n i else Qc W i d:=by
 intro l
 induction l generalizing K S with
 | nil=>
  intro W _ _ _ _ _ _ i d _ _;rw[C' Qs]; rfl
 | cons g l ih=>
  intro W nd sw rb hS c1 hu i d hi hd;rw[List.length_cons] at hS;have hug:=hu g Ia;obtain⟨u0,u1,_⟩:=sw.a.u hug;have hsl:=sw.a.sl hug;have h1:=zno sw rb Qo c0 c1 hug n0 n1;obtain⟨hng,ndl⟩:=List.nodup_cons.1 nd;have e:=zxn (n:=n) sw.a.gl u0 u1 c0 Qo;rw[zk2,ih ndl h1.sw (h1.rb.mono (show S+n<=S+100 by omega)) Qo (by rw[h1.cp]; exact c1) (λx hx=>by rw[h1.g.eO]; exact hu x (I2 _ hx)) i d hi hd]
  by_cases hil:i∈l
  ·have hgi:g≠i:=λh=>hng (h▸hil)
   by_cases hcd:c=d
   ·rw[E' ⟨hil,hcd⟩,E' ⟨I2 _ hil,hcd⟩];unfold CX;rw[e i c hi c0,C' λh=>hgi h.1]
   ·rw[C' λh=>hcd h.2,C' λh=>hcd h.2,e i d hi hd,C' λh=>hcd h.2]
  ·rw[C' λh=>hil h.1,e i d hi hd]
   by_cases hgi:g=i
   ·subst hgi
    by_cases hcd:c=d
    ·rw[E' ⟨rfl,hcd⟩,E' ⟨Ia,hcd⟩]
    ·rw[C' λh=>hcd h.2,C' λh=>hcd h.2]
   ·rw[C' λh=>hgi h.1,C'];rintro⟨hm,_⟩;rcases Ij.1 hm with h | h
    ·exact hgi h.symm
    ·exact hil h
theorem zrj{a b w:Int}(ha:0<=a)(hb:0<=b)(h:a+b<=149)(w1:1<=w)(w2:w<=20):Zf (a+b) w=Zf a w+Zf b w/\Zf a w+Zf b w<=ZB w:=by
 have e1:=zid ha hb Qo w1 w2;have e2:=zid (a:=a+b) (b:=149-(a+b)) (w:=w) Qo Qo Qo w1 w2;rw[show a+b+(149-(a+b))=149 by omega] at e2;have:=(H7 (149-(a+b)) w).1;unfold ZB;omega
structure z22 (V T:Q7) (c t:Int):Prop where
 tk:T.tasks=V.tasks
 g:Z6 V.ID T.ID
 s:∀i:Int,0<=i->(gi T.ID i).IF=(gi V.ID i).IF
 cp:∀d:Int,0<=d->gi T.IE d=if c=d then YE V c t else gi V.IE d
 l:T.IE.length=V.IE.length
theorem z0h{K S:Int}{V T:Q7}{c t m:Int}(iv:JH V)(hM:z22 V T c t)(sw:SW K T)(rb:RB S T)(hS:0<=S/\S+500<=100000000000000000)(c0:0<=c)(c1:c<(V.IE.length:Int))(up:(gi V.IE c).up=true)(t0:0<=t)(t1:t<12)(nG:(Q8 V t).state=1)(mB:(Q8 V t).M'=c)(rI:(YE V c t).cur=t)(hb:z1z V c t (YE V c t).aA)(m0:1<=m)(m1:m<=100):Tz (PO T c t m):=by
 have wp:=iv.wp;have p:=Xq wp;have hht:=OC p t0 t1 (by rw[nG]; decide);have cJ:=wp.a.gl;have kG:=wp.a.t;have c1T:c<(T.IE.length:Int):=by rw[hM.l]; exact c1
 have eTc:gi T.IE c=YE V c t:=(hM.cp c c0).trans (E' rfl);have upT:(gi T.IE c).up=true:=by rw[eTc]; unfold YE; split <;> exact up
 have BW2:(gi T.IE c).aA<50:=by rw[eTc]; exact hb.r1
 have hg:Q6 V.ID (Q8 V t).group=true:=hht.g;have huT:Q6 T.ID (Q8 T t).group=true:=by rw[hM.g.eO,Jp hM.tk]; exact hg
 have pT:YX T t=YX V t:=zka hM.tk hM.g t;obtain⟨sE,rE,_,_,hlE,_,s1,r1,cp1⟩:=zi1 sw rb hS.2 c0 c1T upT BW2 t0 t1 huT Qo m1;obtain⟨pin,CQ2⟩:=y8 sw.a huT;have hTG:Z6 V.ID (PO T c t m).ID:=hM.g.trans cp1.g;have shT:∀i d:Int,0<=i->Qc T i d=Qc V i d:=λi d hi=>by unfold Qc; rw[hM.s i hi]
 have hnd:(YX T t).Nodup:=by rw[pT]; exact zy1 wp.a.tree _ hg
 have eS:∀i d:Int,0<=i->0<=d->Qc (PO T c t m) i d=if i∈YX V t/\c=d then CX V c m i else Qc V i d:=λi d hi hd=>by
  have e:=zxo c0 Qo m1 (YX T t) hnd s1 r1 Qo c1T pin i d hi hd;have e':Qc (PO T c t m) i d=if i∈YX T t/\c=d then CX T c m i else Qc T i d:=e;rw[e',pT,shT i d hi];have:CX T c m i=CX V c m i:=by unfold CX; rw[shT i c hi]
  rw[this]
 have fF:∀i d:Int,0<=i->0<=d->(Qc (PO T c t m) i d).floor=(Qc V i d).floor:=λi d hi hd=>by
  rw[eS i d hi hd]; split
  ·rename_i h; rw[<-h.2]; rfl
  ·rfl
 have fO:∀i d:Int,0<=i->0<=d->(Qc (PO T c t m) i d).on=(Qc V i d).on:=λi d hi hd=>by
  rw[eS i d hi hd]; split
  ·rename_i h; rw[<-h.2]; rfl
  ·rfl
 have fW:∀i d:Int,0<=i->0<=d->(Qc (PO T c t m) i d).w=(Qc V i d).w:=λi d hi hd=>by
  rw[eS i d hi hd]; split
  ·rename_i h; rw[<-h.2]; rfl
  ·rfl
 have fV:∀i d:Int,0<=i->0<=d->¬(i∈Zb V.ID (Q8 V t).group/\c=d)->(Qc (PO T c t m) i d).v=(Qc V i d).v:=λi d hi hd hn=>by
  rw[eS i d hi hd]; split
  ·rename_i h
   have hz:¬i≠0:=λhz=>by
    rcases Io.1 h.1 with h' | h'
    ·exact hn ⟨h',h.2⟩
    ·exact hz (IA.1 h')
   rw[<-h.2];show (if i≠0 then _ else _)=_;rw[C' hz]
  ·rfl
 have fP:∀i:Int,i∈Zb V.ID (Q8 V t).group->(Qc (PO T c t m) i c).v=(Qc V i c).v+Zf m (Qc V i c).w:=λi hi=>by
  obtain⟨iu,iz⟩:=YO wp.a.tree _ hg i hi;rw[eS i c (Q5.1 iu).1 c0,E' ⟨Ib _ hi,rfl⟩];show (if i≠0 then _ else _)=_;rw[E' iz]
 have eK:∀i:Int,0<=i->Q8 (PO T c t m) i=if t=i then G9 V t m else Q8 V i:=λi hi=>by
  have h1:Q8 (PO T c t m) i=gi (T.tasks.set t.toNat (G9 T t m)) i:=by
   show gi (zi0 c m (YX T t) (IU T t (G9 T t m))).tasks i=_;rw[cp1.t]; rfl
  have h2:G9 T t m=G9 V t m:=by unfold G9; rw[Jp hM.tk]
  rw[h1,QI _ _ t0 (by rw[hM.tk]; omega) hi,h2];split
  ·rfl
  ·exact Jp hM.tk i
 have eC:∀d:Int,0<=d->gi (PO T c t m).IE d=if c=d then zpy T c m else gi V.IE d:=λd hd=>by
  have h1:gi (PO T c t m).IE d=gi (T.IE.set c.toNat (zpy T c m)) d:=by
   show gi ((zi0 c m (YX T t) (IU T t (G9 T t m))).IE.set c.toNat (zpy T c m)) d=_;rw[cp1.cp]; rfl
  rw[h1,QI _ _ c0 c1T hd];split
  ·rfl
  ·rename_i h;rw[hM.cp d hd,C' h]
 have wn:1<=Qf (Q8 V t).nice/\Qf (Q8 V t).nice<=20:=by
  have:=Jq (Q8 V t).nice;have:=hht.n;omega
 have hv0:∀w:Int,0<=Zf m w:=λw=>(H7 m w).1
 have C47:∀i d:Int,Q6 V.ID i=true->0<=d->d<(V.IE.length:Int)->1<=(Qc V i d).w/\(Qc V i d).w<=20:=λi d hu d0 d1=>by
  have:=E8 wp hu d0 d1;exact⟨this.w1,this.w2⟩
 have vt:=zrj hb.r0 (show 0<=m by omega) (by have:=hb.r1; omega) wn.1 wn.2
 have vp:∀i:Int,i∈Zb V.ID (Q8 V t).group->Zf ((YE V c t).aA+m) (Qc V i c).w=Zf (YE V c t).aA (Qc V i c).w+Zf m (Qc V i c).w/\Zf (YE V c t).aA (Qc V i c).w+Zf m (Qc V i c).w<=ZB (Qc V i c).w:=λi hi=>by
  have h:=C47 i c (YO wp.a.tree _ hg i hi).1 c0 c1;exact zrj hb.r0 (show 0<=m by omega) (by have:=hb.r1; omega) h.1 h.2
 have B96:∀i:Int,Q6 V.ID i=true->i≠0->0<=(gi V.ID i).parent:=λi hu hz=>(Q5.1 (Yd wp.a.tree hu hz).1).1
 have Cf6:∀i:Int,i∈Zb V.ID (Q8 V t).group->VN (PO T c t m) i c:=λi hi=>by
  obtain⟨iu,iz⟩:=YO wp.a.tree _ hg i hi;have i0:=(Q5.1 iu).1;unfold VN;rw[hTG.p,fF _ c (B96 i iu iz) c0,fP i hi,fW i c i0 c0];have h1:=hb.p1 i hi;have h2:=hb.p2 i hi;have h3:=vp i hi;have:=hv0 (Qc V i c).w;omega
 refine⟨⟨sE.a,λi a b=>?_,λi a b n=>?_,λk d hk d0 d1=>?_⟩,λd d0 d1=>?_⟩
 ·have hrt:=rE.t i a b;rw[eK i a] at hrt ⊢;split
  ·rename_i he;rw[E' he] at hrt;refine .inr ⟨by show (Q8 V t).state≠0; rw[nG]; decide,hht.st,by rw[hTG.eO]; exact hg,hht.n,hht.m,hht.m0,Yq.2 ⟨hrt.1,Qo⟩,Yq.2 ⟨hrt.2.2.1,Qo⟩,hht.l1,hht.l2,λ_=>?_⟩;show (Qc (PO T c t m) (Q8 V t).group (Q8 V t).M').floor<=(Q8 V t).v+Zf m (Qf (Q8 V t).nice)/\(Q8 V t).v+Zf m (Qf (Q8 V t).nice)-(Qc (PO T c t m) (Q8 V t).group (Q8 V t).M').floor<=ZB (Qf (Q8 V t).nice);rw[mB,fF _ c (Q5.1 hg).1 c0];have:=hb.t1;have:=hb.t2;have:=hv0 (Qf (Q8 V t).nice);omega
  ·rcases p.t i a b with h | ⟨h1,h2⟩
   ·exact .inl h
   ·refine .inr ⟨h1,h2.st,by rw[hTG.eO]; exact h2.g,h2.n,h2.m,h2.m0,h2.s,h2.u,h2.l1,h2.l2,λhs=>?_⟩;rw[fF _ _ (Q5.1 h2.g).1 (p.l i a b h1).1];exact h2.f hs
 ·rw[hlE,hM.l];rw[eK i a] at n ⊢;split
  ·show 0<=(Q8 V t).M'/\(Q8 V t).M'<_;rw[mB]; exact⟨c0,c1⟩
  ·rename_i he;rw[C' he] at n;exact p.l i a b n
 ·have wJ:=rE.s k d hk d0 d1;rw[hTG.eO] at hk;rw[hlE,hM.l] at d1;have k0:=(Q5.1 hk).1;have hp:=p.s k d hk d0 d1;refine⟨Yq.2 ⟨wJ.1,Qo⟩,λhz=>?_,λhz ho=>?_⟩
  ·have h:=hp.root hz;rw[fO k d k0 d0,fW k d k0 d0,fV k d k0 d0 λh=>(YO wp.a.tree _ hg k h.1).2 hz];exact h
  ·rw[fO k d k0 d0] at ho
   by_cases uM:k∈Zb V.ID (Q8 V t).group/\c=d
   ·obtain⟨h1,rfl⟩:=uM;exact Cf6 k h1
   ·have h:=hp.st hz ho;unfold VN at h ⊢;rw[hTG.p,fF _ d (B96 k hk hz) d0,fV k d k0 d0 uM,fW k d k0 d0];exact h
 ·have hrc:=rE.c d d0 d1;rw[hlE,hM.l] at d1
  by_cases hd:c=d
  ·subst hd;have e:=(eC c c0).trans (E' rfl);have Cu9:(gi (PO T c t m).IE c).cur=t:=by rw[e]; show (gi T.IE c).cur=t; rw[eTc]; exact rI
   have Cv2:(gi (PO T c t m).IE c).aA=(YE V c t).aA+m:=by rw[e]; show (gi T.IE c).aA+m=_; rw[eTc]
   have bU:=hb.r0;have wC:=hb.r1;refine⟨Yq.2 ⟨hrc.1,Qo⟩,Yq.2 ⟨hrc.2.2.1,by have:=hrc.2.2.2.1; omega⟩,Qo,Qo,λh0=>by omega,λ_=>⟨by rw[e]; exact upT,Qo,Qo⟩,λ_ _ _=>?_⟩;rw[Cu9,Cv2,eK t t0,E' rfl];refine⟨?_,λx hx=>?_⟩
   ·show (Q8 V t).v+Zf m (Qf (Q8 V t).nice)-(Qc (PO T c t m) (Q8 V t).group c).floor<=Zf ((YE V c t).aA+m) (Qf (Q8 V t).nice);rw[fF _ c (Q5.1 hg).1 c0,vt.1];have:=hb.t1;omega
   ·have hx:x∈Zb (PO T c t m).ID (Q8 V t).group:=hx;rw[Tv hTG] at hx;obtain⟨xu,xz⟩:=YO wp.a.tree _ hg x hx;refine⟨Cf6 x hx,?_⟩;rw[hTG.p,fF _ c (B96 x xu xz) c0,fP x hx,fW x c (Q5.1 xu).1 c0,(vp x hx).1];have:=hb.p1 x hx;omega
  ·have e:=(eC d d0).trans (C' hd);have h:=p.c d d0 d1;refine⟨by rw[e]; exact h.b,by rw[e]; exact h.i,by rw[e]; exact h.c1,by rw[e]; exact h.c2,by rw[e]; exact h.no,by rw[e]; exact h.yes,?_⟩;rw[e];intro h0 h1 h2;rw[eK _ h0] at h1 h2 ⊢
   by_cases ht:t=(gi V.IE d).cur
   ·rw[E' ht] at h2;have h2:(Q8 V t).M'=d:=h2;exact Is (mB.symm.trans h2) hd
   ·rw[C' ht] at h1 h2 ⊢;obtain⟨q1,q2⟩:=h.q h0 h1 h2;have lM:=(OC p h0 h.c2 (by rw[h1]; decide)).g;refine⟨by rw[fF _ d (Q5.1 lM).1 d0]; exact q1,λx hx=>?_⟩;rw[Tv hTG] at hx;obtain⟨xu,xz⟩:=YO wp.a.tree _ lM x hx;have x0:=(Q5.1 xu).1;have:=q2 x hx;unfold VN at this ⊢;rw[hTG.p,fF _ d (B96 x xu xz) d0,fV x d x0 d0 λh=>hd h.2,fW x d x0 d0];exact this
theorem zzc(W:Q7)(c n g:Int):TC W (zbb W c n g):=
 ((zdw W g c (CX W c n g)).trans (zo5 (W:=G8 W c n g) (g:=g) (x:=NQ W c n g) rfl rfl rfl rfl rfl)).trans (zo4 _ _ _)
theorem zq6(c n:Int):∀(l:List Int) (W:Q7),TC W (zi0 c n l W)
 | [],W=>TC.refl _
 | g::l,W=>(zzc W c n g).trans (zq6 c n l _)
theorem zq7(W:Q7)(c g:Int):TC W (z8 W c g).1:=by
 unfold z8;split
 ·exact TC.refl _
 ·exact zo4 _ _ _
theorem zq8(c:Int):∀(l:List Int) (W:Q7),TC W (zib c l W).1
 | [],W=>TC.refl _
 | g::l,W=>by
  simp only[zib];split
  ·exact(zq7 W c g).trans (zq8 c l _)
  ·exact zq7 W c g
theorem zwn(W:Q7)(c t:Int):TC W (X9 W c t):=zkg (by unfold YE; split <;> rfl)
theorem zr4(W:Q7)(c t:Int):J1 (YE W c t)=J1 (gi W.IE c):=by unfold YE; split <;> rfl
theorem zx0{f:Nat}{c left:Int}{W0 V:Q7}(h:zea f c W0 V left)(iv:JH V):JH (Qg (RD (RX V c (Gt V c left)) c)):=by
 have p:=Xq iv.wp;have c0:=h.c0;have c1:=h.c1;have hK:=FO h.f2;have hh0:(0:Int)<=Qn:=Qd;have nG:UZ=173430457200:=rfl;obtain⟨sE,s1,i3,i4⟩:=zu0 h;have hl:(RX V c (Gt V c left)).IE.length=V.IE.length:=H'
 have hP:Tz (RX V c (Gt V c left)):=by
  refine⟨⟨s1.a,λt t0 t1=>(p.t t t0 t1).imp id λh=>⟨h.1,h.2.gr rfl⟩,λt t0 t1 n=>?_,λk d hk d0 d1=>?_⟩,λd d0 d1=>?_⟩
  ·rw[hl]; exact p.l t t0 t1 n
  ·rw[hl] at d1; exact(p.s k d hk d0 d1).Bu5 rfl λ_=>rfl
  ·rw[hl] at d1;have hd:=p.c d d0 d1;have e:gi (RX V c (Gt V c left)).IE d=if c=d then Gt V c left else gi V.IE d:=QI _ _ c0 c1 d0
   by_cases he:c=d
   ·subst he;have e:=e.trans (E' rfl);exact⟨by rw[e]; exact hd.b,by rw[e]; exact Yq.2 ⟨i3,by show (gi V.IE c).idle+left<=_; omega⟩,by rw[e]; exact hd.c1,by rw[e]; exact hd.c2,by rw[e]; exact hd.no,by rw[e]; exact hd.yes,by rw[e]; exact hd.q⟩
   ·have e:=e.trans (C' he);exact⟨by rw[e]; exact hd.b,by rw[e]; exact hd.i,by rw[e]; exact hd.c1,by rw[e]; exact hd.c2,by rw[e]; exact hd.no,by rw[e]; exact hd.yes,by rw[e]; exact hd.q⟩
 exact Zz sE Qo Qo (hP.RD c0 (by rw[hl]; exact c1)) (((zkg (W:=V) (c:=c) (x:=Gt V c left) rfl).loc rfl (UW iv.wp)).RD _)
theorem zy8{f:Nat}{c left:Int}{W0 V:Q7}(h:zea (f+1) c W0 V left)(iv:JH V)(hl:0<left)(hp:¬Qu V c<0):JH (FL V c left).1:=by
 have hR:=zox h hl hp;have c0:=h.c0;have c1:=h.c1;have hK:=FO h.f2;have hSu:=zkd h.f2;have hh0:(0:Int)<=Qn:=Qd;have nG:UZ=173430457200:=rfl;have hlg:Qi=34686091440:=rfl;have t0:=hR.line.t0;have t1:=hR.line.t1;obtain⟨q1,q2,q3,q4,q5,q6⟩:=FU h.sw h.rb c0 c1 h.up t0 t1;have eC:(X5 V c).1.IE=(X9 V c (Qu V c)).IE:=hR.tk.o.c;have lT:(X5 V c).1.IE.length=V.IE.length:=by rw[eC]; exact q6
 have cT:c<((X5 V c).1.IE.length:Int):=by rw[lT]; exact c1
 have rT:RB (Nw (f+1)) (X5 V c).1:=hR.r1.sum hR.tk.su hR.tk.o.g (by rw[eC]);have eT:(X5 V c).1.tasks=V.tasks:=hR.tk.o.t;have eG:Z6 V.ID (X5 V c).1.ID:=hR.tk.o.g;have eN:(X5 V c).1.now=V.now:=hR.tk.o.n;have eSh:∀i:Int,0<=i->(gi (X5 V c).1.ID i).IF=(gi V.ID i).IF:=hR.tk.o.s;have sT:TC V (X5 V c).1:=(zwn V c (Qu V c)).trans (zq8 c _ _);have lcT:zaa (X5 V c).1:=sT.loc eT (UW iv.wp)
 have eCp:∀d:Int,0<=d->gi (X5 V c).1.IE d=if c=d then YE V c (Qu V c) else gi V.IE d:=λd hd=>by
  rw[eC]; exact QI _ _ c0 c1 hd
 have hRW:FL V c left=if (X5 V c).2=true then (Qg (PO (X5 V c).1 c (Qu V c) (UY V c left)),left-UY V c left) else (Qg (RD (X5 V c).1 c),left):=rfl;rw[hRW]
 by_cases gt:(X5 V c).2=true
 ·rw[E' gt];obtain⟨m1,m2⟩:=hR.m gt;obtain⟨sC,rC⟩:=hR.ch gt;have nF:=h.l1;have hb:=zxj iv c0 c1 hR.line hp;have es:gi (X9 V c (Qu V c)).IE c=YE V c (Qu V c):=(QI _ _ c0 c1 c0).trans (E' rfl);rw[es] at hb q5;have hP:Tz (PO (X5 V c).1 c (Qu V c) (UY V c left)):=z0h iv ⟨eT,eG,eSh,eCp,lT⟩ hR.tk.sw rT ⟨Qo,Qo⟩ c0 c1 h.up t0 t1 hR.line.st hR.line.M' q5 hb m1 Qo;refine Zz sC Qo Qo hP ?_;have uT:Q6 (X5 V c).1.ID (Q8 (X5 V c).1 (Qu V c)).group=true:=by rw[eG.eO,Jp eT]; exact hR.us
  have upT:(gi (X5 V c).1.IE c).up=true:=by rw[eC]; exact q3
  have BW2:(gi (X5 V c).1.IE c).aA<50:=by rw[eC]; exact hR.aA
  have cp1:=(zi1 (t:=Qu V c) (n:=UY V c left) hR.tk.sw rT Qo c0 cT upT BW2 t0 t1 uT Qo Qo).2.2.2.2.2.2.2.2;have l1:zaa (IU (X5 V c).1 (Qu V c) (G9 (X5 V c).1 (Qu V c) (UY V c left))):=lcT.IU hR.tk.sw.a t0 t1 λn=>lcT _ t0 t1 n
  have l2:=(zq6 c (UY V c left) (YX (X5 V c).1 (Qu V c)) (IU (X5 V c).1 (Qu V c) (G9 (X5 V c).1 (Qu V c) (UY V c left)))).loc cp1.t l1;refine TC.loc (zkg ?_) rfl l2;show (gi (X5 V c).1.IE c).up=(gi (zi0 c (UY V c left) (YX (X5 V c).1 (Qu V c)) (IU (X5 V c).1 (Qu V c) (G9 (X5 V c).1 (Qu V c) (UY V c left)))).IE c).up;rw[cp1.cp]; rfl
 ·rw[C' gt]
  have hE:RD (X5 V c).1 c=RD { (X5 V c).1 with IE:=V.IE } c:=by
   have e1:=(eCp c c0).trans (E' rfl);show ({ (X5 V c).1 with IE:=(X5 V c).1.IE.set c.toNat (J1 (gi (X5 V c).1.IE c)) }:Q7)={ (X5 V c).1 with IE:=V.IE.set c.toNat (J1 (gi V.IE c)) };rw[e1,zr4,eC];show ({ (X5 V c).1 with IE:=(V.IE.set c.toNat (YE V c (Qu V c))).set c.toNat (J1 (gi V.IE c)) }:Q7)=_;rw[List.set_set]
  have ha:WA ({ (X5 V c).1 with IE:=V.IE }:Q7):=hR.tk.sw.a.cp lT.symm iv.wp.a.wT;have p2:Tz ({ (X5 V c).1 with IE:=V.IE }:Q7):=(Xq iv.wp).BI1 ⟨eN,rfl,eT,eG,eSh⟩ ha;have oN:=lcT.RD c;have sE:=hR.tk.sw.RD c0 cT;rw[hE] at oN sE ⊢;exact Zz sE Qo Qo (p2.RD c0 c1) oN
theorem zml{c:Int}{W0:Q7}:∀(f:Nat) {V:Q7} {left:Int},zea f c W0 V left->JH V->JH (zdn c f V left)
 | 0,V,left,h,_=>by
  have:=h.f1;have:=h.l0;omega
 | f+1,V,left,h,iv=>by
  have hK:=FO h.f2;have hh0:(0:Int)<=Qn:=Qd;have nG:UZ=173430457200:=rfl
  by_cases hl:left<=0
  ·rw[zmk hl];exact Zz h.sw Qo Qo (Xq iv.wp) (UW iv.wp)
  ·by_cases hp:Qu V c<0
   ·rw[zhv hl hp];exact zx0 h iv
   ·rw[zhw hl hp];have hR:=zox h Qo hp;exact zml f hR.nx (zy8 h iv Qo hp)
theorem zya{W:Q7}{c n:Int}(iv:JH W)(hb:FM W c n=0):JH (zs6 W c n):=zml 400 (zwf (Qj.2 iv.wp) hb).2.2.2.2 iv
theorem ztm{W:Q7}(wp:J7 W){c:Int}(c0:0<=c)(c1:c<(W.IE.length:Int)):J7 (RD W c):=by
 have hl:(RD W c).IE.length=W.IE.length:=H';have e:∀d:Int,0<=d->gi (RD W c).IE d=if c=d then J1 (gi W.IE c) else gi W.IE d:=λd d0=>QI _ _ c0 c1 d0
 have sta:=Hq W c
 have ha:WA (RD W c):=wp.a.cp (cs:=W.IE.set c.toNat (J1 (gi W.IE c))) H' (by
  rw[show J4 (W.IE.set c.toNat (J1 (gi W.IE c)))=J4 W.IE from sta.wT];exact wp.a.wT)
 refine⟨ha,λt t0 t1=>?_,λk d k0 k1 d0 d1=>?_,λd d0 d1=>?_⟩
 ·rcases wp.t t t0 t1 with hz | ⟨n,hx⟩
  ·exact .inl hz
  ·refine .inr ⟨n,hx.st,hx.g,hx.n,hx.m,hx.m0,hx.v,hx.s,hx.u,hx.l1,hx.l2,?_,hx.f⟩;rw[sta.wh]; exact hx.c
 ·have hs:=wp.s k d k0 k1 d0 d1;exact⟨hs.f,hs.v,hs.s,hs.w1,hs.w2,hs.root,hs.on,hs.st⟩
 ·rw[hl] at d1;have h:=wp.c d d0 d1
  by_cases hd:c=d
  ·subst hd;have e1:=(e c c0).trans (E' rfl);refine⟨by rw[e1]; exact h.b,by rw[e1]; exact h.i,by rw[e1]; show (-1:Int)<=-1; decide,by rw[e1]; show (-1:Int)<_; have:=wp.a.t; show (-1:Int)<(W.tasks.length:Int); omega,λ_=>by rw[e1]; rfl,λh0=>?_⟩;rw[e1] at h0;have h0:(0:Int)<=-1:=h0;omega
  ·have e1:=(e d d0).trans (C' hd);refine⟨by rw[e1]; exact h.b,by rw[e1]; exact h.i,by rw[e1]; exact h.c1,by rw[e1]; exact h.c2,by rw[e1]; exact h.no,λh0=>?_⟩;rw[e1] at h0 ⊢;obtain⟨y1,y2,y3,y4,y5,y6⟩:=h.yes h0;refine⟨y1,y2,y3,y4,y5,?_⟩;unfold Mo at y6 ⊢;rw[e1];exact y6
theorem zse{W:Q7}(iv:JH W){c:Int}(c0:0<=c)(c1:c<(W.IE.length:Int)):JH (RD W c):=
 ⟨ztm iv.wp c0 c1,λk d hu d0 d1 hb=>by
  have hl:(RD W c).IE.length=W.IE.length:=H';rw[hl] at d1;exact iv.fl k d hu d0 d1 hb⟩
def Fw(W:Q7)(t g:Int):Int:=if Z0 (Qw W g (Q8 W t).mask) (Q8 W t).M'=true then (Q8 W t).M' else TJ (Qw W g (Q8 W t).mask)
noncomputable def zcu(W:Q7)(t g:Int):Int:=if Yj W t=false\/Q6 W.ID g=false then 2 else if QO W=false then 10 else 0
def zf2(W:Q7)(t g:Int):Q7:=if (Q8 W t).group=g then W else Qg (Uh (Z4 W t) t g (Fw W t g))
theorem zqo{W:Q7}(wp:J7 W){t g:Int}(t0:0<=t)(t1:t<12)(n:(Q8 W t).state≠0):0<=Fw W t g/\Fw W t g<(W.IE.length:Int)/\Z0 (Qw W g (Q8 W t).mask) (Fw W t g)=true:=by
 unfold Fw;split
 ·rename_i h;have:=(Xq wp).l t t0 t1 n;exact⟨this.1,this.2,h⟩
 ·have hw:=H9 wp.a g (Q8 W t).mask;have hf:=KJ wp.a g (Q8 W t).mask;exact⟨hf.1,hf.2,Fu hw.1 hw.2⟩
theorem zx6{W:Q7}{t g:Int}(iv:JH W)(hb:zcu W t g=0):JH (zf2 W t g):=by
 have wp:=iv.wp;unfold zcu at hb
 split at hb
 ·cases hb
 ·rename_i h1
  split at hb
  ·cases hb
  ·rename_i h3;have hth:Yj W t=true:=by cases h:Yj W t with | true=>rfl | false=>exact Is (.inl h) h1
   have hu:Q6 W.ID g=true:=by cases h:Q6 W.ID g with | true=>rfl | false=>exact Is (.inr h) h1
   have hr:QO W=true:=by simpa using h3
   obtain⟨t0,t1,n⟩:=X0 hth;have kG:=wp.a.t;unfold zf2;split
   ·exact iv
   ·obtain⟨m0,m1,m2⟩:=zqo wp (g:=g) t0 Qo n;have sw:=Mq wp (Qj.1 hr);obtain⟨c0,c1⟩:=(Xq wp).l t t0 Qo n
    have key:Tz (Z4 W t)/\TC W (Z4 W t)/\SW Qn (Z4 W t)/\Q8 (Z4 W t) t=Q8 W t/\(Z4 W t).tasks=W.tasks/\(Z4 W t).ID=W.ID:=by
     unfold Z4;split
     ·exact⟨(Xq wp).RD c0 c1,Hq _ _,sw.RD c0 c1,rfl,rfl,rfl⟩
     ·exact⟨Xq wp,TC.refl _,sw,rfl,rfl,rfl⟩
    obtain⟨k1,k2,k3,k4,k5,k6⟩:=key;have hlo:=k2.loc k5 (UW wp);have hu2:Q6 (Z4 W t).ID g=true:=by rw[k6]; exact hu
    have hm1:Fw W t g<((Z4 W t).IE.length:Int):=by rw[k2.len]; exact m1
    have sf:=(y9 (KF k3) (I3 _) (t:=t) t0 Qo hu2 m0 hm1).2;refine Zz sf.w (by simp only[Qi]; decide) (by simp only[Qi,UZ]; decide) (zdl k1 t0 Qo (by rw[k4]; exact n) hu2 m0 hm1) λi i0 i1 hn=>?_
    rw[(z7 (Z4 W t) t g (Fw W t g)).wh];rw[zou k1.a.t t0 Qo i0] at hn ⊢
    split at hn
    ·rename_i he;rw[E' he];show Z0 (Qw (Z4 W t) g (Q8 (Z4 W t) t).mask) (Fw W t g)=true;rw[k4,k2.wh]; exact m2
    ·rename_i he;rw[C' he];exact hlo i i0 i1 hn
structure zgw (W:Q7) (g:Int):Prop where
 g1:1<=g
 us:Q6 W.ID g=true
 nk:∀h:Int,1<=h->h<8->(gi W.ID h).used=true->(gi W.ID h).parent≠g
 nt:∀t:Int,0<=t->t<12->(Q8 W t).state≠0->(Q8 W t).group≠g
def J0(W:Q7)(g:Int):Q7:=Re W g zd5
section
variable {W:Q7}{g:Int}
theorem zgw.g8(h:zgw W g)(ha:WA W):g<8:=by
 have:=ha.gl;have:=(Q5.1 h.us).2.1;omega
theorem HV(ha:WA W)(h:zgw W g){i:Int}(hi:0<=i):gi (J0 W g).ID i=if g=i then zd5 else gi W.ID i:=Yv (by have:=h.g1; omega) (Q5.1 h.us).2.1 hi
theorem Dz(ha:WA W)(h:zgw W g){k:Int}(hu:Q6 W.ID k=true)(hk:k≠g):gi (J0 W g).ID k=gi W.ID k:=by
 rw[HV ha h (Q5.1 hu).1,C' λe=>hk e.symm]
theorem zi4(ha:WA W):(J0 W g).ID.length=8:=by
 have:=ha.gl;simp[J0,Re]; omega
theorem zbd(ha:WA W)(h:zgw W g){k:Int}(hu:Q6 W.ID k=true)(hz:k≠0):(gi W.ID k).parent≠g:=by
 obtain⟨a,b,c⟩:=Q5.1 hu;have:=ha.gl;exact h.nk k Qo Qo c
theorem CZ(ha:WA W)(h:zgw W g){k:Int}:Q6 (J0 W g).ID k=true↔Q6 W.ID k=true/\k≠g:=by
 have cJ:=ha.gl;rw[Q5,Q5,zi4 ha,cJ];constructor
 ·rintro⟨x,y,z⟩;rw[HV ha h x] at z
  by_cases e:g=k
  ·rw[E' e] at z; cases z
  ·rw[C' e] at z;exact⟨⟨x,y,z⟩,λe2=>e e2.symm⟩
 ·rintro⟨⟨x,y,z⟩,e⟩;refine⟨x,y,?_⟩;rw[HV ha h x,C' λe2=>e e2.symm];exact z
theorem zum(ha:WA W)(h:zgw W g):∀(f:Nat) (k:Int),Q6 W.ID k=true->k≠g->dep f (J0 W g).ID k=dep f W.ID k
 | 0,_,_,_=>rfl
 | f+1,k,hu,hk=>by
  by_cases hz:k=0
  ·subst hz; rw[Y8,Y8]
  ·have ih:=zum ha h f _ (Yd ha.tree hu hz).1 (zbd ha h hu hz);simp only[dep];rw[Dz ha h hu hk,ih]
theorem zi5(ha:WA W)(h:zgw W g):∀(f:Nat) (k:Int),Q6 W.ID k=true->k≠g->UN f (J0 W g).ID k=UN f W.ID k
 | 0,_,_,_=>rfl
 | f+1,k,hu,hk=>by
  by_cases hz:k=0
  ·subst hz; rw[Zq,Zq]
  ·have ih:=zi5 ha h f _ (Yd ha.tree hu hz).1 (zbd ha h hu hz);simp only[UN];rw[Dz ha h hu hk,ih]
theorem znq(ha:WA W)(h:zgw W g):∀k:Int,Q6 W.ID k=true->k≠g->∀x∈Zb W.ID k,x≠g:=
 Mi ha.tree (λ_ x hx=>by rw[show Zb W.ID 0=[] from Zq _ _] at hx; cases hx) λk hu hz ih hk x hx=>by
  rw[YI ha.tree hu hz] at hx;rcases Ij.1 hx with e | e
  ·rw[e]; exact hk
  ·exact ih (zbd ha h hu hz) x e
theorem zxs(ha:WA W)(h:zgw W g):Yc (J0 W g).ID:=by
 have ht:=ha.tree;have r:=Dz ha h ha.root (by have:=h.g1; omega)
 have sp:∀{k:Int},1<=k->k<8->(gi (J0 W g).ID k).used=true->Q6 W.ID k=true/\k≠g/\gi (J0 W g).ID k=gi W.ID k:=λ{k} b d hh=>by
  have:=(CZ ha h).1 (Q5.2 ⟨Qo,by rw[zi4 ha]; omega,hh⟩);exact⟨this.1,this.2,Dz ha h this.1 this.2⟩
 refine⟨zi4 ha,by rw[r]; exact ht.ru,by rw[r]; exact ht.rp,by rw[r]; exact ht.rn,λk b d hh=>?_,λk b d hh=>?_,λk b d hh=>?_,λx k b d e hx hk=>?_⟩
 ·obtain⟨_,_,e⟩:=sp b d hh;rw[e] at hh ⊢; exact ht.nm k b d hh
 ·obtain⟨_,_,e⟩:=sp b d hh;rw[e] at hh ⊢;exact(CZ ha h).2 ⟨ht.par k b d hh,h.nk k b d hh⟩
 ·obtain⟨u,n,_⟩:=sp b d hh;rw[zum ha h 3 k u n]; exact ht.dp k b d (Q5.1 u).2.2
 ·rintro⟨q1,q2⟩;obtain⟨u1,_,e1⟩:=sp Qo e hx;obtain⟨u2,_,e2⟩:=sp b Qo hk;rw[e1,e2] at q1 q2;exact ht.uniq x k b d e (Q5.1 u1).2.2 (Q5.1 u2).2.2 ⟨q1,q2⟩
theorem KS(ha:WA W)(h:zgw W g){k c:Int}(hu:Q6 W.ID k=true)(hk:k≠g):Qc (J0 W g) k c=Qc W k c:=by
 unfold Qc;rw[Dz ha h hu hk]
theorem zxr(wp:J7 W)(h:zgw W g){c:Int}:QV W g c=false:=by
 have hl:=wp.a.gl;have ht:=wp.a.t
 have e1:∀j,j<W.tasks.length->OO W g c j=false:=λj hj=>by
  unfold OO
  cases hs:((gi W.tasks (j:Int)).state==1) with
  | false=>rfl
  | true=>
   have hs:(gi W.tasks (j:Int)).state=1:=by simpa using hs
   have:(gi W.tasks (j:Int)).group≠g:=h.nt (j:Int) Qo Qo (by rw[show (Q8 W (j:Int)).state=1 from hs]; decide);rw[show ((gi W.tasks (j:Int)).group==g)=false by simpa using this];rfl
 have e2:∀j,j<W.ID.length->J8 W g c j=false:=λj hj=>by
  unfold J8
  by_cases hj1:1<=j
  ·cases hs:(gi W.ID (j:Int)).used with
   | false=>simp
   | true=>
    have:=h.nk (j:Int) Qo Qo hs;rw[show ((gi W.ID (j:Int)).parent==g)=false by simpa using this];simp
  ·rw[decide_eq_false hj1]; rfl
 unfold QV;rw[Kj e1,Kj e2];rfl
theorem z0l(wp:J7 W)(h:zgw W g){c:Int}(c0:0<=c)(c1:c<(W.IE.length:Int)):(Qc W g c).on=false:=by
 have g1:=h.g1;have:=(wp.s g c Qo (h.g8 wp.a) c0 (by rw[wp.a.sl h.us]; exact c1)).on Qo;rw[this,zxr wp h]; rfl
theorem zp3(wp:J7 W)(h:zgw W g){k c:Int}(c0:0<=c)(c1:c<(W.IE.length:Int))(j:Nat):J8 (J0 W g) k c j=J8 W k c j:=by
 have ha:=wp.a;unfold J8
 by_cases e:g=(j:Int)
 ·rw[HV ha h Qo,E' e,<-e,z0l wp h c0 c1];simp[zd5]
 ·rw[HV ha h Qo,C' e]
  have:Qc (J0 W g) (j:Int) c=Qc W (j:Int) c:=by
   unfold Qc;rw[HV ha h Qo,C' e]
  rw[this]
theorem z0k(wp:J7 W)(h:zgw W g){k c:Int}(c0:0<=c)(c1:c<(W.IE.length:Int)):QV (J0 W g) k c=QV W k c:=by
 unfold QV;rw[show TF (OO (J0 W g) k c) (J0 W g).tasks.length=TF (OO W k c) W.tasks.length from rfl,zi4 wp.a,wp.a.gl];rw[Ki λj _=>zp3 wp h c0 c1 j]
theorem z0m(ha:WA W)(h:zgw W g){k:Int}(hu:Q6 W.ID k=true)(hk:k≠g)(u:Int):VX (J0 W g).ID k u=VX W.ID k u:=by
 have e:Zb (J0 W g).ID k=Zb W.ID k:=zi5 ha h 3 k hu hk;have g1:=h.g1;unfold VX;rw[e];refine BP _ _ λs x hx=>?_
 have hxu:Q6 W.ID x=true/\x≠g:=by
  rcases Io.1 hx with hx | hx
  ·exact⟨(YO ha.tree k hu x hx).1,znq ha h k hu hk x hx⟩
  ·rw[IA.1 hx]; exact⟨ha.root,Qo⟩
 rw[Dz ha h hxu.1 hxu.2]
theorem z2a(ha:WA W)(h:zgw W g){k:Int}(hu:Q6 W.ID k=true)(hk:k≠g)(m:Int):Qw (J0 W g) k m=Qw W k m:=zw5 (W:=W) (W':=J0 W g) rfl (z0m ha h hu hk) m
theorem zx3(iv:JH W)(h:zgw W g):JH (J0 W g):=by
 have wp:=iv.wp;have ha:=wp.a;have g1:=h.g1;have g8:=h.g8 ha;have cJ:=ha.gl;have hpu:∀{k:Int},Q6 W.ID k=true->k≠0->Q6 W.ID (gi W.ID k).parent=true:=λhu hz=>(Yd ha.tree hu hz).1
 have hA:WA (J0 W g):=by
  refine⟨ha.n1,ha.n2,ha.c1,ha.c2,ha.t,zxs ha h,ha.wT,λk k0 k1=>?_⟩;unfold MV;rw[HV ha h k0];split
  ·exact⟨λ_=>⟨rfl,rfl,rfl,rfl,rfl,rfl,rfl,rfl,show Ol ⟨0,0,0,[],[]⟩=true by decide⟩,λhh=>by cases hh⟩
  ·have:=ha.grp k k0 k1;exact⟨this.1,λhu=>by have:=this.2 hu; exact⟨this.w1,this.w2,this.m,this.m0,this.s,this.len,this.root,this.none,this.IN⟩⟩
 refine⟨⟨hA,λt t0 t1=>?_,λk c k0 k1 c0 c1=>?_,λc c0 c1=>?_⟩,λk c hu c0 c1 hb=>?_⟩
 ·rcases wp.t t t0 t1 with hz | ⟨n,hx⟩
  ·exact .inl hz
  ·have hn:=h.nt t t0 t1 n;refine .inr ⟨n,hx.st,(CZ ha h).2 ⟨hx.g,hn⟩,hx.n,hx.m,hx.m0,hx.v,hx.s,hx.u,hx.l1,hx.l2,?_,λhs=>?_⟩
   ·rw[show (Q8 (J0 W g) t)=Q8 W t from rfl,z2a ha h hx.g hn]; exact hx.c
   ·rw[show (Q8 (J0 W g) t)=Q8 W t from rfl,KS ha h hx.g hn]; exact hx.f hs
 ·by_cases e:g=k
  ·subst e;rw[HV ha h k0,E' rfl] at c1;have c1:c<(0:Int):=c1;omega
  ·have hg:gi (J0 W g).ID k=gi W.ID k:=by rw[HV ha h k0,C' e]
   have e2:k≠g:=λh=>e h.symm
   rw[hg] at c1
   have hu:Q6 W.ID k=true:=by
    cases hh:(gi W.ID k).used with
    | true=>exact Q5.2 ⟨k0,Qo,hh⟩
    | false=>
     have:=((ha.grp k k0 k1).1 hh).l;omega
   have cl:c<(W.IE.length:Int):=by rw[<-ha.sl hu]; exact c1
   have hs:=wp.s k c k0 k1 c0 c1;have es:=KS ha h (c:=c) hu e2;refine⟨by rw[es]; exact hs.f,by rw[es]; exact hs.v,by rw[es]; exact hs.s,by rw[es]; exact hs.w1,by rw[es]; exact hs.w2,λhz=>by rw[es]; exact hs.root hz,λhz=>?_,λhz ho=>?_⟩
   ·rw[es,z0k wp h c0 cl,show Uf (J0 W g) k c=Uf W k c by unfold Uf; rw[hg]];exact hs.on hz
   ·rw[es] at ho;rw[es,hg,KS ha h (hpu hu hz) (zbd ha h hu hz)];exact hs.st hz ho
 ·have hc:=wp.c c c0 c1;refine⟨hc.b,hc.i,hc.c1,hc.c2,hc.no,λh0=>?_⟩;have h0:0<=(gi W.IE c).cur:=h0;obtain⟨y1,y2,y3,y4,y5,y6⟩:=hc.yes h0;have hl:=ha.t;have hc2:=hc.c2
  have lM:Q6 W.ID (Q8 W (gi W.IE c).cur).group=true/\(Q8 W (gi W.IE c).cur).group≠g:=by
   rcases wp.t _ h0 Qo with hz | ⟨n,hx⟩
   ·unfold ZF at y5;rw[hz.1] at y5;simp at y5
   ·exact⟨hx.g,h.nt _ h0 Qo n⟩
  obtain⟨lM,hgn⟩:=lM;have hpt:Zb (J0 W g).ID (Q8 W (gi W.IE c).cur).group=Zb W.ID (Q8 W (gi W.IE c).cur).group:=zi5 ha h 3 _ lM hgn;refine⟨y1,y2,y3,y4,?_,?_⟩
  ·unfold ZF V6 at y5 ⊢;rw[show (gi (J0 W g).IE c).cur=(gi W.IE c).cur from rfl,show Q8 (J0 W g) (gi W.IE c).cur=Q8 W (gi W.IE c).cur from rfl,hpt];rw[A',List.all_eq_true] at y5 ⊢;exact⟨y5.1,λx hx=>by rw[KS ha h (YO ha.tree _ lM x hx).1 (znq ha h _ lM hgn x hx)]; exact y5.2 x hx⟩
  ·unfold Mo TW at y6 ⊢;rw[show (gi (J0 W g).IE c).cur=(gi W.IE c).cur from rfl,show (gi (J0 W g).IE c).aA=(gi W.IE c).aA from rfl,show Q8 (J0 W g) (gi W.IE c).cur=Q8 W (gi W.IE c).cur from rfl,hpt,KS ha h lM hgn];rw[A',List.all_eq_true] at y6 ⊢;refine⟨y6.1,λx hx=>?_⟩;obtain⟨xu,xz⟩:=YO ha.tree _ lM x hx;have xg:=znq ha h _ lM hgn x hx;rw[KS ha h xu xg,Dz ha h xu xg,KS ha h (hpu xu xz) (zbd ha h xu xz)];exact y6.2 x hx
 ·have cl:c<(W.IE.length:Int):=c1;obtain⟨hk,hkg⟩:=(CZ ha h).1 hu
  have Aj9:∀j,j<20->Zp (J0 W g) k c j=Zp W k c j:=λj hj=>by
   by_cases vO:j<12
   ·rw[UX vO,UX vO]; rfl
   ·rw[show j=12+(j-12) by omega,JZ,JZ,zp3 wp h c0 cl (j-12)]
  have hv:∀j,j<20->Zp (J0 W g) k c j=true->Zk (J0 W g) c j=Zk W c j:=λj hj hm=>by
   unfold Zk;split
   ·rfl
   ·rename_i vO;have hm2:=hm;rw[show j=12+(j-12) by omega,JZ] at hm2;unfold J8 at hm2;simp only[A'] at hm2
    have fH:((j-12:Nat):Int)≠g:=λe=>by
     have hu2:=hm2.1.2.1;rw[HV ha h Qo,E' e.symm] at hu2;cases hu2
    rw[Aj9 j hj,show j=12+(j-12) by omega,JZ] at hm;unfold J8 at hm;simp only[A'] at hm;rw[KS ha h (Q5.2 ⟨Qo,Qo,hm.1.2.1⟩) fH]
  have e:QY (Zp (J0 W g) k c) (Zk (J0 W g) c) 20=QY (Zp W k c) (Zk W c) 20:=MM Aj9 hv;have rJ:=iv.fl k c hk c0 cl (by unfold Zw at hb ⊢; rwa[e] at hb);rw[KS ha h hk hkg];refine Int.le_trans (Int.le_of_eq ?_) rJ;unfold Zw at hb;have hb:=Ot hb;rw[e] at hb;unfold Z3;rw[e,C' Qo,C' Qo];rcases Zt (Zp W k c) (Zk W c) 20 with ⟨q,_⟩ | ⟨_,q2,q3,_⟩
  ·omega
  ·have IT:(QY (Zp W k c) (Zk W c) 20).toNat<20:=Qo;exact hv _ IT (by rw[Aj9 _ IT]; exact q3)
def ztt(W:Q7)(g:Int):Prop:=(∃h:Int,1<=h/\h<8/\(gi W.ID h).used=true/\(gi W.ID h).parent=g)\/∃t:Int,0<=t/\t<12/\(Q8 W t).state≠0/\(Q8 W t).group=g
noncomputable def BD(W:Q7)(g:Int):Int:=if g=0 then 1 else if Q6 W.ID g=false then 2 else if JI (ztt W g)=true then 4 else if QO W=false then 10 else 0
theorem zun{W:Q7}{g:Int}(hb:BD W g=0):zgw W g/\QO W=true:=by
 unfold BD at hb
 split at hb
 ·cases hb
 rename_i h1
 split at hb
 ·cases hb
 rename_i h2
 split at hb
 ·cases hb
 rename_i h3
 split at hb
 ·cases hb
 rename_i h4;have h3:¬ztt W g:=λh=>h3 (Qj.2 h)
 have hu:Q6 W.ID g=true:=by simpa using h2
 have:=(Q5.1 hu).1;exact⟨⟨Qo,hu,λh a b c d=>h3 (.inl ⟨h,a,b,c,d⟩),λt a b c d=>h3 (.inr ⟨t,a,b,c,d⟩)⟩,by simpa using h4⟩
end
def CQ(W:Q7)(c:Int):Int:=if YQ W c=false then 1 else if (gi W.IE c).cur<0 then 6 else 0
theorem z1s{W:Q7}{c:Int}(h:CQ W c=0):YQ W c=true/\0<=(gi W.IE c).cur:=by
 unfold CQ at h
 split at h
 ·cases h
 ·rename_i h1
  split at h
  ·cases h
  ·exact⟨by simpa using h1,Qo⟩
section
variable {W:Q7}{m:MW}{w:Wo}{bs:List Nat}
theorem Fi{c:Int}(h:Xl [] w W m)(hl:Xz W) :
  Cz VG #[.agg (Qa W m).toArray,I c] w λe w'=>∃v,e=.returned v/\QP (YK W (CQ W c) (RD W c)) w v w':=by
 refine EX _ _ _ _ _ _ _ _ _ _ c (R:=λv w'=>QP (YK W (CQ W c) (RD W c)) w v w') ?_;intro y hy y1 cX;have hm0:=XF;have tR:=hl.c;refine⟨_,Ur h hl.c hl.t hl.g hl.f,λg wr hx=>QP.bad (by simpa using g) hx,λg wr R3 Wc=>?_⟩;have hW:Qy W=true:=by simpa using g
 have wp:=Qj.1 hW;refine I4 (PC (h.ext R3) wp.a) ?_;rintro e wv ⟨m',he,hM,SJ⟩;have hK:=Wk.begin hy cX R3 Wc hM SJ;have hr:=hK.rd;refine⟨_,_,_,_,_,_,_,_,_,_,he,Qe SJ Wc,⟨Qo,Qo⟩,YQ W c,Qr,λg J' Ra=>?_,λg=>?_⟩
 ·have hb:CQ W c=1:=by unfold CQ; rw[E' (by simpa using g)]
  exact QP.no hW (by rw[hb]; decide) (hK.step Ra) hb
 have g:YQ W c=true:=by simpa using g
 obtain⟨c0,c1⟩:=Uy g;refine⟨hr.c.ix ZT c0 c1,_,hr.c.f c0 c1 (j:=1) rfl,λg2 O' Ra=>?_,λg2 RC SZ eM=>?_⟩
 ·have g2:=Ot g2;have hb:CQ W c=6:=by unfold CQ; rw[C' (by rw[g]; decide),E' g2]
  exact QP.no hW (by rw[hb]; decide) (hK.step Ra) hb
 have g2:=Ou g2;have hb:CQ W c=0:=by unfold CQ; rw[C' (by rw[g]; decide),C' g2]
 have eQ:=hK.step SZ;refine I4 (ZA eQ.own c0 c1) ?_;rintro e1 R4 ⟨gW,kW⟩;exact⟨_,_,_,_,_,_,_,_,_,_,gW,eQ.kept kW eM,λRQ Sw=>QP.ok hW hb ((eQ.SA kW eM).step Sw)⟩
theorem zr3(V:Q7)(t g c:Int)(m:MW):Qa (Uh V t g c) m=Qa V m:=by
 unfold Uh
 split <;> simp[Qa,RD,RX,IU]
theorem z05{K:Int}{W:Q7}(sw:SW K W){t:Int}(t0:0<=t)(t1:t<12)(n:(Q8 W t).state≠0):SW K (Z4 W t):=by
 unfold Z4;split
 ·have:=sw.t t t0 t1 n;exact sw.RD this.2.1 this.2.2
 ·exact sw
theorem Cd{t g:Int}(h:Xl [] w W m)(hl:Xz W) :
  Cz O3 #[.agg (Qa W m).toArray,I t,I g] w λe w'=>∃v,e=.returned v/\QP (YK W (zcu W t g) (zf2 W t g)) w v w':=by
 refine AS _ _ _ _ _ _ _ _ _ _ t g (R:=λv w'=>QP (YK W (zcu W t g) (zf2 W t g)) w v w') ?_;intro y hy y1 cX wr R3 Wc;refine I4 (Zh (h.ext R3) hl) ?_;rintro e wv (⟨hW,he,SJ⟩ | ⟨hW,m',he,hM,SJ⟩)
 ·exact⟨_,_,_,_,_,_,_,_,_,_,_,he,Qe SJ Wc,λ_ J' Ra=>QP.bad hW ((R3.trans SJ).fresh Ra λz hm=>.inl (Yw hy cX z hm)),λg=>by simp at g⟩
 have hK:=Wk.begin hy cX R3 Wc hM SJ;have hr:=hK.rd;have wp:=Qj.1 hW;have kG:=wp.a.t;refine⟨_,_,_,_,_,_,_,_,_,_,_,he,Qe SJ Wc,λg=>by split at g <;> simp at g,λ_=>⟨_,JS hr hl.t,_,λ_=>Xf hr.g,λq O' Ra=>?_,λq=>?_⟩⟩
 ·have hb:zcu W t g=2:=by
   unfold zcu;rw[E']
   simpa using q
  exact QP.no hW (by rw[hb]; decide) (hK.step Ra) hb
 simp only[I0,I7] at q;obtain⟨q1,q2⟩:=q;have n1:¬(Yj W t=false\/Q6 W.ID g=false):=by rw[q1,q2]; simp
 obtain⟨t0,t1,tn⟩:=X0 q1;have Wg:=hr.t.ix QM t0 t1;refine⟨λg3 RC Ra=>?_,λg3=>?_⟩
 ·have bU:¬QO W=true:=λhr=>by rw[E' hr] at g3; simp at g3
  have hb:zcu W t g=10:=by unfold zcu; rw[C' n1,E' (by simpa using bU)]
  rw[C' bU];exact QP.no hW (by rw[hb]; decide) (hK.step Ra) hb
 have bU:QO W=true:=Ir λhr=>by rw[C' hr] at g3; simp at g3
 have hb:zcu W t g=0:=by unfold zcu; rw[C' n1,C' (by rw[bU]; decide)]
 have sw:=Mq wp (Qj.1 bU);obtain⟨hu,c0,c1⟩:=sw.t t t0 Qo tn;refine⟨Wg,_,_,_,_,_,_,_,_,_,hr.t t t0 t1,λb2 dJ=>⟨λg4 RC SZ=>?_,λg4=>?_⟩⟩
 ·have g4:(Q8 W t).group=g:=by simpa[Q8] using g4
  have hE:zf2 W t g=W:=by unfold zf2; rw[E' g4]
  have:=QP.ok (W':=zf2 W t g) hW hb (m':=m') (hE.symm▸hK.step SZ)
  rwa[hE] at this ⊢
 have g4:¬(Q8 W t).group=g:=by simpa[Q8] using g4
 have hE:zf2 W t g=Qg (Uh (Z4 W t) t g (Fw W t g)):=by unfold zf2; rw[C' g4]
 obtain⟨m0,m1,_⟩:=zqo wp (g:=g) t0 Qo tn;have hK0:=hK.add dJ;refine⟨_,Jk hr wp.a.c2 wp.a.tree q2,λvs bs w1=>bs=[]/\vs=[I (Fw W t g)]/\Q0 [y,y1] wv w1,⟨_,Yb,λg5=>⟨_,Kr,λRQ Sw _=>⟨rfl,?_,Sw⟩⟩,λg5 Sh bJ _=>⟨rfl,?_,bJ⟩⟩,?_⟩
 ·have g5:¬Z0 (Qw W g (Q8 W t).mask) (Q8 W t).M'=true:=by simpa[Q8] using g5
  unfold Fw; rw[C' g5]; rfl
 ·have g5:Z0 (Qw W g (Q8 W t).mask) (Q8 W t).M'=true:=by simpa[Q8] using g5
  unfold Fw; rw[E' g5]; rfl
 rintro cv R4 dE ⟨-,hv,hxv⟩;simp only[I5,I6,true_and,and_true] at hv;subst hv;have C50:Q0 ([y,y1]++[b2]) wv R4:=hxv.mono λx hm=>Ib _ hm
 have hK1:=hK0.step C50;have e5:Qa (RD W (Q8 W t).M') m'=Qa W m':=by simp[Qa,RD,RX]
 refine⟨λvs bs w1=>bs=[]/\vs=Qa W m'/\Wk 8 ([y,y1]++[b2]) w w1 (Z4 W t) m',⟨hK1.rd.c.ix ZT c0 c1,_,hK1.rd.c.f c0 c1 (j:=1) rfl,λg6 Sz nN hs7=>?_,λg6 WQ mF _=>⟨rfl,rfl,?_⟩⟩,?_⟩
 ·have g6:(gi W.IE (Q8 W t).M').cur=t:=by simpa using g6
  have gV:=hK1.step nN;refine I4 (ZA gV.own c0 c1) ?_;rintro e1 Rr ⟨gW,kW⟩;rw[show Qa (RD W (gi W.tasks t).M') m'=Qa W m' from e5] at gW;refine⟨_,_,_,_,_,_,_,_,_,_,gW,gV.kept kW hs7,λW8 tG _=>⟨rfl,rfl,?_⟩⟩;have hlv:Z4 W t=RD W (Q8 W t).M':=by unfold Z4; rw[E' g6]
  rw[hlv];exact(gV.SA kW hs7).step tG
 ·have g6:¬(gi W.IE (Q8 W t).M').cur=t:=by simpa using g6
  have hlv:Z4 W t=W:=by unfold Z4; rw[C' g6]
  rw[hlv];exact hK1.step mF
 rintro l Sd Sn Sr Sj Sp Sq Sf Sg Si S5 fX ⟨-,hv,oJ⟩;simp only[Qa,I5,I6,Iw,true_and,and_true] at hv;obtain⟨rfl,⟨rfl,rfl,rfl⟩,⟨rfl,rfl,rfl⟩,rfl,rfl,rfl⟩:=hv;have swl:=z05 sw t0 Qo tn;have ht:(Z4 W t).tasks=W.tasks:=by unfold Z4; split <;> rfl
 have hg:(Z4 W t).ID=W.ID:=by unfold Z4; split <;> rfl
 have sK:(Z4 W t).IE.length=W.IE.length:=by
  unfold Z4; split
  ·exact H'
  ·rfl
 have hn:(Z4 W t).now=W.now:=by unfold Z4; split <;> rfl
 have eL:∀mm,Qa (Z4 W t) mm=Qa W mm:=λmm=>by simp[Qa,ht,hg,sK,hn]
 have tn2:(Q8 (Z4 W t) t).state≠0:=by rw[Jp ht]; exact tn
 have hu2:Q6 (Z4 W t).ID g=true:=by rw[hg]; exact q2
 have hm1:Fw W t g<((Z4 W t).IE.length:Int):=by rw[sK]; exact m1
 rw[hE];generalize Z4 W t=V at oJ swl eL tn2 hu2 hm1;generalize Fw W t g=c at m0 hm1;intro S9 AD0 oP;have eQ:=oJ.step AD0;have Rt:=V4 eQ.own (KF swl) (I3 _) (by simp only[Qi]; decide) (t:=t) (g:=g) (c:=c) t0 Qo tn2 hu2 m0 hm1;rw[eL] at Rt;refine I4 Rt ?_;rintro e2 bV ⟨aE,lB⟩;have dR:=eQ.SA lB oP;have sf2:=(y9 (KF swl) (I3 _) (t:=t) t0 Qo hu2 m0 hm1).2;have eP:Qa (Uh V t g c) m'=Qa W m':=by rw[<-eL]; exact zr3 V t g c m'
 refine⟨_,_,_,_,_,_,_,_,_,_,aE,eQ.kept lB oP,λSm AT2 AC9=>?_⟩;have tB:=dR.step AT2;have tP:=Qv tB.own sf2.w (by simp only[Qi]; decide) (by simp only[Qi]; decide) tB.base;rw[eP] at tP;refine I4 tP ?_;rintro e3 WJ ⟨m2,iP,hy5⟩;exact⟨_,_,_,_,_,_,_,_,_,_,iP,tB.kept hy5 AC9,λSv wL=>QP.ok hW hb ((tB.SA hy5 AC9).step wL)⟩
theorem Cj{g:Int}(h:Xl bs w W m)(hg8:W.ID.length=8)(CO8:W.tasks.length=12) :
  PX bs O9 #[.agg (Qa W m).toArray,I g] w (.bool (JI (ztt W g))):=
 CE _ _ _ _ _ _ _ _ _ _ g λwr hx=>by
  have h:=(h.ext hx).less (cs:=[]) Qs;intro b hb;refine XB 8 1 rfl (λk=>1<=k/\k<=8/\∀j:Int,1<=j->j<(k:Int)->¬((gi W.ID j).used=true/\(gi W.ID j).parent=g)) ⟨Qo,Qo,λj a b=>by omega⟩ λk ⟨hk1,hk8,lA⟩=>⟨λIT=>?_,λRN=>?_⟩
  ·have IT:=Ot IT;have k0:(0:Int)<=(k:Int):=Qo;refine⟨h.g.ix k0 IT,_,h.g.used k0 IT,λ_=>h.g.ix k0 IT,_,λ_=>h.g.parent k0 IT,λq=>?_,λq=>⟨⟨Qo,Qo⟩,QE Qo ⟨Qo,Qo,λj a b=>?_⟩⟩⟩
   ·rw[A',It] at q;exact zm8 (.inl ⟨(k:Int),Qo,Qo,q.1,q.2⟩)
   ·by_cases e:j<(k:Int)
    ·exact lA j a e
    ·have:j=(k:Int):=Qo;subst this;rintro⟨q1,q2⟩;rw[q1,It.2 q2] at q;cases q
  ·have RN:=Ou RN;refine XB 12 0 rfl (λk=>k<=12/\∀j:Int,0<=j->j<(k:Int)->¬((Q8 W j).state≠0/\(Q8 W j).group=g)) ⟨Qo,λj a b=>by omega⟩ λk2 ⟨sU,hnt⟩=>⟨λRM=>?_,λbK=>?_⟩
   ·have RM:=Ot RM;have k0:(0:Int)<=(k2:Int):=Qo;refine⟨h.t.ix QM k0 RM,_,h.t.f k0 RM (j:=0) rfl,λ_=>h.t.ix QM k0 RM,_,λ_=>h.t.f k0 RM (j:=1) rfl,λq=>?_,λq=>⟨⟨Qo,Qo⟩,QE Qo ⟨Qo,λj a b=>?_⟩⟩⟩
    ·rw[A',It,Iu] at q;exact zm8 (.inr ⟨(k2:Int),Qo,Qo,q.1,q.2⟩)
    ·by_cases e:j<(k2:Int)
     ·exact hnt j a e
     ·have:j=(k2:Int):=Qo;subst this;rintro⟨q1,q2⟩;have q1:(gi W.tasks (k2:Int)).state≠0:=q1;have q2:(gi W.tasks (k2:Int)).group=g:=q2;rw[Iu.2 q1,It.2 q2] at q;cases q
   ·have bK:=Ou bK;refine LI ?_;rintro (⟨j,a,b,c,d⟩ | ⟨j,a,b,c,d⟩)
    ·exact lA j a Qo ⟨c,d⟩
    ·exact hnt j a Qo ⟨c,d⟩
theorem BZ{g:Int}(h:Xl [] w W m)(hl:Xz W) :
  Cz Td #[.agg (Qa W m).toArray,I g] w λe w'=>∃v,e=.returned v/\QP (YK W (BD W g) (J0 W g)) w v w':=by
 refine BH _ _ _ _ _ _ _ _ _ _ g (R:=λv w'=>QP (YK W (BD W g) (J0 W g)) w v w') ?_;intro x hx x1 S4 wr R3 Wc;refine I4 (Vq (g:=g) (ok:=true) (h.ext R3) hl) ?_;rintro e wv (⟨hW,he,hy⟩ | ⟨hW,m',he,hM,hy⟩)
 ·exact⟨_,_,_,_,_,_,_,_,_,_,_,he,Qe hy Wc,λ_ J' Ra=>QP.bad hW ((R3.trans hy).fresh Ra λy hm=>.inl (Yw hx S4 y hm)),λg=>by simp at g⟩
 have hK:=Wk.begin hx S4 R3 Wc hM hy;have hr:=hK.rd;have wp:=Qj.1 hW;refine⟨_,_,_,_,_,_,_,_,_,_,_,he,Qe hy Wc,λg1 J' Ra=>?_,λg1=>⟨_,Cj hr wp.a.gl wp.a.t,λg2 O' Ra=>?_,λg2=>⟨λg3 Ru Ra=>?_,λg3=>?_⟩⟩⟩
 ·have hb:BD W g=K5 W g true:=by
   by_cases h0:g=0
   ·unfold BD K5;rw[E' h0,E' (.inr h0)]
   ·have e0:¬(true=false\/g=0):=by simp[h0]
    by_cases h1:Q6 W.ID g=false
    ·unfold BD K5;rw[C' h0,C' e0,E' h1,E' h1]
    ·exfalso
     unfold K5 at g1;rw[C' e0,C' h1] at g1
     split at g1 <;> simp at g1
  exact QP.no hW (λh0=>by rw[<-hb,h0] at g1; simp at g1) (hK.step Ra) hb
 all_goals
  have g1':¬g=0/\¬Q6 W.ID g=false:=by
   unfold K5 at g1
   by_cases h0:g=0
   ·rw[E' (.inr h0)] at g1; simp at g1
   ·refine⟨h0,λh1=>?_⟩;rw[C' (show ¬(true=false\/g=0) by simp[h0]),E' h1] at g1;simp at g1
  have hgB:K5 W g true=if QO W=false then 10 else 0:=by
   unfold K5;rw[C' (show ¬(true=false\/g=0) by simp[g1'.1]),C' g1'.2]
 ·have hb:BD W g=4:=by unfold BD; rw[C' g1'.1,C' g1'.2,E' g2]
  exact QP.no hW (by rw[hb]; decide) (hK.step Ra) hb
 ·have bU:QO W=false:=by
   cases hq:QO W with
   | false=>rfl
   | true=>rw[hgB,hq] at g3; simp at g3
  have hb:BD W g=10:=by unfold BD; rw[C' g1'.1,C' g1'.2,C' (by rw[g2]; decide),E' bU]
  rw[hgB,E' bU];exact QP.no hW (by rw[hb]; decide) (hK.step Ra) hb
 ·have bU:QO W=true:=by
   cases hq:QO W with
   | true=>rfl
   | false=>rw[hgB,hq] at g3; simp at g3
  have hb:BD W g=0:=by unfold BD; rw[C' g1'.1,C' g1'.2,C' (by rw[g2]; decide),C' (by rw[bU]; decide)]
  have hu:Q6 W.ID g=true:=by simpa using g1'.2
  obtain⟨u0,u1,_⟩:=Q5.1 hu;have cJ:=wp.a.gl
  have SY:Wk 8 [x,x1] w (R8 wv m'.gO (Int.toNat g*14) (Yt zd5 Cr)) (J0 W g) (PG m' g.toNat Cr):=
   ⟨hK.s.call FV λy hy=>(hK.own.lt y hy).1,⟨hK.own.B02 u0 Qo (g:=zd5) (p:=Cr) (j:=0) (vs:=Yt zd5 Cr) ⟨.inl ⟨rfl,rfl,rfl⟩,.inl ⟨rfl,rfl,rfl⟩,.inl ⟨rfl,rfl,rfl⟩⟩ (λy hy=>by simp[Qm,Cr,QD] at hy) (by simp[Yt]) (by simp[Yt]),λy hy hm=>by
    rcases Oq y hy with h1 | h1
    ·exact hK.nb y h1 hm
    ·simp[Qm,Cr,QD] at h1⟩⟩
  refine⟨hr.g.ix u0 u1,zd7 hK.own hK.nb u0 Qo (j:=0) Qd,λRC SZ=>?_⟩;have BC8:=QP.ok hW hb (SY.step SZ);have ew:Qa (J0 W g) (PG m' g.toNat Cr)=Qa W m':=by simp[Qa,J0,Re,PG]
  rw[ew] at BC8;have hgz:K5 W g true=0:=by rw[hgB,C' (by rw[bU]; decide)]
  exact BC8
end
theorem zyk{V:Q7}(ha:WA V):Xz V:=by
 have h1:=ha.c2;have h2:=ha.t;have h3:=ha.gl;have hm:=Zo;have hn1:=ha.n1;have hn2:=ha.n2;refine⟨Qo,Qo,Qo,λi a b=>?_⟩;have hb:=Kk ha a Qo;have hg:=ha.grp i a Qo;have hz:(⟨[].toArray⟩:ByteArray).size=0:=rfl;refine⟨?_,?_,Qo,Qo,Qo⟩
 ·cases hu:(gi V.ID i).used with
  | false=>rw[(hg.1 hu).n,hz]; omega
  | true=>
   by_cases e:i=0
   ·rw[e,ha.tree.rn,hz]; omega
   ·have:=(L1.1 (ha.tree.nm i Qo Qo hu)).1;omega
 cases hu:(gi V.ID i).used with
 | false=>rw[(hg.1 hu).ne]; exact⟨Qd,Qd⟩
 | true=>
  have hg:=hg.2 hu
  by_cases hq:(gi V.ID i).IN.IY=0
  ·rw[(hg.none hq).2.2]; exact⟨Qd,Qd⟩
  ·have:=hg.IN hq;exact⟨Qo,Qo⟩
theorem Gz{n:Nat}{p:Int}{name:ByteArray}{w:Wo}(hn:n<=4) :
  Cz Vk #[I (n:Int),I p,.string name] w λe w'=>∃mg,e=.returned (.agg (Yt (PF n p name) mg).toArray)/\Py w.heap.size w' (PF n p name,mg)/\Q0 [] w w':=by
 refine(zbn (n:Int) p name (R:=λv w'=>∃mg,v=.agg (Yt (PF n p name) mg).toArray/\Py w.heap.size w' (PF n p name,mg)/\Q0 [] w w') ?_).mono λe w' ⟨v,he,mg,hv,h3⟩=>⟨mg,by rw[he,hv],h3⟩
 intro b hb b1 fD
 refine⟨λvs w2=>∃(k:Nat) (o:OA) (cap:Nat),vs=[I (k:Int),.bool true,I p,.string name,I 10,I 15,I 0,I 0,I 0,I 0,I 0,I 0,.slice none 0 0,.slice none 0 0,.slice o k cap]/\k<=n/\Sc w [b,b1] w2/\Ob PS 5 YP w.heap.size [b,b1] w2 o cap (List.replicate k zf3),
  Zs n 0,λwr hx _=>⟨0,none,0,rfl,Ie _,(((Sc.start w).add hb).add fD).R6 hx,⟨.inl ⟨rfl,rfl,rfl⟩,by simp[QD]⟩⟩,?_⟩
 rintro c1 l l1 l2 l3 l4 l5 l6 l7 l8 l9 l10 oU oT oS AN3 AN2 AN1 AN5 vS AN4 wv Wc ⟨k,o,cap,he,hk,s1,hO⟩;simp only[I5,I6,Value.bool.injEq,Value.string.injEq,Iw,true_and,and_true] at he;obtain⟨rfl,rfl,rfl,rfl,rfl,rfl,rfl,rfl,rfl,rfl,rfl,rfl,⟨rfl,rfl,rfl⟩,⟨rfl,rfl,rfl⟩,rfl,rfl,rfl⟩:=he;refine⟨λIT=>?_,λRN=>?_⟩
 ·have IT:=Ot IT;intro b3 hb3 Ru Ra fX Ws;have s2:=s1.put Ra hb3;have oK:=hO.put Ra hb3;obtain⟨o2,c2,w2,WH,vP,hO3,R3⟩:=oK.AQ6 VR Pq (x:=zf3) fX s2.ext.size Ws (z1g _) (by simp; omega) Qd Z9 #[false,false];have s3:=s2.call R3 λx hm=>(oK.own.lt x hm).1
  have hL:List.replicate vS zf3++[zf3]=List.replicate (vS+1) zf3:=by rw[List.replicate_succ']
  rw[hL] at WH hO3;rw[List.length_replicate,List.length_replicate] at WH;exact⟨_,_,_,w2,WH,vP,⟨Qo,Qo⟩,λRC SZ _=>⟨⟨vS+1,o2,c2,Qs,Qo,(s3.step SZ).sub Qs,(hO3.step SZ).sub Qs⟩,Zc (k:=vS) rfl rfl Qo⟩⟩
 ·have RN:=Ou RN;have:vS=n:=Qo;subst this;intro RQ Sw;refine⟨⟨none,0,none,0,AN5,AN4⟩,?_,⟨.inl ⟨rfl,rfl,rfl⟩,.inl ⟨rfl,rfl,rfl⟩,(hO.step Sw).own⟩,(s1.step Sw).ext⟩;simp[Yt,PF,QZ]
theorem z2l:QR≠Zy:=Qd
theorem zzy:QL≠Zy:=Qd
theorem z2k:QL≠QR:=Qd
theorem F7{i:Int}(h0:0<=i)(h1:i<8):gi (List.replicate 8 P8) i=P8:=by
 obtain⟨k,rfl⟩:=Int.eq_ofNat_of_zero_le h0;rw[U8 (by rw[List.length_replicate]; omega)];exact List.getElem_replicate _
theorem zsx{base:Nat}{w:Wo}{o:OA}{cap:Nat}(h:Ud TH 14 QL base w o cap (List.replicate 8 P8)):KN base w o cap (List.replicate 8 P8):=by
 refine⟨h,λi h0 h1=>?_,λi j h0 h1 _ _ _ x hm=>?_⟩
 ·rw[F7 h0 (by simpa using h1)];exact⟨.inl ⟨rfl,rfl,rfl⟩,.inl ⟨rfl,rfl,rfl⟩,.inl ⟨rfl,rfl,rfl⟩⟩
 ·rw[F7 h0 (by simpa using h1)] at hm;simp[Qm,P8,QD] at hm
section
variable {w:Wo}{b:Nat}
def z23(b:Nat)(w:Wo)(vs:List Va)(bs:List Nat)(w2:Wo):Prop:=
 ∃(bx:Nat) (tO gO:OA) (tC gC:Nat),bs=[bx]/\vs=[I 0,.slice none 0 0,.slice tO 12 tC,.slice gO 8 gC]/\Sc w [b,bx] w2/\Ob Xa 9 QR w.heap.size [b,bx] w2 tO tC (List.replicate 12 TX)/\Ob TH 14 QL w.heap.size [b,bx] w2 gO gC (List.replicate 8 P8)
theorem zvo{bs:List Nat}{w1:Wo}(s:Sc w bs w1)(hs:∀x∈bs,x<w1.heap.size):∃(o:OA) (c:Nat) (w2:Wo),(Instr.makeSlice Z2 (I 12) (I 12):Sem Va).run Tryz.prog w1=.ok (.slice o 12 c) w2/\Q9 bs w1 w2/\Q0 [] w1 w2/\Ob Xa 9 QR w.heap.size bs w2 o c (List.replicate 12 TX):=
 ⟨_,_,_,Kd OX Ms 12 Qd (by have:=Zo; omega) w1,Qe (Z8 _ _) hs,Z8 _ _,(Ob.of (V7 (enc:=Xa) OX.len QR 12 TX w1) hs).mono s.ext.size⟩
theorem zvn{bs:List Nat}{w1:Wo}(s:Sc w bs w1)(hs:∀x∈bs,x<w1.heap.size):∃(o:OA) (c:Nat) (w2:Wo),(Instr.makeSlice QA (I 8) (I 8):Sem Va).run Tryz.prog w1=.ok (.slice o 8 c) w2/\Q9 bs w1 w2/\Q0 [] w1 w2/\Ob TH 14 QL w.heap.size bs w2 o c (List.replicate 8 P8):=
 ⟨_,_,_,Kd Y7 Pp 8 Qd (by have:=Zo; omega) w1,Qe (Z8 _ _) hs,Z8 _ _,(Ob.of (V7 (enc:=TH) Y7.len QL 8 P8 w1) hs).mono s.ext.size⟩
theorem Ch{n:Nat}(n0:1<=n)(n1:n<=4) :
  Cz O7 #[I (n:Int)] w λe w'=>∃m,e=.returned (.tuple #[.agg (Qa (Ug n) m).toArray,.bool true])/\Zj 8 w.heap.size w' (Ug n) m/\Q0 [] w w':=by
 refine(AW (n:Int) (R:=λv w'=>∃m,v=.tuple #[.agg (Qa (Ug n) m).toArray,.bool true]/\Zj 8 w.heap.size w' (Ug n) m/\Q0 [] w w') ?_).mono λe w' ⟨v,he,m,hv,h3⟩=>⟨m,by rw[he,hv],h3⟩
 intro b hb;have uM:YJ (n:Int) 1 4=true:=Qt.2 ⟨Qo,Qo⟩;have s0:Sc w [b] w:=(Sc.start w).add hb;refine⟨_,Qr,λg=>(by rw[uM] at g; cases g),λ_=>⟨z23 b w,?_,?_⟩⟩
 ·refine⟨λJ' S4 dE=>?_,λSh bJ hs6=>?_,λb5 hb5=>⟨λSm AT2 AC9=>?_,λWj BS9 C37=>?_⟩⟩
  ·have s1:=s0.R6 S4;obtain⟨tO,tC,w2,hr,hk,he,hT⟩:=zvo s1 dE;have s2:=s1.R6 he;refine⟨_,_,_,w2,hr,hk,λO' R3 Wc=>?_,λb2 dJ RC SZ eM=>?_⟩
   ·have s3:=s2.step R3;obtain⟨gO,gC,w3,hr3,hk3,iP,hG⟩:=zvn s3 Wc;exact⟨_,_,_,w3,hr3,hk3,λb1 fD Ru Ra _=>⟨b1,tO,gO,tC,gC,rfl,rfl,(s3.R6 iP).put Ra fD,((hT.step R3).R6 iP).put Ra fD,hG.put Ra fD⟩⟩
   ·have s3:=s2.put SZ dJ;obtain⟨gO,gC,w3,hr3,hk3,iP,hG⟩:=zvn s3 eM;exact⟨_,_,_,w3,hr3,hk3,λRQ Sw _=>⟨b2,tO,gO,tC,gC,rfl,rfl,(s3.R6 iP).step Sw,((hT.put SZ dJ).R6 iP).step Sw,hG.step Sw⟩⟩
  ·have s1:=s0.R6 bJ;obtain⟨gO,gC,w2,hr,hk,he,hG⟩:=zvn s1 hs6;have s2:=s1.R6 he;refine⟨_,_,_,w2,hr,hk,λO' R3 Wc=>?_,λb2 dJ RC SZ eM=>?_⟩
   ·have s3:=s2.step R3;obtain⟨tO,tC,w3,hr3,hk3,iP,hT⟩:=zvo s3 Wc;exact⟨_,_,_,w3,hr3,hk3,λb1 fD Ru Ra _=>⟨b1,tO,gO,tC,gC,rfl,rfl,(s3.R6 iP).put Ra fD,hT.put Ra fD,((hG.step R3).R6 iP).put Ra fD⟩⟩
   ·have s3:=s2.put SZ dJ;obtain⟨tO,tC,w3,hr3,hk3,iP,hT⟩:=zvo s3 eM;exact⟨_,_,_,w3,hr3,hk3,λRQ Sw _=>⟨b2,tO,gO,tC,gC,rfl,rfl,(s3.R6 iP).step Sw,hT.step Sw,((hG.put SZ dJ).R6 iP).step Sw⟩⟩
  ·have s1:=(s0.add hb5).R6 AT2;obtain⟨tO,tC,w2,hr,hk,he,hT⟩:=zvo s1 AC9;refine⟨_,_,_,w2,hr,hk,λO' R3 Wc=>?_⟩;have s3:=(s1.R6 he).step R3;obtain⟨gO,gC,w3,hr3,hk3,iP,hG⟩:=zvn s3 Wc;exact⟨_,_,_,w3,hr3,hk3,λRQ Sw _=>⟨b5,tO,gO,tC,gC,rfl,rfl,(s3.R6 iP).step Sw,((hT.step R3).R6 iP).step Sw,hG.step Sw⟩⟩
  ·have s1:=(s0.add hb5).R6 BS9;obtain⟨gO,gC,w2,hr,hk,he,hG⟩:=zvn s1 C37;refine⟨_,_,_,w2,hr,hk,λO' R3 Wc=>?_⟩;have s3:=(s1.R6 he).step R3;obtain⟨tO,tC,w3,hr3,hk3,iP,hT⟩:=zvo s3 Wc;exact⟨_,_,_,w3,hr3,hk3,λRQ Sw _=>⟨b5,tO,gO,tC,gC,rfl,rfl,(s3.R6 iP).step Sw,hT.step Sw,((hG.step R3).R6 iP).step Sw⟩⟩
 ·rintro l Sd Sn Sr Sj Sp Sq Sf Sg Si b6 dD oP ⟨bx,tO,gO,tC,gC,hbx,hv,s1,hT,hG⟩;simp only[I5,I6,Iw,true_and,and_true] at hbx hv;subst hbx;obtain⟨rfl,⟨rfl,rfl,rfl⟩,⟨rfl,rfl,rfl⟩,rfl,rfl,rfl⟩:=hv
  refine⟨λvs w2=>∃(k:Nat) (o:OA) (cap:Nat),vs=[I (k:Int),I 0,.slice o k cap,.slice Sj 12 Sq,.slice Sf 8 Si]/\k<=n/\Sc w [b,b6] w2/\Ob KU 5 Zy w.heap.size [b,b6] w2 o cap (List.replicate k (⟨true,-1,0,0,0⟩:Px))/\Ob Xa 9 QR w.heap.size [b,b6] w2 Sj Sq (List.replicate 12 TX)/\Ob TH 14 QL w.heap.size [b,b6] w2 Sf Si (List.replicate 8 P8),
   Zs n 0,λwr hx _=>⟨0,none,0,rfl,Ie _,s1.step hx,⟨.inl ⟨rfl,rfl,rfl⟩,by simp[QD]⟩,hT.step hx,hG.step hx⟩,?_⟩
  rintro c1 l4 nP jS nO nJ qC nI lW oX nQ wv Wc ⟨k,o,cap,he,hk,s2,hC,hT2,hG2⟩;simp only[I5,I6,Iw,true_and,and_true] at he;obtain⟨rfl,rfl,⟨rfl,rfl,rfl⟩,⟨rfl,rfl,rfl⟩,rfl,rfl,rfl⟩:=he;clear hT hG;refine⟨λIT=>?_,λRN=>?_⟩
  ·have IT:=Ot IT;intro b3 hb3 Ru Ra fX Ws;have s3:=s2.put Ra hb3;have hC2:=hC.put Ra hb3;obtain⟨o2,c2,w2,WH,vP,hC3,R3⟩:=hC2.AQ6 KT Kf (x:=(⟨true,-1,0,0,0⟩:Px)) fX s3.ext.size Ws (z1e _) (by simp; omega) Qd Zr #[false,false];have s4:=s3.call R3 λx hm=>(hC2.own.lt x hm).1
   have hT3:=(hT2.put Ra hb3);have hT4:Ob Xa 9 QR w.heap.size [b,b6,b3] w2 nJ nI (List.replicate 12 TX):=⟨hT3.own.ext R3 (hT3.own.Wb hC2.own z2l),hT3.nb⟩;have hG3:=(hG2.put Ra hb3);have hG4:Ob TH 14 QL w.heap.size [b,b6,b3] w2 lW nQ (List.replicate 8 P8):=⟨hG3.own.ext R3 (hG3.own.Wb hC2.own zzy),hG3.nb⟩;have hL:List.replicate jS (⟨true,-1,0,0,0⟩:Px)++[⟨true,-1,0,0,0⟩]=List.replicate (jS+1) (⟨true,-1,0,0,0⟩:Px):=by rw[List.replicate_succ']
   rw[hL] at WH hC3;rw[List.length_replicate,List.length_replicate] at WH;exact⟨_,_,_,w2,WH,vP,⟨Qo,Qo⟩,λRC SZ _=>⟨⟨jS+1,o2,c2,Qs,Qo,(s4.step SZ).sub Qs,(hC3.step SZ).sub Qs,(hT4.step SZ).sub Qs,(hG4.step SZ).sub Qs⟩,Zc (k:=jS) rfl rfl Qo⟩⟩
  ·have RN:=Ou RN;have:jS=n:=Qo;subst this;intro RQ Sw lV;have s3:=s2.step Sw;have hC3:=hC.step Sw;have hT3:=hT2.step Sw;have hG3:=hG2.step Sw;refine(Gz n1).mono λe w3 ⟨mg,he,hM,Ra⟩=>?_
   have s4:=s3.R6 Ra;have hC4:=hC3.R6 Ra;have hT4:=hT3.R6 Ra;have hG4:=hG3.R6 Ra;have G:=zsx hG4.own
   have hmb:∀x∈Qm mg,x∉[b,b6]:=λx hm hx=>by
    have h1:=(hM.lt x hm).1;have h2:=lV x hx;omega
   have P:=G.put (i:=0) (I3 _) Qs (p:=(PF jS (-1) ⟨[].toArray⟩,mg)) (hM.mono s3.ext.size) λj j0 j1 _ x hm=>by
    rw[F7 j0 (by simpa using j1)] at hm;simp[Qm,P8,QD] at hm
   have hxs:=hG4.own.qR (Int.toNat 0*14) (TH (PF jS (-1) ⟨[].toArray⟩,mg));have s5:Sc w [b,b6] (R8 w3 lW (Int.toNat 0*14) (TH (PF jS (-1) ⟨[].toArray⟩,mg))):=⟨hG4.own.Ck6 _ _ s4.ext (I8 _),s4.new⟩;have hC5:=hC4.own.ext hxs (hC4.own.Wb hG4.own zzy.symm);have hT5:=hT4.own.ext hxs (hT4.own.Wb hG4.own z2k.symm);refine⟨_,_,_,_,_,_,_,_,_,_,_,_,_,_,_,_,_,_,_,_,he,Qe Ra lV,rfl,hG4.own.ix (I3 _) Qs,hG4.own.wr Y7.len hG4.nb (i:=0) (j:=0) (I3 _) Qs Qd,λwr hx=>⟨⟨nP,nO,nJ,nI,lW,nQ,λk=>if k=0 then mg else P8.2⟩,?_,⟨?_,?_,?_,rfl⟩,(s5.step hx).ext⟩⟩
   ·simp[Qa,Ug]
   ·exact hC5.ext hx hC4.nb
   ·exact hT5.ext hx hT4.nb
   ·have hps:zoq (Ug jS) ⟨nP,nO,nJ,nI,lW,nQ,λk=>if k=0 then mg else P8.2⟩=(List.replicate 8 P8).set (Int.toNat 0) (PF jS (-1) ⟨[].toArray⟩,mg):=rfl;rw[hps];refine⟨P.row.ext hx hG4.nb,λi i0 i1=>(P.each i i0 i1).ext hx λx hm=>?_,P.dj⟩;have hi8:i<8:=by simpa using i1
    have:=QI (List.replicate 8 P8) (PF jS (-1) ⟨[].toArray⟩,mg) (i:=0) (j:=i) (I3 _) Qs i0;rw[this] at hm
    split at hm
    ·exact hmb x hm
    ·rw[F7 i0 hi8] at hm;simp[Qm,P8,QD] at hm
end
end Go.Proofs.YtnclplgaicdapaaGreatDoor
