/- Part 13 of what the law FnEither needs. -/
import Derived.Test.YtjinkcmkgnofjaaGreatDoorFnEitherPl
import Derived.Shelf.Abstract
set_option linter.all false
set_option maxRecDepth 100000
set_option maxHeartbeats 8000000
namespace Go.Proofs.YtjinkcmkgnofjaaGreatDoor
open Go.RowKit
def z5d(W:Q7)(a b:Int):Bool:=decide (FP W a>FP W b)
def Kj(W:Q7)(c m:Int):Nat->Int
 |0 => -1
 |k+1=>if ((Zk m (k:Int)&&ztx W (k:Int) c)&&(decide (Kj W c m k<0)||z5d W (k:Int) (Kj W c m k)))=true then (k:Int) else Kj W c m k
def zwv{W:Q7}{c m:Int}{k:Nat}(h:((Zk m (k:Int)&&ztx W (k:Int) c)&&(decide (Kj W c m k<0)||z5d W (k:Int) (Kj W c m k)))):Kj W c m (k+1)=(k:Int):=C' h
def zr6{W:Q7}{c m:Int}{k:Nat}(h:¬((Zk m (k:Int)&&ztx W (k:Int) c)&&(decide (Kj W c m k<0)||z5d W (k:Int) (Kj W c m k)))):Kj W c m (k+1)=Kj W c m k:=B' h
def z0n{p:Nat->Bool}{n:Nat}(h:p n=false):TV p (n+1)=TV p n:=by simp[TV,h]
def zch(W:Q7)(c m:Int):∀k:Nat,-1<=Kj W c m k/\Kj W c m k<k
 |0=>by simp[Kj]
 |k+1=>by
  have:=zch W c m k;simp only[Kj]
  split <;> omega
noncomputable def P2(W:Q7)(c lv:Int):Int:=Kj W c (z6d (W.IF.length:Int) c lv) W.IF.length
def z3h{W:Q7}(wp:XV W){b c:Int}(h:ztx W b c):0<=b/\b<(W.IF.length:Int)/\b≠c:=by
 obtain⟨t,ht,hp⟩:=E4.1 h;simp only[A',Is] at hp;obtain⟨h1,h2⟩:=Ah hp.2;have:=wp.li (t:=(t:Int)) Qo (by have:=wp.a.t;omega) h1;rw[hp.1] at this h2;exact⟨this.2.1,this.2.2,h2⟩
section
variable {W:Q7}{m:MW}{w:Wo}{bs:List Nat}{p:OA}
def FI{s c:Int}(h:J6 bs w W m)(wp:XV W)(c0:0<=c)(c1:c<(W.IF.length:Int)):PX bs VO #[.agg (Qa W m).toArray,I s,I c] w (I (Kj W c s W.IF.length)):=
 B5 _ _ _ _ _ _ _ _ _ _ s c λwr hx=>by
  have h:=(h.ext hx).less (cs:=[]) Qs;have h4:=wp.a.c2;have qT:=wp.a.t;intro _ _;refine P9 W.IF.length 0 rfl (λx k=>k<=W.IF.length/\x=Kj W c s k) ⟨Ic _,rfl⟩ λx k ⟨hk,Rg⟩=>⟨λIV=>?_,λRW=>?_⟩
  ·subst Rg;have IV:=Ot IV;have hr:=zch W c s k;refine⟨_,λ_=>Yk,_,λ_ _=>TA h wp,_,λ_ _=>TA h wp,λg=>?_,λg=>?_⟩
   ·refine⟨⟨Qo,Qo⟩,QP Qo ⟨Qo,?_⟩⟩;rw[zr6];intro hc;simp only[A'] at hc;have eO:=(z3h wp hc.1.2).2.2;rw[beq_eq_false_iff_ne.2 eO,hc.1.1] at g;simp only[Bool.not_true,Bool.or_self,Bool.false_or,A',Ij] at g;unfold z5d at hc;simp only[Iu,Ij] at hc;omega
   ·simp only[H',I6] at g;obtain⟨⟨g1,g2⟩,g3⟩:=g
    have hb:(decide (Kj W c s k<0)||z5d W (k:Int) (Kj W c s k)):=by
     unfold z5d;simp only[Iu,Ij];simp only[Bool.and_eq_false_iff,decide_eq_false_iff_not] at g3;omega
    refine P9 12 0 rfl (λy j=>j<=12/\y=if TV (λt=>((Q8 W (t:Int)).R2==(k:Int))&&UY W (t:Int) c) j=true then (k:Int) else Kj W c s k) ⟨Ic _,rfl⟩ λy j ⟨hj,hy⟩=>⟨λRe=>?_,λbK=>?_⟩
    ·have Re:=Ot Re;have AH4:j<12:=Qo;refine⟨h.t.ix QT Qo Re,_,h.t.f Qo Re (j:=2) rfl,_,λ_=>Gd h wp Qo Re c0 c1,λg4=>?_,λg4=>?_⟩
     ·have g4:(((Q8 W (j:Int)).R2==(k:Int))&&UY W (j:Int) c):=g4;refine⟨⟨Qo,Qo⟩,QP AH4 ⟨Qo,?_⟩⟩;rw[C'];simp only[TV,Iu];exact .inr g4
     ·have g4:(((Q8 W (j:Int)).R2==(k:Int))&&UY W (j:Int) c)=false:=g4;refine⟨⟨Qo,Qo⟩,QP AH4 ⟨Qo,?_⟩⟩;rw[hy,z0n (p:=λt=>((Q8 W (t:Int)).R2==(k:Int))&&UY W (t:Int) c) g4]
    ·have bK:=Ou bK;have:j=12:=Qo;subst this;refine⟨⟨Qo,Qo⟩,QP Qo ⟨Qo,?_⟩⟩;rw[hy];show (if ztx W (k:Int) c=true then (k:Int) else Kj W c s k)=_
     cases ha:ztx W (k:Int) c with
     |true=>rw[zwv (by rw[g2,ha,hb];rfl),C' rfl]
     |false=>rw[zr6 (by rw[ha];simp),B' Qd]
  ·have RW:=Ou RW;have:k=W.IF.length:=Qo;subst this;rw[Rg]
end
def zms(cs:List PZ){c:Int}(c0:0<=c):∀k:Nat,k<=4->c<(k:Int)->(gi cs c).up->Zk (Vj cs k) c=true
 |0,_,h,_=>by omega
 |k+1,hk,h,hu=>by
  have hl:=HZ cs k Qo
  have hb:Uc k<=8:=by
   have:k=0\/k=1\/k=2\/k=3:=Qo;rcases this with rfl|rfl|rfl|rfl <;> decide
  have key:=znu ⟨k,Qo⟩ ⟨(Vj cs k).toNat,Qo⟩ ⟨c.toNat,Qo⟩;rw[show ((⟨(Vj cs k).toNat,Qo⟩:Fin 8).val:Int)=Vj cs k by show (((Vj cs k).toNat:Nat):Int)=Vj cs k;omega,show ((⟨c.toNat,Qo⟩:Fin 4).val:Int)=c by show ((c.toNat:Nat):Int)=c;omega] at key;simp only[Vj]
  by_cases e:c=(k:Int)
  ·subst e;rw[C' hu,key hl.2];simp
  ·have ih:=zms cs c0 k Qo Qo hu;split
   ·rw[key hl.2,ih];simp
   ·exact ih
def EI{cs:List PZ}(h4:cs.length<=4){c:Int}(c0:0<=c)(c1:c<(cs.length:Int))(hu:(gi cs c).up):JC cs≠0:=λe=>by
 have h:=zms cs c0 cs.length h4 c1 hu;rw[show Vj cs cs.length=0 from e] at h;have hr:=Mt h;have:c=0\/c=1\/c=2\/c=3:=Qo;rcases this with rfl|rfl|rfl|rfl <;> exact Ir h Qd
def zym{m c:Int}(c0:0<=c)(c4:c<4)(h:Zk m c)(hn:∀j:Int,0<=j->j<4->j≠c->Zk m j=false):Eo m 4=1:=by
 have h0:=hn 0 Qd Qd;have h1:=hn 1 Qd Qd;have h2:=hn 2 Qd Qd;have h3:=hn 3 Qd Qd;have i0:((0:Nat):Int)=0:=rfl;have i1:((1:Nat):Int)=1:=rfl;have i2:((2:Nat):Int)=2:=rfl;have i3:((3:Nat):Int)=3:=rfl;have:c=0\/c=1\/c=2\/c=3:=Qo;simp only[Eo,i0,i1,i2,i3];rcases this with rfl|rfl|rfl|rfl
 ·have e1:=h1 Qd;have e2:=h2 Qd;have e3:=h3 Qd;simp[h,e1,e2,e3]
 ·have e1:=h0 Qd;have e2:=h2 Qd;have e3:=h3 Qd;simp[h,e1,e2,e3]
 ·have e1:=h0 Qd;have e2:=h1 Qd;have e3:=h3 Qd;simp[h,e1,e2,e3]
 ·have e1:=h0 Qd;have e2:=h1 Qd;have e3:=h2 Qd;simp[h,e1,e2,e3]
def zvx{cs:List PZ}(h4:cs.length<=4){c:Int}(c0:0<=c)(c1:c<(cs.length:Int))(hu:(gi cs c).up)(hn:Eo (JC cs) 4≠1):∃j:Int,0<=j/\j<(cs.length:Int)/\j≠c/\(gi cs j).up:=by
 refine Classical.byContradiction λeO=>hn (zym c0 Qo (zms cs c0 cs.length h4 c1 hu) λj j0 j4 hj=>?_)
 cases h:Zk (JC cs) j with
 |false=>rfl
 |true=>
  obtain⟨a,b⟩:=zmr cs (c:=j) cs.length h4 h;exact Ir ⟨j,j0,a,hj,b⟩ eO
def SW.RM{K:Int}{W:Q7}(h:SW K W){c:Int}(c0:0<=c)(c1:c<(W.IF.length:Int)){x:PZ}(hu:JC (W.IF.set c.toNat x)≠0)(h1 : -1<=x.cur)(h2:x.cur<12):SW K (RM W c x):=by
 have hl:(W.IF.set c.toNat x).length=W.IF.length:=E';have hg:∀d:Int,0<=d->gi (W.IF.set c.toNat x) d=if c=d then x else gi W.IF d:=λd d0=>QE _ _ c0 c1 d0
 refine⟨h.a.cp hl hu,λt a b n=>?_,h.tv,λk d u a b=>?_,λd a b=>?_⟩
 ·show _/\_/\_<(((W.IF.set c.toNat x).length:Nat):Int);rw[hl];exact h.t t a b n
 ·have b:d<(((W.IF.set c.toNat x).length:Nat):Int):=b;rw[hl] at b;exact h.s k d u a b
 ·have b:d<(((W.IF.set c.toNat x).length:Nat):Int):=b;rw[hl] at b;show _<=(gi (W.IF.set c.toNat x) d).cur/\(gi (W.IF.set c.toNat x) d).cur<12;rw[hg _ a];split
  ·exact⟨h1,h2⟩
  ·exact h.cu d a b
noncomputable def UZ(W:Q7)(c:Int)(up:Bool)(last:Int):Int:=if X5 W c=false then 1 else if (gi W.IF c).up≠up then 6 else if last≠0 then last else if QO W=false then 10 else 0
def zkv{W:Q7}{c:Int}{up:Bool}{last:Int}(h:UZ W c up last=0):X5 W c/\(gi W.IF c).up=up/\last=0/\QO W:=by
 unfold UZ at h
 split at h
 ·cases h
 ·rename_i h1
  split at h
  ·cases h
  ·rename_i h2
   split at h
   ·rename_i h3;exact Ir h h3
   ·rename_i h3
    split at h
    ·cases h
    ·rename_i h4;exact⟨by simpa using h1,by simpa using h2,Qo,by simpa using h4⟩
def HH{W:Q7}{c:Int}{up:Bool}{last:Int}(h1:X5 W c)(h2:(gi W.IF c).up=up)(h3:last=0):UZ W c up last=if QO W=false then 10 else 0:=by
 unfold UZ;rw[B' (by rw[h1];decide),B' (by simpa using h2),B' (by simpa using h3)]
def Lj(x:PZ)(b:Bool):PZ:={ x with up:=b }
def z5f(W:Q7)(c:Int):Q7:=Qf (LS (RM W c (Lj (gi W.IF c) true)))
def Gt(W:Q7):Int:=if Eo (JC W.IF) 4=1 then 5 else 0
def zu6(W:Q7)(c:Int):Q7:=Qf (LS (Rb (RM W c (Lj (gi W.IF c) false)) c))
def zyx{W:Q7}{c:Int}(hW:Qp W)(hb:UZ W c false 0=0):0<=c/\c<(W.IF.length:Int)/\SF Qn (Qn+Qi) W/\SF Qn (Qn+Qi) (RM W c (Lj (gi W.IF c) true)):=by
 obtain⟨h1,h2,_,h4⟩:=zkv hb;have wp:=Qm.1 hW;have sw:=MK wp (Qm.1 h4);obtain⟨c0,c1⟩:=UA h1;have hcu:=sw.cu c c0 c1;have hl:(W.IF.set c.toNat (Lj (gi W.IF c) true)).length=W.IF.length:=E';have hc2:=wp.a.c2;exact⟨c0,c1,Lg sw,Lg (sw.RM c0 c1 (x:=Lj (gi W.IF c) true) (EI Qo c0 Qo (by rw[QE _ _ c0 c1 c0,C' rfl];rfl)) hcu.1 hcu.2)⟩
def zqs{W:Q7}{c:Int}(hW:Qp W)(hb:UZ W c true (Gt W)=0):0<=c/\c<(W.IF.length:Int)/\SF Qn (Qn+Qi) W/\SF Qn (Qn+Qi) (RM W c (Lj (gi W.IF c) false)):=by
 obtain⟨h1,h2,h3,h4⟩:=zkv hb;have wp:=Qm.1 hW;have sw:=MK wp (Qm.1 h4);obtain⟨c0,c1⟩:=UA h1;have hcu:=sw.cu c c0 c1;have hl:(W.IF.set c.toNat (Lj (gi W.IF c) false)).length=W.IF.length:=E';have hc2:=wp.a.c2;have hn:Eo (JC W.IF) 4≠1:=λe=>by unfold Gt at h3;rw[C' e] at h3;cases h3
 obtain⟨j,j0,j1,jc,hj⟩:=zvx hc2 c0 c1 h2 hn;exact⟨c0,c1,Lg sw,Lg (sw.RM c0 c1 (x:=Lj (gi W.IF c) false) (EI Qo j0 Qo (by rw[QE _ _ c0 c1 j0,B' λe=>jc e.symm];exact hj)) hcu.1 hcu.2)⟩
def Fu(W:Q7)(c:Int)(x:PZ)(m:MW):Qa (RM W c x) m=Qa W m:=by simp[Qa,RM]
section
variable {W W':Q7}{m:MW}{w:Wo}
def zln{c:Int}(h:J6 [] w W m)(hl:UV W) :
  Cz Kp #[.agg (Qa W m).toArray,I c] w λe w'=>∃v,e=.returned v/\QV (Y7 W (UZ W c false 0) (z5f W c)) w v w':=by
 refine zk4 _ _ _ _ _ _ _ _ _ _ c (R:=λv w'=>QV (Y7 W (UZ W c false 0) (z5f W c)) w v w') ?_;intro y hy y1 dY wr Rg We;have hm9:=ZW;have hlc:=hl.c;refine I3 (Zi (h.ext Rg) hl) ?_;rintro e wv (⟨hW,he,SX⟩|⟨hW,m',he,hM,SX⟩)
 ·exact⟨_,_,_,_,_,_,_,_,_,_,_,he,Qg SX We,λg=>by simp at g,true,λg=>by simp at g,λ_ R6 Rl=>QV.bad hW ((Rg.trans SX).fresh Rl λz hm=>.inl (YF hy dY z hm)),λg=>by simp at g⟩
 have hK:=Wk.begin hy dY Rg We hM SX;have hr:=hK.rd;have wp:=Qm.1 hW;have hm0:=Xu;refine⟨_,_,_,_,_,_,_,_,_,_,_,he,Qg SX We,λ_=>⟨Qo,Qo⟩,X5 W c,λ_=>Qt,λg R6 Rl=>?_,λg=>?_⟩
 ·have g:X5 W c=false:=by
   cases hc:X5 W c with
   |false=>rfl
   |true=>rw[hc] at g;split at g <;> simp at g
  have hb:UZ W c false 0=1:=by unfold UZ;rw[C' g]
  exact QV.no hW (by rw[hb];decide) (hK.step Rl) hb
 have g:X5 W c:=by
  cases hc:X5 W c with
  |true=>rfl
  |false=>rw[hc] at g;simp at g
 obtain⟨c0,c1⟩:=UA g;refine⟨hr.c.ix Y9 c0 c1,_,hr.c.f c0 c1 (j:=0) rfl,λg2 R7 Rl=>?_,λg2=>⟨λg3 RD Rl=>?_,λg3=>?_⟩⟩
 ·have hb:UZ W c false 0=6:=by unfold UZ;rw[B' (by rw[g];decide),C' (by rw[g2];decide)]
  exact QV.no hW (by rw[hb];decide) (hK.step Rl) hb
 ·have cA:¬QO W:=λhr=>by rw[C' hr] at g3;simp at g3
  have hb:UZ W c false 0=10:=by rw[HH g g2 rfl,C' (by simpa using cA)]
  rw[B' cA];exact QV.no hW (by rw[hb];decide) (hK.step Rl) hb
 have cA:QO W:=Iq λhr=>by rw[B' hr] at g3;simp at g3
 have hb:UZ W c false 0=0:=by rw[HH g g2 rfl,B' (by rw[cA];decide)]
 obtain⟨_,_,_,sf⟩:=zyx hW hb;have T':Wk 8 [y,y1] w (Rx wv m'.cO (Int.toNat c*5+0) [.bool true]) (RM W c (Lj (gi W.IF c) true)) m':=hK.Rx (hK.own.AP1 c0 c1 (j:=0) (vs:=[.bool true]) (x:=Lj (gi W.IF c) true) rfl Qs) Du;refine⟨hr.c.ix Y9 c0 c1,zpg hK.own hK.nb c0 c1 Qd,λRN W8 dX=>?_⟩;have e5:Qa (RM W c (Lj (gi W.IF c) true)) m'=Qa W m':=Fu _ _ _ _;have hE:z5f W c=Qf (LS (RM W c (Lj (gi W.IF c) true))):=rfl;rw[hE];generalize RM W c (Lj (gi W.IF c) true)=V at T' sf e5;have gI:=T'.step W8;have RI:=JA gI.own sf (I2 _) (by simp only[Qi];decide);rw[e5] at RI;refine I3 RI ?_;rintro e1 Rc ⟨qC,fU⟩;refine⟨_,_,_,_,_,_,_,_,_,_,qC,gI.kept fU dX,λS5 Sx gQ=>?_⟩;have eI:=(gI.Sv fU dX).step Sx;have bF:=QB eI.own (LU sf (I2 _)).1.w (by simp only[Qi];decide) (by simp only[Qi];decide) eI.base;rw[Fv sf (I2 _),e5] at bF;refine I3 bF ?_;rintro e2 RO ⟨m2,bS,jX⟩;exact⟨_,_,_,_,_,_,_,_,_,_,bS,eI.kept jX gQ,λSu bM=>QV.ok hW hb ((eI.Sv jX gQ).step bM)⟩
def zhh{c:Int}(h:J6 [] w W m)(hl:UV W) :
  Cz Mc #[.agg (Qa W m).toArray,I c] w λe w'=>∃v,e=.returned v/\QV (Y7 W (UZ W c true (Gt W)) (zu6 W c)) w v w':=by
 refine zg2 _ _ _ _ _ _ _ _ _ _ c (R:=λv w'=>QV (Y7 W (UZ W c true (Gt W)) (zu6 W c)) w v w') ?_;intro y hy y1 dY wr Rg We;have hm0:=Xu;have hlc:=hl.c;refine I3 (Zi (h.ext Rg) hl) ?_;rintro e wv (⟨hW,he,SX⟩|⟨hW,m',he,hM,SX⟩)
 ·exact⟨_,_,_,_,_,_,_,_,_,_,_,he,Qg SX We,λg=>by simp at g,true,λg=>by simp at g,λ_ R6 Rl=>QV.bad hW ((Rg.trans SX).fresh Rl λz hm=>.inl (YF hy dY z hm)),λg=>by simp at g⟩
 have hK:=Wk.begin hy dY Rg We hM SX;have hr:=hK.rd;have wp:=Qm.1 hW;refine⟨_,_,_,_,_,_,_,_,_,_,_,he,Qg SX We,λ_=>⟨Qo,Qo⟩,X5 W c,λ_=>Qt,λg R6 Rl=>?_,λg=>?_⟩
 ·have g:X5 W c=false:=by
   cases hc:X5 W c with
   |false=>rfl
   |true=>rw[hc] at g;split at g <;> simp at g
  have hb:UZ W c true (Gt W)=1:=by unfold UZ;rw[C' g]
  exact QV.no hW (by rw[hb];decide) (hK.step Rl) hb
 have g:X5 W c:=by
  cases hc:X5 W c with
  |true=>rfl
  |false=>rw[hc] at g;simp at g
 obtain⟨c0,c1⟩:=UA g;refine⟨hr.c.ix Y9 c0 c1,_,hr.c.f c0 c1 (j:=0) rfl,λg2 R7 Rl=>?_,λg2=>⟨_,LE hr wp.a.c2,_,Nu,λg3 RD Rl=>?_,λg3=>⟨λg4 RN Rl=>?_,λg4=>?_⟩⟩⟩
 ·have g2:(gi W.IF c).up=false:=by simpa using g2
  have hb:UZ W c true (Gt W)=6:=by unfold UZ;rw[B' (by rw[g];decide),C' (by rw[g2];decide)]
  exact QV.no hW (by rw[hb];decide) (hK.step Rl) hb
 ·have g2:(gi W.IF c).up:=by simpa using g2
  have hL:Gt W=5:=by unfold Gt;rw[C' (by simpa using g3)]
  have hb:UZ W c true (Gt W)=5:=by unfold UZ;rw[B' (by rw[g];decide),B' (by rw[g2];decide),hL,C' Qd]
  exact QV.no hW (by rw[hb];decide) (hK.step Rl) hb
 ·have g2:(gi W.IF c).up:=by simpa using g2
  have hL:Gt W=0:=by unfold Gt;rw[B' (by simpa using g3)]
  have cA:¬QO W:=λhr=>by rw[C' hr] at g4;simp at g4
  have hb:UZ W c true (Gt W)=10:=by rw[HH g g2 hL,C' (by simpa using cA)]
  rw[B' cA];exact QV.no hW (by rw[hb];decide) (hK.step Rl) hb
 have g2:(gi W.IF c).up:=by simpa using g2
 have hL:Gt W=0:=by unfold Gt;rw[B' (by simpa using g3)]
 have cA:QO W:=Iq λhr=>by rw[B' hr] at g4;simp at g4
 have hb:UZ W c true (Gt W)=0:=by rw[HH g g2 hL,B' (by rw[cA];decide)]
 obtain⟨_,_,_,sf⟩:=zqs hW hb;have T':Wk 8 [y,y1] w (Rx wv m'.cO (Int.toNat c*5+0) [.bool false]) (RM W c (Lj (gi W.IF c) false)) m':=hK.Rx (hK.own.AP1 c0 c1 (j:=0) (vs:=[.bool false]) (x:=Lj (gi W.IF c) false) rfl Qs) Du;refine⟨hr.c.ix Y9 c0 c1,zpg hK.own hK.nb c0 c1 Qd,λS5 Sx gQ=>?_⟩;have e5:Qa (RM W c (Lj (gi W.IF c) false)) m'=Qa W m':=Fu _ _ _ _;have hlV:(RM W c (Lj (gi W.IF c) false)).IF.length=W.IF.length:=by simp[RM]
 have hE:zu6 W c=Qf (LS (Rb (RM W c (Lj (gi W.IF c) false)) c)):=rfl;rw[hE];generalize RM W c (Lj (gi W.IF c) false)=V at T' sf e5 hlV;have rR:c<(V.IF.length:Int):=by rw[hlV];exact c1
 have gI:=T'.step Sx;have Bz8:=ZM gI.own c0 rR;rw[e5] at Bz8;refine I3 Bz8 ?_;rintro e0 wv0 ⟨he0,hy0⟩;refine⟨_,_,_,_,_,_,_,_,_,_,he0,gI.kept hy0 gQ,λSu bM hs6=>?_⟩;have sfE:=sf.Rb c0 rR;have hK6:=(gI.Sv hy0 gQ).step bM;generalize Rb V c=U at hK6 sfE;have RI:=JA hK6.own sfE (I2 _) (by simp only[Qi];decide);refine I3 RI ?_;rintro e1 Rc ⟨qC,fU⟩;refine⟨_,_,_,_,_,_,_,_,_,_,qC,hK6.kept fU hs6,λSA gL hs7=>?_⟩;have hK7:=(hK6.Sv fU hs6).step gL;have bF:=QB hK7.own (LU sfE (I2 _)).1.w (by simp only[Qi];decide) (by simp only[Qi];decide) hK7.base;rw[Fv sfE (I2 _)] at bF;refine I3 bF ?_;rintro e2 RO ⟨m2,bS,jX⟩;exact⟨_,_,_,_,_,_,_,_,_,_,bS,hK7.kept jX hs7,λSY vF=>QV.ok hW hb ((hK7.Sv jX hs7).step vF)⟩
end
noncomputable def MO(W:Q7)(t:Int):Int:=if Yd W t=false then 2 else if (Q8 W t).state≠2 then 6 else if QO W=false then 10 else 0
def PE(W:Q7)(t:Int):Int:=if zoq W (Q8 W t).R2>0 then MV W (QF W (Q8 W t).II (Q8 W t).mask) else (Q8 W t).R2
def T2(W:Q7)(t c:Int):MQ:={ PM W t (Q8 W t).II c with state:=1 }
def Bk(W:Q7)(t:Int):Q7:=Qf (Rb (J' W t (T2 W t (PE W t))) (PE W t))
def UP(W:Q7)(t:Int)(x:MQ):(J' W t x).IJ.length=W.IJ.length:=by simp[J']
def zs8{W:Q7}{t:Int}(h:(Q8 W t).state=2)(c:Int):Ud W t (Q8 W t).II c=J' W t (PM W t (Q8 W t).II c):=by
 unfold Ud;rw[B' (by rw[h];decide)]
def zmt{W:Q7}{t c:Int}(sf:SF Qn (Qn+Qi) W)(t0:0<=t)(t1:t<(W.IJ.length:Int))(n:(Q8 W t).state≠0)(c0:0<=c)(c1:c<(W.IF.length:Int)):SF Qn (Qn+Qi) (J' W t (T2 W t c)):=by
 have hl:=sf.w.a.t;have hu:=(sf.w.t t t0 Qo n).1;have hv:=zmb sf (I2 _) (t:=t) hu c0 c1;exact sf.J' t0 Qo (x:=T2 W t c) (λ_=>⟨hu,c0,c1⟩) hv.1 hv.2
def zmu{W:Q7}{t:Int}(hW:Qp W)(hb:MO W t=0):Yd W t/\(Q8 W t).state=2/\QO W/\SF Qn (Qn+Qi) W/\0<=PE W t/\PE W t<(W.IF.length:Int):=by
 have wp:=Qm.1 hW;unfold MO at hb
 split at hb
 ·cases hb
 ·rename_i h1
  split at hb
  ·cases hb
  ·rename_i h2
   split at hb
   ·cases hb
   ·rename_i h3;have h1:Yd W t:=by simpa using h1
    have h2:(Q8 W t).state=2:=by simpa using h2
    have h3:QO W:=by simpa using h3
    have sw:=MK wp (Qm.1 h3);obtain⟨t0,t1,n⟩:=ZY h1;have hl:=wp.a.t;have hc:=sw.t t t0 Qo n;refine⟨h1,h2,h3,Lg sw,?_⟩;unfold PE;split
    ·have:=HS wp.a (Q8 W t).II (Q8 W t).mask;exact⟨this.1,this.2.1⟩
    ·exact hc.2
section
variable {base pb:Nat}{W W':Q7}{m:MW}{w:Wo}
def j8{t:Int}(h:J6 [] w W m)(hl:UV W) :
  Cz Ox #[.agg (Qa W m).toArray,I t] w λe w'=>∃v,e=.returned v/\QV (Y7 W (MO W t) (Bk W t)) w v w':=by
 refine CD _ _ _ _ _ _ _ _ _ _ t (R:=λv w'=>QV (Y7 W (MO W t) (Bk W t)) w v w') ?_;intro y hy y1 dY wr Rg We;refine I3 (Zi (h.ext Rg) hl) ?_;rintro e wv (⟨hW,he,SX⟩|⟨hW,m',he,hM,SX⟩)
 ·exact⟨_,_,_,_,_,_,_,_,_,_,_,he,Qg SX We,λ_ R6 Rl=>QV.bad hW ((Rg.trans SX).fresh Rl λz hm=>.inl (YF hy dY z hm)),λg=>by simp at g⟩
 have hK:=Wk.begin hy dY Rg We hM SX;have hr:=hK.rd;have wp:=Qm.1 hW;refine⟨_,_,_,_,_,_,_,_,_,_,_,he,Qg SX We,λg=>by split at g <;> simp at g,λ_=>⟨_,JP hr hl.t,λg R7 Rl=>?_,λg=>?_⟩⟩
 ·have g:Yd W t=false:=by simpa using g
  have hb:MO W t=2:=by unfold MO;rw[C' g]
  exact QV.no hW (by rw[hb];decide) (hK.step Rl) hb
 have g:Yd W t:=by simpa using g
 obtain⟨t0,t1,tn⟩:=ZY g;have qT:=wp.a.t;have Wx:=hr.t.ix QT t0 t1;refine⟨Wx,_,hr.t.f t0 t1 (j:=0) rfl,λg2 RD Rl=>?_,λg2=>⟨λg3 RN Rl=>?_,λg3=>?_⟩⟩
 ·have g2:(Q8 W t).state≠2:=by simpa[Q8] using g2
  have hb:MO W t=6:=by unfold MO;rw[B' (by rw[g];decide),C' g2]
  exact QV.no hW (by rw[hb];decide) (hK.step Rl) hb
 ·have g2:¬(Q8 W t).state≠2:=by simpa[Q8] using g2
  have cA:¬QO W:=λhr=>by rw[C' hr] at g3;simp at g3
  have hb:MO W t=10:=by unfold MO;rw[B' (by rw[g];decide),B' g2,C' (by simpa using cA)]
  rw[B' cA];exact QV.no hW (by rw[hb];decide) (hK.step Rl) hb
 have g2:¬(Q8 W t).state≠2:=by simpa[Q8] using g2
 have cA:QO W:=Iq λhr=>by rw[B' hr] at g3;simp at g3
 have hb:MO W t=0:=by unfold MO;rw[B' (by rw[g];decide),B' g2,B' (by rw[cA];decide)]
 have Cl0:(Q8 W t).state=2:=by simpa using g2
 obtain⟨_,_,_,sf,_,_⟩:=zmu hW hb;obtain⟨hu,c0,c1⟩:=sf.w.t t t0 Qo tn;refine⟨Wx,_,hr.t.f t0 t1 (j:=2) rfl,_,Pv hr qT,λg4=>?_,λg4=>?_⟩
 ·have g4:zoq W (Q8 W t).R2>0:=Ot g4;have hC:PE W t=MV W (QF W (Q8 W t).II (Q8 W t).mask):=C' g4;obtain⟨d0,d1,_⟩:=HS wp.a (Q8 W t).II (Q8 W t).mask;refine⟨Wx,_,hr.t.f t0 t1 (j:=1) rfl,Wx,_,hr.t.f t0 t1 (j:=4) rfl,_,Jg hr wp.a.c2 wp.a.tree hu,_,Gc hr wp.a (zyc wp),Wx,_,hr.t.f t0 t1 (j:=1) rfl,λS5 Sx gQ=>?_⟩;have dW:=hK.step Sx;have RI:=Vf dW.own sf (I2 _) (by simp only[Qi];decide) (t:=t) (g:=(Q8 W t).II) (c:=MV W (QF W (Q8 W t).II (Q8 W t).mask)) t0 Qo tn hu d0 d1;refine I3 RI ?_;rintro e1 Rc ⟨qC,fU⟩;rw[zs8 Cl0 (MV W (QF W (Q8 W t).II (Q8 W t).mask))] at fU;have eI:=dW.Sv fU gQ
  have T':Wk 8 [y,y1] w (Rx Rc m'.tO (Int.toNat t*9+0) [I 1]) (J' W t (T2 W t (MV W (QF W (Q8 W t).II (Q8 W t).mask)))) m':=by
   have:Wk 8 [y,y1] w (Rx Rc m'.tO (Int.toNat t*9+0) [I 1]) (J' (J' W t (PM W t (Q8 W t).II (MV W (QF W (Q8 W t).II (Q8 W t).mask)))) t (T2 W t (MV W (QF W (Q8 W t).II (Q8 W t).mask)))) m':=eI.Rx (eI.own.AP2 t0 (by rw[UP];exact t1) (j:=0) (vs:=[I 1]) (x:=T2 W t (MV W (QF W (Q8 W t).II (Q8 W t).mask))) (by rw[show gi (J' W t (PM W t (Q8 W t).II (MV W (QF W (Q8 W t).II (Q8 W t).mask)))).IJ t=_ from HA t0 t1];rfl) Qs) Hv
   rwa[set_set] at this
  have CQ1:Ix m'.tO W.IJ.length t:=by
   have:=eI.rd.t.ix QT t0 (by rw[UP];exact t1)
   rwa[UP] at this
  refine⟨_,_,_,_,_,_,_,_,_,_,qC,dW.kept fU gQ,CQ1,zts eI.own eI.nb t0 (by rw[UP];exact t1) (j:=0) Qd,λSu bM hs6=>?_⟩;have e5:Qa (J' W t (T2 W t (MV W (QF W (Q8 W t).II (Q8 W t).mask)))) m'=Qa W m':=K0 _ _ _ _;have hE:Bk W t=Qf (Rb (J' W t (T2 W t (MV W (QF W (Q8 W t).II (Q8 W t).mask)))) (MV W (QF W (Q8 W t).II (Q8 W t).mask))):=by unfold Bk;rw[hC]
  have sfV:=zmt sf t0 t1 tn d0 d1;rw[hE];have hlV:(J' W t (T2 W t (MV W (QF W (Q8 W t).II (Q8 W t).mask)))).IF.length=W.IF.length:=rfl;generalize J' W t (T2 W t (MV W (QF W (Q8 W t).II (Q8 W t).mask)))=V at T' e5 sfV hlV;have hK6:=T'.step bM;have bF:=ZM hK6.own d0 (by rw[hlV];exact d1);rw[e5] at bF;refine I3 bF ?_;rintro e2 RO ⟨bS,jX⟩;refine⟨_,_,_,_,_,_,_,_,_,_,bS,hK6.kept jX hs6,λSA gL hs7=>?_⟩;have hK7:=(hK6.Sv jX hs6).step gL;have AD0:=QB hK7.own (sfV.Rb d0 (by rw[hlV];exact d1)).w (by simp only[Qi];decide) (by simp only[Qi];decide) hK7.base;refine I3 AD0 ?_;rintro e3 Si ⟨m2,gZ,hy5⟩;exact⟨_,_,_,_,_,_,_,_,_,_,gZ,hK7.kept hy5 hs7,λSY vF=>QV.ok hW hb ((hK7.Sv hy5 hs7).step vF)⟩
 ·have g4:¬zoq W (Q8 W t).R2>0:=Ou g4;have hC:PE W t=(Q8 W t).R2:=B' g4;have d0:=c0;have d1:=c1;refine⟨Wx,_,hr.t.f t0 t1 (j:=1) rfl,λS5 Sx gQ=>?_⟩;have dW:=hK.step Sx;have RI:=Vf dW.own sf (I2 _) (by simp only[Qi];decide) (t:=t) (g:=(Q8 W t).II) (c:=(Q8 W t).R2) t0 Qo tn hu d0 d1;refine I3 RI ?_;rintro e1 Rc ⟨qC,fU⟩;rw[zs8 Cl0 ((Q8 W t).R2)] at fU;have eI:=dW.Sv fU gQ
  have T':Wk 8 [y,y1] w (Rx Rc m'.tO (Int.toNat t*9+0) [I 1]) (J' W t (T2 W t ((Q8 W t).R2))) m':=by
   have:Wk 8 [y,y1] w (Rx Rc m'.tO (Int.toNat t*9+0) [I 1]) (J' (J' W t (PM W t (Q8 W t).II ((Q8 W t).R2))) t (T2 W t ((Q8 W t).R2))) m':=eI.Rx (eI.own.AP2 t0 (by rw[UP];exact t1) (j:=0) (vs:=[I 1]) (x:=T2 W t ((Q8 W t).R2)) (by rw[show gi (J' W t (PM W t (Q8 W t).II ((Q8 W t).R2))).IJ t=_ from HA t0 t1];rfl) Qs) Hv
   rwa[set_set] at this
  have CQ1:Ix m'.tO W.IJ.length t:=by
   have:=eI.rd.t.ix QT t0 (by rw[UP];exact t1)
   rwa[UP] at this
  refine⟨_,_,_,_,_,_,_,_,_,_,qC,dW.kept fU gQ,CQ1,zts eI.own eI.nb t0 (by rw[UP];exact t1) (j:=0) Qd,λSu bM hs6=>?_⟩;have e5:Qa (J' W t (T2 W t ((Q8 W t).R2))) m'=Qa W m':=K0 _ _ _ _;have hE:Bk W t=Qf (Rb (J' W t (T2 W t ((Q8 W t).R2))) ((Q8 W t).R2)):=by unfold Bk;rw[hC]
  have sfV:=zmt sf t0 t1 tn d0 d1;rw[hE];have hlV:(J' W t (T2 W t ((Q8 W t).R2))).IF.length=W.IF.length:=rfl;generalize J' W t (T2 W t ((Q8 W t).R2))=V at T' e5 sfV hlV;have hK6:=T'.step bM;have bF:=ZM hK6.own d0 (by rw[hlV];exact d1);rw[e5] at bF;refine I3 bF ?_;rintro e2 RO ⟨bS,jX⟩;refine⟨_,_,_,_,_,_,_,_,_,_,bS,hK6.kept jX hs6,λSA gL hs7=>?_⟩;have hK7:=(hK6.Sv jX hs6).step gL;have AD0:=QB hK7.own (sfV.Rb d0 (by rw[hlV];exact d1)).w (by simp only[Qi];decide) (by simp only[Qi];decide) hK7.base;refine I3 AD0 ?_;rintro e3 Si ⟨m2,gZ,hy5⟩;exact⟨_,_,_,_,_,_,_,_,_,_,gZ,hK7.kept hy5 hs7,λSY vF=>QV.ok hW hb ((hK7.Sv hy5 hs7).step vF)⟩
end
def zj6{a b w:Int}(ha:0<=a)(hb:0<=b)(h:a+b<=100000000)(w1:1<=w)(w2:w<=20):Z2 (a+b) w=Z2 a w+Z2 b w:=by
 rw[Pf Qo h w1 w2,Pf ha Qo w1 w2,Pf hb Qo w1 w2,Int.add_mul]
def zuv{l w:Int}(h0:0<=l)(h1:l<=ZN w):Y6 l w=l:=by
 unfold Y6;rw[B' (show ¬ZN w<l by omega)]
 split <;> omega
def KF{p q:Nat->Bool}:∀{n:Nat},(∀j,j<n->p j=q j)->TV p n=TV q n
 |0,_=>rfl
 |n+1,h=>by simp only[TV];rw[KF λj hj=>h j Qo,h n Qo]
def P8{p q:Nat->Bool}{v u:Nat->Int}:∀{n:Nat},(∀j,j<n->p j=q j)->(∀j,j<n->p j->v j=u j)->QY p v n=QY q u n
 |0,_,_=>rfl
 |n+1,h,hv=>by
  have ih:=P8 (p:=p) (q:=q) (v:=v) (u:=u) (n:=n) (λj hj=>h j Qo) λj hj=>hv j Qo
  simp only[QY];rw[ih,<-h n Qo]
  cases hp:p n with
  |false=>simp
  |true=>
   rw[hv n Qo hp];rcases Zl q u n with ⟨e,_⟩|⟨e0,e1,e2,_⟩
   ·rw[e];simp
   ·rw[hv _ Qo (by rw[h _ Qo];exact e2)]
def Ys{gs:List Zb}(ht:Yh gs):∀g:Int,Q6 gs g->∀x∈QM gs g,Q6 gs x/\x≠0:=
 My ht (λx hx=>by rw[show QM gs 0=[] from Zc _ _] at hx;cases hx) λh hu hz ih x hx=>by
  rw[Yg ht hu hz] at hx;rcases Ii.1 hx with e|e
  ·subst e;exact⟨hu,hz⟩
  ·exact ih x e
def VV(W:Q7)(k c:Int):Prop:=(Qb W (gi W.IE k).IG c).IL<=(Qb W k c).v/\(Qb W k c).v-(Qb W (gi W.IE k).IG c).IL<=ZN (Qb W k c).w
structure EM (W:Q7) (x:MQ):Prop where
 st:x.state=1\/x.state=2
 g:Q6 W.IE x.II=true
 n:Qh x.nice≠0
 m:PK x.mask=true
 m0:x.mask≠0
 s:ZZ x.sum=true
 u:ZZ x.IW=true
 l1:0<=x.load
 l2:x.load<=8000000
 f:x.state=1->(Qb W x.II x.R2).IL<=x.v/\x.v-(Qb W x.II x.R2).IL<=ZN (Qh x.nice)
structure zpm (W:Q7) (k c:Int):Prop where
 s:ZZ (Qb W k c).sum=true
 root:k=0->(Qb W k c).on=false/\(Qb W k c).v=0/\(Qb W k c).w=10
 st:k≠0->(Qb W k c).on->VV W k c
structure z3g (W:Q7) (c:Int):Prop where
 b:ZZ (gi W.IF c).busy=true
 i:ZZ (gi W.IF c).idle=true
 c1 : -1<=(gi W.IF c).cur
 c2:(gi W.IF c).cur<12
 no:(gi W.IF c).cur<0->(gi W.IF c).Wh=0
 yes:0<=(gi W.IF c).cur->(gi W.IF c).up/\1<=(gi W.IF c).Wh/\(gi W.IF c).Wh<=149
 q:0<=(gi W.IF c).cur->(Q8 W (gi W.IF c).cur).state=1->(Q8 W (gi W.IF c).cur).R2=c->
  (Q8 W (gi W.IF c).cur).v-(Qb W (Q8 W (gi W.IF c).cur).II c).IL<=Z2 (gi W.IF c).Wh (Qh (Q8 W (gi W.IF c).cur).nice)/\
  ∀x∈QM W.IE (Q8 W (gi W.IF c).cur).II,VV W x c/\(Qb W x c).v-(Qb W (gi W.IE x).IG c).IL<=Z2 (gi W.IF c).Wh (Qb W x c).w
structure PreA (W:Q7):Prop where
 a:WA W
 t:∀t:Int,0<=t->t<12->(Q8 W t).state=0/\Q8 W t=T3\/(Q8 W t).state≠0/\EM W (Q8 W t)
 l:∀t:Int,0<=t->t<12->(Q8 W t).state≠0->0<=(Q8 W t).R2/\(Q8 W t).R2<(W.IF.length:Int)
 s:∀k c:Int,Q6 W.IE k->0<=c->c<(W.IF.length:Int)->zpm W k c
structure TO (W:Q7):Prop extends PreA W where
 c:∀c:Int,0<=c->c<(W.IF.length:Int)->z3g W c
def zbj(W:Q7):Prop:=∀t:Int,0<=t->t<12->(Q8 W t).state≠0->Zk (QF W (Q8 W t).II (Q8 W t).mask) (Q8 W t).R2=true
def z6n(W:Q7):Prop:=∀k c:Int,Q6 W.IE k->0<=c->c<(W.IF.length:Int)->Sw W k c 20->S3 W k c 20<=(Qb W k c).IL
def Bc{v f k:Int}(hv:ZZ v)(hf:ZZ f):KB v f k=true↔f<=v/\v-f<=ZN k:=by
 have h1:=Xg.1 hv;have h2:=Xg.1 hf;have hw:IntKind.i64.wrap (v-f)=v-f:=Qq.wrap (k:=.i64) ⟨by show _<=v-f;omega,by show v-f<=_;omega⟩;unfold KB;rw[hw];simp
def V4{W:Q7}(wp:XV W):zbj W:=λt t0 t1 n=>by
 rcases wp.t t t0 t1 with h|h
 ·exact Ir h.1 n
 ·exact h.2.c
def ED{W:Q7}(wp:XV W){k c:Int}(hu:Q6 W.IE k)(c0:0<=c)(c1:c<(W.IF.length:Int)):Kh W k c:=by
 obtain⟨u0,u1,_⟩:=wp.a.u hu;have hl:=wp.a.sl hu;exact wp.s k c u0 u1 c0 Qo
def XF{W:Q7}(wp:XV W):TO W:=by
 have vM:∀k c:Int,Q6 W.IE k->k≠0->0<=c->c<(W.IF.length:Int)->(Qb W k c).on->VV W k c:=λk c hu hz c0 c1 ho=>by
  have h1:=ED wp hu c0 c1;have h2:=ED wp (wp.a.up hu hz) c0 c1;exact(Bc h1.v h2.f).1 (h1.st hz ho)
 refine⟨⟨wp.a,λt t0 t1=>?_,λt t0 t1 n=>?_,λk c hu c0 c1=>?_⟩,λc c0 c1=>?_⟩
 ·rcases wp.t t t0 t1 with h|⟨n,h⟩
  ·exact .inl h
  ·refine .inr ⟨n,h.st,h.g,h.n,h.m,h.m0,h.s,h.u,h.l1,h.l2,λh1=>?_⟩;obtain⟨d0,d1⟩:=GS wp.a h.c;exact(Bc h.v (ED wp h.g d0 d1).f).1 (h.f h1)
 ·rcases wp.t t t0 t1 with h|⟨_,h⟩
  ·exact Ir h.1 n
  ·exact GS wp.a h.c
 ·have h:=ED wp hu c0 c1;exact⟨h.s,h.root,λhz ho=>vM k c hu hz c0 c1 ho⟩
 ·have h:=wp.c c c0 c1;have hl:=wp.a.t;refine⟨h.b,h.i,h.c1,by have:=h.c2;omega,h.no,λh0=>⟨(h.yes h0).1,(h.yes h0).2.1,(h.yes h0).2.2.1⟩,λh0 h1 h2=>?_⟩;obtain⟨_,_,_,_,vL,Bf8⟩:=h.yes h0;unfold MJ at Bf8;rw[A',Ij] at Bf8;refine⟨Bf8.1,λx hx=>?_⟩
  have hu:Q6 W.IE (Q8 W (gi W.IF c).cur).II:=by
   rcases wp.t _ h0 (by have:=h.c2;omega) with hz|⟨_,hz⟩
   ·rw[hz.1] at h1;cases h1
   ·exact hz.g
  obtain⟨xu,xz⟩:=Ys wp.a.tree _ hu x hx;unfold Zq Ut at vL;rw[A',h2,List.all_eq_true] at vL;have hs:=Bf8.2;unfold Od at hs;rw[List.all_eq_true] at hs;exact⟨vM x c xu xz c0 c1 (vL.2 x hx),Ot (hs x hx)⟩
structure D4 (c:Int) (W W':Q7):Prop where
 n:W'.now=W.now
 t:W'.IJ=W.IJ
 g:QZ W.IE W'.IE
 len:W'.IF.length=W.IF.length
 b:∀i:Int,0<=i->(gi W'.IE i).IM=(gi W.IE i).IM
 e:∀k d:Int,0<=k->0<=d->d≠c->Qb W' k d=Qb W k d
 cp:∀d:Int,0<=d->d≠c->gi W'.IF d=gi W.IF d
def D4.refl(c:Int)(W:Q7):D4 c W W:=⟨rfl,rfl,QZ.refl _,rfl,λ_ _=>rfl,λ_ _ _ _ _=>rfl,λ_ _ _=>rfl⟩
def D4.trans{c:Int}{A B C:Q7}(h:D4 c A B)(k:D4 c B C):D4 c A C:=⟨k.n.trans h.n,k.t.trans h.t,h.g.trans k.g,k.len.trans h.len,λi hi=>(k.b i hi).trans (h.b i hi),λi d hi hd hn=>(k.e i d hi hd hn).trans (h.e i d hi hd hn),λd hd hn=>(k.cp d hd hn).trans (h.cp d hd hn)⟩
def NI{W:Q7}{g c:Int}{s:KD}(h0:0<=g)(h1:g<(W.IE.length:Int))(c0:0<=c)(c1:c<((gi W.IE g).IH.length:Int)):D4 c W (Rw W g c s):=
 ⟨rfl,rfl,YC h0 h1,rfl,λi hi=>ziq h0 h1 hi,λk d hk hd hn=>by
  rw[XS h0 h1 c0 c1 hk hd,B' λh=>hn h.2.symm],λ_ _ _=>rfl⟩
def zoe{W:Q7}{c:Int}(c0:0<=c)(c1:c<(W.IF.length:Int)):D4 c W (Rb W c):=
 ⟨rfl,rfl,QZ.refl _,E',λ_ _=>rfl,λ_ _ _ _ _=>rfl,λd d0 hn=>by
  show gi (W.IF.set c.toNat (Xv (gi W.IF c))) d=_;rw[QE _ _ c0 c1 d0,B' λh=>hn h.symm]⟩
section
variable {c d:Int}{W W':Q7}
def P1(ht:W'.IJ=W.IJ)(hT:QZ W.IE W'.IE){g:Int}(h:∀j:Nat,j<W.IE.length->1<=j->(gi W.IE (j:Int)).IW->(gi W.IE (j:Int)).IG=g->(Qb W' (j:Int) d).on=(Qb W (j:Int) d).on):QJ W' g d=QJ W g d:=by
 unfold QJ;rw[ht,hT.len]
 congr 1
 ·refine KF λj _=>?_
  unfold dU;rw[ht]
 ·refine KF λj hj=>?_
  unfold WV;rw[hT.u,hT.p]
  by_cases h1:1<=j
  ·cases hu:(gi W.IE (j:Int)).IW with
   |false=>simp
   |true=>
    by_cases hp:(gi W.IE (j:Int)).IG=g
    ·rw[h j hj h1 hu hp]
    ·rw[show ((gi W.IE (j:Int)).IG==g)=false from beq_false_of_ne hp];simp
  ·simp[h1]
def zu1(ht:W'.IJ=W.IJ)(hT:QZ W.IE W'.IE)(hl:W.IE.length=8)(h:∀k:Int,0<=k->(Qb W' k d).on=(Qb W k d).on)(g:Int){j:Nat}(hj:j<20):Sf W' g d j=Sf W g d j:=by
 unfold Sf;split
 ·unfold dU;rw[ht]
 ·unfold WV;rw[hT.u,hT.p,h _ Qo]
def zjb(ht:W'.IJ=W.IJ)(h:∀k:Int,0<=k->(Qb W' k d).v=(Qb W k d).v)(j:Nat):S9 W' d j=S9 W d j:=by
 unfold S9;split
 ·unfold Q8;rw[ht]
 ·rw[h _ Qo]
def BR(ht:W'.IJ=W.IJ)(hT:QZ W.IE W'.IE)(hl:W.IE.length=8)(h:∀k:Int,0<=k->(Qb W' k d).on=(Qb W k d).on)(hv:∀k:Int,0<=k->(Qb W' k d).v=(Qb W k d).v)(g:Int):Sw W' g d 20=Sw W g d 20/\S3 W' g d 20=S3 W g d 20:=by
 have e:QY (Sf W' g d) (S9 W' d) 20=QY (Sf W g d) (S9 W d) 20:=P8 (λj hj=>zu1 ht hT hl h g hj) λj _ _=>zjb ht hv j
 unfold Sw S3;rw[e];refine⟨rfl,?_⟩;split
 ·rfl
 ·exact zjb ht hv _
def Xf(ht:W'.IJ=W.IJ)(t:Int):Q8 W' t=Q8 W t:=by unfold Q8;rw[ht]
def Vy(hT:QZ W.IE W'.IE)(g:Int):QM W'.IE g=QM W.IE g:=hT.path 3 g
def zk1{g:Int}(hb:(gi W'.IE g).IM=(gi W.IE g).IM):Jm W' g d=Jm W g d:=by unfold Jm;rw[hb]
end
def zr5{W:Q7}{g c:Int}{j:Nat}(hj:j<20)(h:Sf W g c j):Sw W g c 20/\S3 W g c 20<=S9 W c j:=by
 unfold Sw S3;rcases Zl (Sf W g c) (S9 W c) 20 with ⟨_,h2⟩|⟨h1,_,_,h4,_⟩
 ·rw[h2 j hj] at h;cases h
 ·rw[B' Qo];exact⟨Ih h1,h4 j hj h⟩
def zt2{W:Q7}(ha:WA W){t:Int}(t0:0<=t)(t1:t<12)(hs:(Q8 W t).state=1):Sw W (Q8 W t).II (Q8 W t).R2 20/\S3 W (Q8 W t).II (Q8 W t).R2 20<=(Q8 W t).v:=by
 have e:((t.toNat:Nat):Int)=t:=Qo
 have h:Sf W (Q8 W t).II (Q8 W t).R2 t.toNat:=by
  rw[Ji Qo];unfold dU;rw[e];show (((Q8 W t).state==1)&&((Q8 W t).II==_)&&((Q8 W t).R2==_))=true;rw[hs];simp
 have:=zr5 Qo h
 rwa[Hd Qo,e] at this
def zpt{W:Q7}(ha:WA W){k c:Int}(hu:Q6 W.IE k)(hz:k≠0)(ho:(Qb W k c).on):Sw W (gi W.IE k).IG c 20/\S3 W (gi W.IE k).IG c 20<=(Qb W k c).v:=by
 obtain⟨k0,k1,ku⟩:=Q5.1 hu;have hl:=ha.gl;have e:((k.toNat:Nat):Int)=k:=Qo
 have h:Sf W (gi W.IE k).IG c (12+k.toNat):=by
  rw[J3];unfold WV;rw[e,ku,ho];simp;omega
 have:=zr5 Qo h
 rwa[Hc,e] at this
structure LC (c:Int) (W W':Q7):Prop where
 o:D4 c W W'
 cs:W'.IF=W.IF
 f:∀k d:Int,0<=k->0<=d->(Qb W' k d).IL=(Qb W k d).IL
 w:∀k d:Int,0<=k->0<=d->(Qb W' k d).w=(Qb W k d).w
 s:∀k d:Int,0<=k->0<=d->(Qb W' k d).sum=(Qb W k d).sum
 r:∀d:Int,0<=d->Qb W' 0 d=Qb W 0 d
 v:∀k d:Int,Q6 W.IE k->k≠0->0<=d->VV W k d->(Qb W' k d).v=(Qb W k d).v
def LC.refl(c:Int)(W:Q7):LC c W W:=⟨D4.refl _ _,rfl,λ_ _ _ _=>rfl,λ_ _ _ _=>rfl,λ_ _ _ _=>rfl,λ_ _=>rfl,λ_ _ _ _ _ _=>rfl⟩
def LC.st{c:Int}{W W':Q7}(ht:Yh W.IE)(h:LC c W W'){k d:Int}(hu:Q6 W.IE k)(hz:k≠0)(d0:0<=d)(hs:VV W k d):VV W' k d:=by
 have hp:=(Q5.1 (Y3 ht hu hz).1).1;have k0:=(Q5.1 hu).1;unfold VV;rw[h.o.g.p,h.f _ d hp d0,h.v k d hu hz d0 hs,h.w k d k0 d0];exact hs
def LC.trans{c:Int}{A B C:Q7}(ht:Yh A.IE)(h:LC c A B)(k:LC c B C):LC c A C:=
 ⟨h.o.trans k.o,k.cs.trans h.cs,λi d a b=>(k.f i d a b).trans (h.f i d a b),λi d a b=>(k.w i d a b).trans (h.w i d a b),λi d a b=>(k.s i d a b).trans (h.s i d a b),λd a=>(k.r d a).trans (h.r d a),λi d hu hz d0 hs=>by
  rw[k.v i d (by rw[h.o.g.cD];exact hu) hz d0 (h.st ht hu hz d0 hs),h.v i d hu hz d0 hs]⟩
def TO.lc{c:Int}{W W':Q7}(p:TO W)(h:LC c W W')(ha:WA W')(hon:∀k d:Int,Q6 W.IE k->k≠0->0<=d->d<(W.IF.length:Int)->(Qb W' k d).on->VV W' k d):TO W':=by
 have et:∀t,Q8 W' t=Q8 W t:=Xf h.o.t;refine⟨⟨ha,λt t0 t1=>?_,λt t0 t1 n=>?_,λk d hu d0 d1=>?_⟩,λd d0 d1=>?_⟩
 ·rw[et];rcases p.t t t0 t1 with hz|⟨n,hx⟩
  ·exact .inl hz
  ·refine .inr ⟨n,hx.st,by rw[h.o.g.cD];exact hx.g,hx.n,hx.m,hx.m0,hx.s,hx.u,hx.l1,hx.l2,λh1=>?_⟩;rw[h.f _ _ (Q5.1 hx.g).1 (p.l t t0 t1 n).1];exact hx.f h1
 ·rw[et] at n ⊢;rw[h.o.len];exact p.l t t0 t1 n
 ·rw[h.o.g.cD] at hu;rw[h.cs] at d1;have hs:=p.s k d hu d0 d1;have k0:=(Q5.1 hu).1;refine⟨by rw[h.s k d k0 d0];exact hs.s,λhz=>?_,λhz ho=>hon k d hu hz d0 d1 ho⟩;subst hz;rw[h.r d d0];exact hs.root rfl
 ·rw[h.cs] at d1;have hc:=p.c d d0 d1;refine⟨by rw[h.cs];exact hc.b,by rw[h.cs];exact hc.i,by rw[h.cs];exact hc.c1,by rw[h.cs];exact hc.c2,by rw[h.cs];exact hc.no,by rw[h.cs];exact hc.yes,?_⟩;rw[h.cs];simp only[et];intro h0 h1 h2;obtain⟨q1,q2⟩:=hc.q h0 h1 h2
  have hu:Q6 W.IE (Q8 W (gi W.IF d).cur).II:=by
   rcases p.t _ h0 hc.c2 with hz|⟨_,hx⟩
   ·rw[hz.1] at h1;cases h1
   ·exact hx.g
  refine⟨by rw[h.f _ d (Q5.1 hu).1 d0];exact q1,λx hx=>?_⟩;rw[Vy h.o.g] at hx;obtain⟨xu,xz⟩:=Ys p.a.tree _ hu x hx;obtain⟨s1,s2⟩:=q2 x hx;refine⟨h.st p.a.tree xu xz d0 s1,?_⟩;rw[h.o.g.p,h.v x d xu xz d0 s1,h.f _ d (Q5.1 (p.a.up xu xz)).1 d0,h.w x d (Q5.1 xu).1 d0];exact s2
def UN(W:Q7)(c k:Int):Prop:=(Qb W k c).on=(QJ W k c && !Jm W k c)
def zyg{W:Q7}(p:TO W){k c d:Int}(hu:Q6 W.IE k)(hd:dep 3 W.IE k=d)(d1:1<=d)(c0:0<=c)(c1:c<(W.IF.length:Int)) :
  LC c W (Rw W k c (SC W k c))/\TO (Rw W k c (SC W k c))/\UN (Rw W k c (SC W k c)) c k/\∀g:Int,Q6 W.IE g->g≠k->(gi W.IE k).IG≠g->UN W c g->UN (Rw W k c (SC W k c)) c g:=by
 have hz:k≠0:=λe=>by subst e;rw[ZS] at hd;omega
 obtain⟨u0,u1,_⟩:=Q5.1 hu;have hl:=p.a.gl;have hsl:=p.a.sl hu;have yZ:c<((gi W.IE k).IH.length:Int):=Qo;have hpu:=p.a.up hu hz
 have hpk:(gi W.IE k).IG≠k:=λe=>by
  obtain⟨_,_,_,n,e1,e2,_⟩:=Y3 p.a.tree hu hz;rw[e] at e2;omega
 have e:∀{i j:Int},0<=i->0<=j->Qb (Rw W k c (SC W k c)) i j=if k=i/\c=j then SC W k c else Qb W i j:=λhi hj=>XS u0 u1 c0 yZ hi hj
 have ev:VV W k c->(SC W k c).v=(Qb W k c).v:=λhs=>by
  simp only[SC];split
  ·rw[zuv (by have:=hs.1;omega) hs.2];omega
  ·rfl
 have eq0:∀{i j:Int},k=i/\c=j->(SC W k c).IL=(Qb W i j).IL/\(SC W k c).w=(Qb W i j).w/\(SC W k c).sum=(Qb W i j).sum:=λh=>by
  obtain⟨rfl,rfl⟩:=h;exact⟨rfl,rfl,rfl⟩
 have hT:=YC (W:=W) (g:=k) (c:=c) (s:=SC W k c) u0 u1
 have lc:LC c W (Rw W k c (SC W k c)):=by
  refine⟨NI u0 u1 c0 yZ,rfl,λi j hi hj=>?_,λi j hi hj=>?_,λi j hi hj=>?_,λj hj=>?_,λi j iu iz hj hs=>?_⟩
  ·rw[e hi hj];split
   ·rename_i h;exact(eq0 h).1
   ·rfl
  ·rw[e hi hj];split
   ·rename_i h;exact(eq0 h).2.1
   ·rfl
  ·rw[e hi hj];split
   ·rename_i h;exact(eq0 h).2.2
   ·rfl
  ·rw[e (I2 0) hj,B' λh=>hz h.1]
  ·rw[e (Q5.1 iu).1 hj];split
   ·rename_i h;obtain⟨rfl,rfl⟩:=h;exact ev hs
   ·rfl
 have act:∀g:Int,(gi W.IE k).IG≠g->QJ (Rw W k c (SC W k c)) g c=QJ W g c:=λg hg=>by
  refine P1 (W:=W) (W':=Rw W k c (SC W k c)) rfl hT λj hj _ _ hp=>?_
  rw[e Qo c0,B'];rintro⟨h,_⟩;exact hg (by rw[h];exact hp)
 have hoe:UN (Rw W k c (SC W k c)) c k:=by
  unfold UN;rw[e u0 c0,C' ⟨rfl,rfl⟩,act k hpk,HI u0 u1 u0];rfl
 refine⟨lc,p.lc lc (p.a.Rw u0 Qo) λi j iu iz j0 j1 ho=>?_,hoe,λg gu gk hg h=>?_⟩
 ·by_cases h:k=i/\c=j
  ·obtain⟨rfl,rfl⟩:=h
   by_cases hs:VV W k c
   ·exact lc.st p.a.tree hu hz c0 hs
   ·have DA3:(Qb W k c).on=false:=by
     cases hb:(Qb W k c).on with
     |false=>rfl
     |true=>exact Ir ((p.s k c hu c0 c1).st hz hb) hs
    rw[e u0 c0,C' ⟨rfl,rfl⟩] at ho;have ho:(QJ W k c && !Jm W k c):=ho;unfold VV;rw[hT.p,e u0 c0,C' ⟨rfl,rfl⟩,lc.f _ c (Q5.1 hpu).1 c0];simp only[SC];rw[C' ⟨ho,DA3⟩];have:=ZB ((Qb W k c).v-(Qb W (gi W.IE k).IG c).IL) (Qb W k c).w;omega
  ·rw[e (Q5.1 iu).1 j0,B' h] at ho;exact lc.st p.a.tree iu iz j0 ((p.s i j iu j0 j1).st iz ho)
 ·unfold UN;have g0:=(Q5.1 gu).1;rw[e g0 c0,B' λh=>gk h.1.symm,act g hg,HI u0 u1 g0];exact h
def zn5{W:Q7}(p:TO W){c d:Int}(d1:1<=d)(c0:0<=c)(c1:c<(W.IF.length:Int))(hI:∀g:Int,Q6 W.IE g->d<dep 3 W.IE g->UN W c g):∀k:Nat,k<=8->
  LC c W (Z4 W c d k)/\TO (Z4 W c d k)/\∀g:Int,Q6 W.IE g->d<dep 3 W.IE g\/dep 3 W.IE g=d/\g<(k:Int)->UN (Z4 W c d k) c g
 |0,_=>⟨LC.refl _ _,p,λg gu h=>hI g gu (by
   rcases h with h|h
   ·exact h
   ·have:=(Q5.1 gu).1;have:=h.2;omega)⟩
 |k+1,hk=>by
  obtain⟨a,b,ih⟩:=zn5 p d1 c0 c1 hI k Qo;have hl:=b.a.gl;have hT:=a.o.g;simp only[Z4];split
  ·rename_i hc;have hu:Q6 (Z4 W c d k).IE (k:Int):=Q5.2 ⟨Qo,Qo,hc.1⟩;obtain⟨l1,l2,l3,l4⟩:=zyg b hu hc.2 d1 c0 (c:=c) (by rw[a.cs];exact c1);refine⟨a.trans p.a.tree l1,l2,λg gu h=>?_⟩
   by_cases e:g=(k:Int)
   ·subst e;exact l3
   ·have hkz:(k:Int)≠0:=λe=>by have:=hc.2;rw[e,ZS] at this;omega
    obtain⟨_,_,_,n,e1,e2,_⟩:=Y3 b.a.tree hu hkz;refine l4 g (by rw[hT.cD];exact gu) e (λhp=>?_) (ih g gu ?_)
    ·rw[hp,hT.dep] at e2;have:=hc.2;omega
    ·rcases h with h|h
     ·exact .inl h
     ·exact .inr ⟨h.1,by have:=h.2;omega⟩
  ·rename_i hc;refine⟨a,b,λg gu h=>ih g gu ?_⟩;rcases h with h|h
   ·exact .inl h
   ·refine .inr ⟨h.1,?_⟩
    by_cases e:g=(k:Int)
    ·subst e;exact Ir ⟨by rw[hT.u];exact(Q5.1 gu).2.2,by rw[hT.dep];exact h.1⟩ hc
    ·have:=h.2;omega
def zi5{W:Q7}(p:TO W){c:Int}(c0:0<=c)(c1:c<(W.IF.length:Int)):LC c W (Qw W c)/\TO (Qw W c)/\∀g:Int,Q6 W.IE g->g≠0->UN (Qw W c) c g:=by
 have key:∀j:Nat,j<=3->LC c W (ZP W c j)/\TO (ZP W c j)/\∀g:Int,Q6 W.IE g->3-(j:Int)<dep 3 W.IE g->UN (ZP W c j) c g:=by
  intro j
  induction j with
  |zero=>exact λ_=>⟨LC.refl _ _,p,λg gu h=>by have:=(Lv p.a gu).2;omega⟩
  |succ j ih=>
   intro hj;obtain⟨a,b,h⟩:=ih Qo;have hT:=a.o.g;obtain⟨a2,b2,h2⟩:=zn5 b (c:=c) (d:=3-(j:Int)) Qo c0 (by rw[a.cs];exact c1) (λg gu hd=>h g (by rwa[hT.cD] at gu) (by rwa[hT.dep] at hd)) 8 (I7 _);refine⟨a.trans p.a.tree a2,b2,λg gu hd=>h2 g (by rw[hT.cD];exact gu) ?_⟩;rw[hT.dep];have:=(Q5.1 gu).2.1;have:=p.a.gl
   by_cases e:dep 3 W.IE g=3-(j:Int)
   ·exact .inr ⟨e,Qo⟩
   ·exact .inl Qo
 obtain⟨a,b,h⟩:=key 3 (I7 _);refine⟨a,b,λg gu gz=>h g gu ?_⟩;obtain⟨_,_,_,n,e1,_⟩:=Y3 p.a.tree gu gz;omega
def zd7{W:Q7}(p:TO W):∀c:Nat,c<=W.IF.length->TO (Zr W c)/\(Zr W c).IF=W.IF
 |0,_=>⟨p,rfl⟩
 |c+1,hc=>by
  obtain⟨a,e⟩:=zd7 p c Qo;obtain⟨l,b,_⟩:=zi5 a (c:=(c:Int)) Qo (by rw[e];omega);exact⟨b,l.cs.trans e⟩
def TO.BM3{W W':Q7}(p:TO W)(ho:V6 W W')(ha:WA W'):TO W':=by
 have et:∀t,Q8 W' t=Q8 W t:=Xf ho.t;have es:∀k d:Int,0<=k->Qb W' k d=Qb W k d:=λk d hk=>by unfold Qb;rw[ho.s k hk]
 have est:∀k d:Int,Q6 W.IE k->k≠0->(VV W' k d↔VV W k d):=λk d hu hz=>by
  unfold VV;rw[ho.g.p,es _ _ (Q5.1 (p.a.up hu hz)).1,es _ _ (Q5.1 hu).1]
 refine⟨⟨ha,λt t0 t1=>?_,λt t0 t1 n=>?_,λk d hu d0 d1=>?_⟩,λd d0 d1=>?_⟩
 ·rw[et];rcases p.t t t0 t1 with hz|⟨n,hx⟩
  ·exact .inl hz
  ·refine .inr ⟨n,hx.st,by rw[ho.g.cD];exact hx.g,hx.n,hx.m,hx.m0,hx.s,hx.u,hx.l1,hx.l2,λh1=>?_⟩;rw[es _ _ (Q5.1 hx.g).1];exact hx.f h1
 ·rw[et] at n ⊢;rw[ho.c];exact p.l t t0 t1 n
 ·rw[ho.g.cD] at hu;rw[ho.c] at d1;have hs:=p.s k d hu d0 d1;have k0:=(Q5.1 hu).1;exact⟨by rw[es k d k0];exact hs.s,by rw[es k d k0];exact hs.root,λhz h=>(est k d hu hz).2 (hs.st hz (by rwa[es k d k0] at h))⟩
 ·rw[ho.c] at d1;have hc:=p.c d d0 d1;refine⟨by rw[ho.c];exact hc.b,by rw[ho.c];exact hc.i,by rw[ho.c];exact hc.c1,by rw[ho.c];exact hc.c2,by rw[ho.c];exact hc.no,by rw[ho.c];exact hc.yes,?_⟩;rw[ho.c];simp only[et];intro h0 h1 h2;obtain⟨q1,q2⟩:=hc.q h0 h1 h2
  have hu:Q6 W.IE (Q8 W (gi W.IF d).cur).II:=by
   rcases p.t _ h0 hc.c2 with hz|⟨_,hx⟩
   ·rw[hz.1] at h1;cases h1
   ·exact hx.g
  refine⟨by rw[es _ d (Q5.1 hu).1];exact q1,λx hx=>?_⟩;rw[Vy ho.g] at hx;obtain⟨xu,xz⟩:=Ys p.a.tree _ hu x hx;obtain⟨s1,s2⟩:=q2 x hx;refine⟨(est x d xu xz).2 s1,?_⟩;rw[ho.g.p,es x d (Q5.1 xu).1,es _ d (Q5.1 (p.a.up xu xz)).1];exact s2
structure FC (c:Int) (W W':Q7):Prop where
 o:D4 c W W'
 cs:W'.IF=W.IF
 on:∀k d:Int,0<=k->0<=d->(Qb W' k d).on=(Qb W k d).on
 v:∀k d:Int,0<=k->0<=d->(Qb W' k d).v=(Qb W k d).v
 w:∀k d:Int,0<=k->0<=d->(Qb W' k d).w=(Qb W k d).w
 s:∀k d:Int,0<=k->0<=d->(Qb W' k d).sum=(Qb W k d).sum
 up:∀k d:Int,0<=k->0<=d->(Qb W k d).IL<=(Qb W' k d).IL
 fl:∀k:Int,0<=k->(Qb W' k c).IL=(Qb W k c).IL\/Sw W k c 20/\(Qb W' k c).IL=S3 W k c 20
def Nc{W:Q7}(ha:WA W){c:Int}(c0:0<=c)(c1:c<(W.IF.length:Int)):∀k:Nat,k<=8->FC c W (QD W c k)/\WA (QD W c k)/\∀g:Int,Q6 W.IE g->g<(k:Int)->Sw W g c 20->S3 W g c 20<=(Qb (QD W c k) g c).IL
 |0,_=>⟨⟨D4.refl _ _,rfl,λ_ _ _ _=>rfl,λ_ _ _ _=>rfl,λ_ _ _ _=>rfl,λ_ _ _ _=>rfl,λ_ _ _ _=>I2 _,λ_ _=>.inl rfl⟩,ha,λg gu h=>by have:=(Q5.1 gu).1;omega⟩
 |k+1,hk=>by
  obtain⟨f,hA,ih⟩:=Nc ha c0 c1 k Qo;have hl:=hA.gl;have hT:=f.o.g;have hb:=BR f.o.t hT ha.gl (λi hi=>f.on i c hi c0) (λi hi=>f.v i c hi c0);simp only[QD];split
  ·rename_i hc;have hu:Q6 (QD W c k).IE (k:Int):=Q5.2 ⟨Qo,Qo,hc.1⟩;have hsl:=hA.sl hu;have yZ:c<((gi (QD W c k).IE (k:Int)).IH.length:Int):=by rw[hsl,f.cs];exact c1
   have e:∀{i j:Int},0<=i->0<=j->Qb (Rw (QD W c k) (k:Int) c (Kn (QD W c k) (k:Int) c)) i j=if (k:Int)=i/\c=j then Kn (QD W c k) (k:Int) c else Qb (QD W c k) i j:=λhi hj=>XS Qo Qo c0 yZ hi hj
   refine⟨⟨f.o.trans (NI Qo Qo c0 yZ),f.cs,λi j hi hj=>?_,λi j hi hj=>?_,λi j hi hj=>?_,λi j hi hj=>?_,λi j hi hj=>?_,λi hi=>?_⟩,hA.Rw Qo Qo,λg gu hg hB=>?_⟩
   ·rw[e hi hj];split
    ·rename_i h;obtain⟨rfl,rfl⟩:=h;exact f.on _ _ hi hj
    ·exact f.on i j hi hj
   ·rw[e hi hj];split
    ·rename_i h;obtain⟨rfl,rfl⟩:=h;exact f.v _ _ hi hj
    ·exact f.v i j hi hj
   ·rw[e hi hj];split
    ·rename_i h;obtain⟨rfl,rfl⟩:=h;exact f.w _ _ hi hj
    ·exact f.w i j hi hj
   ·rw[e hi hj];split
    ·rename_i h;obtain⟨rfl,rfl⟩:=h;exact f.s _ _ hi hj
    ·exact f.s i j hi hj
   ·rw[e hi hj];split
    ·rename_i h;obtain⟨rfl,rfl⟩:=h;have h1:=f.up (k:Int) c hi hj;have h2:=hc.2.2;show _<=S3 (QD W c k) (k:Int) c 20;omega
    ·exact f.up i j hi hj
   ·rw[e hi c0];split
    ·rename_i h;obtain⟨rfl,_⟩:=h;refine .inr ⟨(hb _).1▸hc.2.1,?_⟩;show S3 (QD W c k) (k:Int) c 20=_;exact(hb _).2
    ·exact f.fl i hi
   ·have g0:=(Q5.1 gu).1;rw[e g0 c0];split
    ·rename_i h;obtain⟨rfl,_⟩:=h;show _<=S3 (QD W c k) (k:Int) c 20;rw[(hb _).2];exact I2 _
    ·rename_i h;exact ih g gu (by have:g≠(k:Int):=λe=>h ⟨e.symm,rfl⟩;omega) hB
  ·rename_i hc;refine⟨f,hA,λg gu hg hB=>?_⟩
   by_cases e:g=(k:Int)
   ·subst e;rw[hT.u,(hb _).1,(hb _).2] at hc
    by_cases h:S3 W (k:Int) c 20>(Qb (QD W c k) (k:Int) c).IL
    ·exact Ir ⟨(Q5.1 gu).2.2,hB,h⟩ hc
    ·omega
   ·exact ih g gu Qo hB
def D4.Wb{c d:Int}{W W':Q7}(h:D4 c W W')(d0:0<=d)(hd:d≠c)(g:Int):QJ W' g d=QJ W g d:=
 P1 h.t h.g λj _ _ _ _=>by rw[h.e _ d Qo d0 hd]
def D4.line{c:Int}{W W':Q7}(h:D4 c W W')(ht:Yh W.IE){t:Int}(hu:Q6 W.IE (Q8 W t).II)(d0:0<=(Q8 W t).R2)(hd:(Q8 W t).R2≠c):Zq W' t=Zq W t:=by
 unfold Zq Ut;rw[Xf h.t,Vy h.g]
 congr 1
 rw[Bool.eq_iff_iff,List.all_eq_true,List.all_eq_true];refine forall_congr' λx=>forall_congr' λhx=>?_
 rw[h.e x _ (Q5.1 (Ys ht _ hu x hx).1).1 d0 hd]
structure Dn (W:Q7) (c:Int):Prop where
 on:∀k:Int,Q6 W.IE k->k≠0->UN W c k
 cu:0<=(gi W.IF c).cur->(Q8 W (gi W.IF c).cur).R2=c/\Zq W (gi W.IF c).cur=true
 fl:∀k:Int,Q6 W.IE k->Sw W k c 20->S3 W k c 20<=(Qb W k c).IL
def Dn.oth{c d:Int}{W W':Q7}(h:Dn W d)(p:TO W)(o:D4 c W W')(d0:0<=d)(d1:d<(W.IF.length:Int))(hd:d≠c):Dn W' d:=by
 refine⟨λk hu hz=>?_,λh0=>?_,λk hu hB=>?_⟩
 ·rw[o.g.cD] at hu;have k0:=(Q5.1 hu).1;have:=h.on k hu hz;unfold UN at this ⊢;rw[o.e k d k0 d0 hd,o.Wb d0 hd,zk1 (o.b k k0)];exact this
 ·rw[o.cp d d0 hd] at h0 ⊢;rw[Xf o.t];obtain⟨h1,h2⟩:=h.cu h0;refine⟨h1,?_⟩
  have hs:(Q8 W (gi W.IF d).cur).state=1:=by
   unfold Zq at h2;rw[A'] at h2;exact Iz h2.1
  have hu:Q6 W.IE (Q8 W (gi W.IF d).cur).II:=by
   rcases p.t _ h0 (p.c d d0 d1).c2 with hz|⟨_,hx⟩
   ·rw[hz.1] at hs;cases hs
   ·exact hx.g
  rw[o.line p.a.tree hu (by rw[h1];exact d0) (by rw[h1];exact hd)];exact h2
 ·rw[o.g.cD] at hu;have hb:=BR (d:=d) o.t o.g p.a.gl (λi hi=>by rw[o.e i d hi d0 hd]) (λi hi=>by rw[o.e i d hi d0 hd]) k;rw[hb.1] at hB;rw[hb.2,o.e k d (Q5.1 hu).1 d0 hd];exact h.fl k hu hB
def EM.cp{W:Q7}{x:MQ}(h:EM W x)(cs:List PZ):EM { W with IF:=cs } x:=⟨h.st,h.g,h.n,h.m,h.m0,h.s,h.u,h.l1,h.l2,h.f⟩
def zpm.cp{W:Q7}{k c:Int}(h:zpm W k c)(cs:List PZ):zpm { W with IF:=cs } k c:=⟨h.s,h.root,h.st⟩
def PreA.Rb{W:Q7}(p:PreA W){c:Int}(c0:0<=c)(c1:c<(W.IF.length:Int)):PreA (Rb W c):=by
 have hlen:(YtjinkcmkgnofjaaGreatDoor.Rb W c).IF.length=W.IF.length:=E';refine⟨?_,λt t0 t1=>?_,λt t0 t1 n=>?_,λk d hu d0 d1=>?_⟩
 ·refine p.a.cp E' ?_;rw[zmq E' λj hj=>?_]
  ·exact p.a.ups
  ·rw[QE _ _ c0 c1 Qo];split
   ·rename_i e;rw[<-e];rfl
   ·rfl
 ·rcases p.t t t0 t1 with h|h
  ·exact .inl h
  ·exact .inr ⟨h.1,h.2.cp _⟩
 ·rw[hlen];exact p.l t t0 t1 n
 ·rw[hlen] at d1;exact(p.s k d hu d0 d1).cp _
def TO.Rb{W:Q7}(p:TO W){c:Int}(c0:0<=c)(c1:c<(W.IF.length:Int)):TO (Rb W c):=by
 refine⟨p.toPreA.Rb c0 c1,λd d0 d1=>?_⟩;have hlen:(YtjinkcmkgnofjaaGreatDoor.Rb W c).IF.length=W.IF.length:=E';have rM:gi (YtjinkcmkgnofjaaGreatDoor.Rb W c).IF d=if c=d then Xv (gi W.IF c) else gi W.IF d:=QE _ _ c0 c1 d0;rw[hlen] at d1;have hc:=p.c d d0 d1
 by_cases e:c=d
 ·subst e;rw[C' rfl] at rM;have n1:(Xv (gi W.IF c)).cur = -1:=rfl;exact⟨by rw[rM];exact hc.b,by rw[rM];exact hc.i,by rw[rM,n1];exact I2 _,by rw[rM,n1];decide,λ_=>by rw[rM];rfl,λh=>by rw[rM,n1] at h;omega,λh=>by rw[rM,n1] at h;omega⟩
 ·rw[B' e] at rM;exact⟨by rw[rM];exact hc.b,by rw[rM];exact hc.i,by rw[rM];exact hc.c1,by rw[rM];exact hc.c2,by rw[rM];exact hc.no,by rw[rM];exact hc.yes,by rw[rM];exact hc.q⟩
def zzp{W:Q7}(p:TO W){c:Int}(c0:0<=c)(c1:c<(W.IF.length:Int)):TO (Xc W c)/\D4 c W (Xc W c)/\Dn (Xc W c) c:=by
 obtain⟨l,p1,hon⟩:=zi5 p c0 c1;obtain⟨f,hA,zE⟩:=Nc p1.a c0 (c:=c) (by rw[l.cs];exact c1) 8 (I7 _);have f:FC c (Qw W c) (Z3 (Qw W c) c):=f;have hA:WA (Z3 (Qw W c) c):=hA;have zE:∀g:Int,Q6 (Qw W c).IE g->g<((8:Nat):Int)->Sw (Qw W c) g c 20->S3 (Qw W c) g c 20<=(Qb (Z3 (Qw W c) c) g c).IL:=zE;have hon:∀g:Int,Q6 (Qw W c).IE g->g≠0->UN (Qw W c) c g:=λg gu gz=>hon g (by rwa[l.o.g.cD] at gu) gz
 have cZ:=p1.a.gl;have hlc:(Qw W c).IF.length=W.IF.length:=by rw[l.cs]
 have Wg:Xc W c=if Tz (Z3 (Qw W c) c) c=true then Rb (Z3 (Qw W c) c) c else Z3 (Qw W c) c:=rfl;have hO:D4 c W (Z3 (Qw W c) c):=l.o.trans f.o;rw[Wg];clear Wg;have yZ:c<((Qw W c).IF.length:Int):=by rw[hlc];exact c1
 generalize Qw W c=V at p1 hon f hA zE cZ hlc hO yZ;generalize Z3 V c=F at f hA zE hO;have et:∀t,Q8 F t=Q8 V t:=Xf f.o.t;have hT:=f.o.g;have bJ:=BR (d:=c) f.o.t hT cZ (λi hi=>f.on i c hi c0) (λi hi=>f.v i c hi c0)
 have low:∀k:Int,Q6 V.IE k->∀v:Int,(Sw V k c 20/\S3 V k c 20<=v)->(Qb V k c).IL<=v->(Qb F k c).IL<=v:=λk hu v hv hf=>by
  rcases f.fl k (Q5.1 hu).1 with e|⟨_,e⟩
  ·rw[e];exact hf
  ·rw[e];exact hv.2
 have st:∀k d:Int,Q6 V.IE k->k≠0->0<=d->(Qb V k d).on->VV V k d->VV F k d:=λk d hu hz d0 ho hs=>by
  have pu:=p1.a.up hu hz;have k0:=(Q5.1 hu).1;have q0:=(Q5.1 pu).1;unfold VV;rw[hT.p,f.v k d k0 d0,f.w k d k0 d0];have hup:=f.up _ d q0 d0;refine⟨?_,by have:=hs.2;omega⟩
  by_cases hd:d=c
  ·subst hd;exact low _ pu _ (zpt p1.a hu hz ho) hs.1
  ·rw[f.o.e _ d q0 d0 hd];exact hs.1
 have pa:PreA F:=by
  refine⟨hA,λt t0 t1=>?_,λt t0 t1 n=>?_,λk d hu d0 d1=>?_⟩
  ·rw[et];rcases p1.t t t0 t1 with hz|⟨n,hx⟩
   ·exact .inl hz
   ·refine .inr ⟨n,hx.st,by rw[hT.cD];exact hx.g,hx.n,hx.m,hx.m0,hx.s,hx.u,hx.l1,hx.l2,λh1=>?_⟩;obtain⟨d0,d1⟩:=p1.l t t0 t1 n;have g0:=(Q5.1 hx.g).1;have hup:=f.up _ _ g0 d0;have hs:=hx.f h1;refine⟨?_,Qo⟩
    by_cases hd:(Q8 V t).R2=c
    ·have hb:=zt2 p1.a t0 t1 h1;rw[hd] at hb hs ⊢;exact low _ hx.g _ hb hs.1
    ·rw[f.o.e _ _ g0 d0 hd];exact hs.1
  ·rw[et] at n ⊢;rw[f.cs];exact p1.l t t0 t1 n
  ·rw[hT.cD] at hu;rw[f.cs] at d1;have hs:=p1.s k d hu d0 d1;have k0:=(Q5.1 hu).1;refine⟨by rw[f.s k d k0 d0];exact hs.s,λhz=>?_,λhz h=>?_⟩
   ·rw[f.on k d k0 d0,f.v k d k0 d0,f.w k d k0 d0];exact hs.root hz
   ·rw[f.on k d k0 d0] at h;exact st k d hu hz d0 h (hs.st hz h)
 have ptu:∀t:Int,0<=t->t<12->(Q8 V t).state=1->Q6 V.IE (Q8 V t).II:=λt t0 t1 h=>by
  rcases p1.t t t0 t1 with hz|⟨_,hx⟩
  ·rw[hz.1] at h;cases h
  ·exact hx.g
 have pc:∀d:Int,0<=d->d<(V.IF.length:Int)->(d=c->Tz F c=false)->z3g F d:=λd d0 d1 hg=>by
  have hc:=p1.c d d0 d1;refine⟨by rw[f.cs];exact hc.b,by rw[f.cs];exact hc.i,by rw[f.cs];exact hc.c1,by rw[f.cs];exact hc.c2,by rw[f.cs];exact hc.no,by rw[f.cs];exact hc.yes,?_⟩;rw[f.cs];simp only[et];intro h0 h1 h2;obtain⟨q1,q2⟩:=hc.q h0 h1 h2;have hu:=ptu _ h0 hc.c2 h1;have hup:=f.up _ d (Q5.1 hu).1 d0;refine⟨Qo,λx hx=>?_⟩;rw[Vy hT] at hx;obtain⟨xu,xz⟩:=Ys p1.a.tree _ hu x hx;obtain⟨s1,s2⟩:=q2 x hx;have x0:=(Q5.1 xu).1;have q0:=(Q5.1 (p1.a.up xu xz)).1;have Dl0:=f.up _ d q0 d0;refine⟨?_,by rw[hT.p,f.v x d x0 d0,f.w x d x0 d0];omega⟩
  by_cases hd:d=c
  ·subst hd
   have hl:Zq F (gi V.IF d).cur:=by
    have:=hg rfl;unfold Tz at this;rw[f.cs,et,Ih h0,h2] at this
    simpa using this
   unfold Zq Ut at hl;rw[et,h2,Vy hT,A',List.all_eq_true] at hl;have ho:=hl.2 x hx;rw[f.on x d x0 d0] at ho;exact st x d xu xz d0 ho s1
  ·unfold VV;rw[hT.p,f.o.e x d x0 d0 hd,f.o.e _ d q0 d0 hd];exact s1
 have Br1:∀k:Int,Q6 F.IE k->k≠0->UN F c k:=λk hu hz=>by
  rw[hT.cD] at hu;have k0:=(Q5.1 hu).1;have:=hon k hu hz;unfold UN at this ⊢;rw[f.on k c k0 c0,P1 f.o.t hT λj _ _ _ _=>f.on _ c Qo c0,zk1 (f.o.b k k0)];exact this
 have Cf6:∀k:Int,Q6 F.IE k->Sw F k c 20->S3 F k c 20<=(Qb F k c).IL:=λk hu hB=>by
  rw[hT.cD] at hu;rw[(bJ k).1] at hB;rw[(bJ k).2];exact zE k hu (by have:=(Q5.1 hu).2.1;omega) hB
 split
 ·rename_i hg;have cF:c<(F.IF.length:Int):=by rw[f.cs];exact yZ
  have rM:∀d:Int,0<=d->gi (Rb F c).IF d=if c=d then Xv (gi F.IF c) else gi F.IF d:=λd d0=>QE _ _ c0 cF d0
  have hlen:(Rb F c).IF.length=F.IF.length:=E';refine⟨⟨pa.Rb c0 cF,λd d0 d1=>?_⟩,hO.trans (zoe c0 cF),Br1,λh0=>?_,Cf6⟩
  ·rw[hlen] at d1
   by_cases e:c=d
   ·subst e;have hc:=p1.c c c0 yZ;have e1:gi (Rb F c).IF c=Xv (gi V.IF c):=by rw[rM c c0,C' rfl,f.cs]
    have n1:(Xv (gi V.IF c)).cur = -1:=rfl;exact⟨by rw[e1];exact hc.b,by rw[e1];exact hc.i,by rw[e1,n1];exact I2 _,by rw[e1,n1];decide,λ_=>by rw[e1];rfl,λh=>by rw[e1,n1] at h;omega,λh=>by rw[e1,n1] at h;omega⟩
   ·have hc:=pc d d0 (by rw[<-f.cs];exact d1) λh=>Ir h.symm e
    have e1:gi (Rb F c).IF d=gi F.IF d:=by rw[rM d d0,B' e]
    exact⟨by rw[e1];exact hc.b,by rw[e1];exact hc.i,by rw[e1];exact hc.c1,by rw[e1];exact hc.c2,by rw[e1];exact hc.no,by rw[e1];exact hc.yes,by rw[e1];exact hc.q⟩
  ·rw[rM c c0,C' rfl] at h0;have h0:(0:Int)<=-1:=h0;omega
 ·rename_i hg;have hg:Tz F c=false:=by simpa using hg
  refine⟨⟨pa,λd d0 d1=>pc d d0 (by rw[<-f.cs];exact d1) λ_=>hg⟩,hO,Br1,λh0=>?_,Cf6⟩;unfold Tz at hg;rw[Ih h0,Bool.true_and,H'] at hg;exact⟨by simpa using hg.1,by simpa using hg.2⟩
def zo4{W:Q7}(p:TO W):∀c:Nat,c<=W.IF.length->TO (Xb W c)/\(Xb W c).IF.length=W.IF.length/\(Xb W c).IJ=W.IJ/\QZ W.IE (Xb W c).IE/\∀d:Int,0<=d->d<(c:Int)->Dn (Xb W c) d
 |0,_=>⟨p,rfl,rfl,QZ.refl _,λd a b=>by omega⟩
 |c+1,hc=>by
  obtain⟨a,e,et,eg,ih⟩:=zo4 p c Qo;obtain⟨p1,o,dn⟩:=zzp a (c:=(c:Int)) Qo (by rw[e];omega);refine⟨p1,o.len.trans e,o.t.trans et,eg.trans o.g,λd d0 d1=>?_⟩
  by_cases h:d=(c:Int)
  ·subst h;exact dn
  ·exact(ih d d0 Qo).oth a o d0 (by rw[e];omega) h
def zvl{K:Int}{W:Q7}(sw:SW K W)(p:TO W)(hK:0<=K):TO (Qf W)/\Fr W (Qf W)/\∀d:Int,0<=d->d<(W.IF.length:Int)->Dn (Qf W) d:=by
 obtain⟨a,e⟩:=zd7 p W.IF.length (I7 _);obtain⟨s1,_⟩:=VY (F:=K) (K:=K+Qi) (sw.sf.mono (I2 _) (by simp only[Qi];omega)) (I2 _) W.IF.length (I7 _);obtain⟨s2,b2⟩:=Vd s1 8 (I7 _);have p2:=a.BM3 b2 s2.w.a;have e2:(Y8 (Zr W W.IF.length) 8).IF.length=W.IF.length:=by rw[b2.c,e]
 obtain⟨p3,e3,_,_,dn⟩:=zo4 p2 W.IF.length (by rw[e2];exact I7 _);exact⟨p3,(ON sw hK).2,dn⟩
def z48{K:Int}{W:Q7}(sw:SW K W)(hK:K<=100000000000000000)(p:TO W)(hl:zbj W)(dn:∀d:Int,0<=d->d<(W.IF.length:Int)->Dn W d):XV W/\z6n W:=by
 have tm:∀k c:Int,Q6 W.IE k->0<=c->c<(W.IF.length:Int)->ZZ (Qb W k c).IL/\ZZ (Qb W k c).v:=λk c hu c0 c1=>by
  have:=sw.s k c hu c0 c1;exact⟨Xg.2 Qo,Xg.2 Qo⟩
 have tv:∀t:Int,0<=t->t<12->ZZ (Q8 W t).v:=λt t0 t1=>by
  have:=sw.tv t t0 t1;exact Xg.2 Qo
 refine⟨⟨p.a,λt t0 t1=>?_,λk c k0 k1 c0 c1=>?_,λc c0 c1=>?_⟩,λk c hu c0 c1 hB=>(dn c c0 c1).fl k hu hB⟩
 ·rcases p.t t t0 t1 with hz|⟨n,hx⟩
  ·exact .inl hz
  ·obtain⟨d0,d1⟩:=p.l t t0 t1 n;exact .inr ⟨n,hx.st,hx.g,hx.n,hx.m,hx.m0,tv t t0 t1,hx.s,hx.u,hx.l1,hx.l2,hl t t0 t1 n,λh1=>(Bc (tv t t0 t1) (tm _ _ hx.g d0 d1).1).2 (hx.f h1)⟩
 ·have cZ:=p.a.gl
  have hu:Q6 W.IE k:=by
   cases hb:(gi W.IE k).IW with
   |true=>exact Q5.2 ⟨k0,Qo,hb⟩
   |false=>
    have:=((p.a.grp k k0 k1).1 hb).l;omega
  have hsl:=p.a.sl hu;have c1:c<(W.IF.length:Int):=Qo;have hs:=p.s k c hu c0 c1;have ht:=tm k c hu c0 c1;have hw:=sw.s k c hu c0 c1;exact⟨ht.1,ht.2,hs.s,hw.2.2.2.2.1,hw.2.2.2.2.2,hs.root,λhz=>(dn c c0 c1).on k hu hz,λhz ho=>(Bc ht.2 (tm _ c (p.a.up hu hz) c0 c1).1).2 (hs.st hz ho)⟩
 ·have hc:=p.c c c0 c1;have qT:=p.a.t;refine⟨hc.b,hc.i,hc.c1,by have:=hc.c2;omega,hc.no,λh0=>?_⟩;obtain⟨y1,y2,y3⟩:=hc.yes h0;obtain⟨z1,z2⟩:=(dn c c0 c1).cu h0
  have hs:(Q8 W (gi W.IF c).cur).state=1:=by
   unfold Zq at z2;rw[A'] at z2;exact Iz z2.1
  obtain⟨q1,q2⟩:=hc.q h0 hs z1;refine⟨y1,y2,y3,z1,z2,?_⟩;unfold MJ Od;rw[A',List.all_eq_true];exact⟨Ih q1,λx hx=>Ih (q2 x hx).2⟩
def QQ{α β:Type}[Inhabited α]{f:α->β}(l:List α)(k:Int){x:α}(h:f x=f (gi l k))(i:Int):f (gi (l.set k.toNat x) i)=f (gi l i):=by
 unfold gi at *;simp only[List.getD_eq_getElem?_getD,List.getElem?_set] at *
 by_cases e:k.toNat=i.toNat
 ·rw[C' e];split
  ·rw[<-e];simpa using h
  ·rename_i hl;have:l[i.toNat]? = none:=List.getElem?_eq_none_iff.2 Qo;rw[this]
 ·rw[B' e]
structure TT (W W':Q7):Prop where
 g:QZ W.IE W'.IE
 m:∀i:Int,(gi W'.IE i).IF=(gi W.IE i).IF
 w:∀i:Int,(gi W'.IE i).R3=(gi W.IE i).R3
 len:W'.IF.length=W.IF.length
 u:∀i:Int,(gi W'.IF i).up=(gi W.IF i).up
def TT.refl(W:Q7):TT W W:=⟨QZ.refl _,λ_=>rfl,λ_=>rfl,rfl,λ_=>rfl⟩
def TT.trans{A B C:Q7}(h:TT A B)(k:TT B C):TT A C:=⟨h.g.trans k.g,λi=>(k.m i).trans (h.m i),λi=>(k.w i).trans (h.w i),k.len.trans h.len,λi=>(k.u i).trans (h.u i)⟩
def zrg{W:Q7}{g:Int}{x:Zb}(u:x.IW=(gi W.IE g).IW)(p:x.IG=(gi W.IE g).IG)(n:x.name=(gi W.IE g).name)(m:x.IF=(gi W.IE g).IF)(w:x.R3=(gi W.IE g).R3):TT W (R1 W g x):=
 ⟨⟨E',λi=>QQ (f:=Zb.IW) _ _ u i,λi=>QQ (f:=Zb.IG) _ _ p i,λi=>QQ (f:=Zb.name) _ _ n i⟩,λi=>QQ (f:=Zb.IF) _ _ m i,λi=>QQ (f:=Zb.R3) _ _ w i,rfl,λ_=>rfl⟩
def zfk(W:Q7)(g c:Int)(s:KD):TT W (Rw W g c s):=zrg rfl rfl rfl rfl rfl
def zrf(W:Q7)(g:Int)(b:Ue):TT W (RZ W g b):=zrg rfl rfl rfl rfl rfl
def zri(W:Q7)(t:Int)(x:MQ):TT W (J' W t x):=⟨QZ.refl _,λ_=>rfl,λ_=>rfl,rfl,λ_=>rfl⟩
def zmh{W:Q7}{c:Int}{x:PZ}(u:x.up=(gi W.IF c).up):TT W (RM W c x):=⟨QZ.refl _,λ_=>rfl,λ_=>rfl,E',λi=>QQ (f:=PZ.up) _ _ u i⟩
def HW(W:Q7)(c:Int):TT W (Rb W c):=zmh rfl
def A2(W:Q7)(c d:Int):∀k:Nat,TT W (Z4 W c d k)
 |0=>TT.refl _
 |k+1=>by
  simp only[Z4];split
  ·exact(A2 W c d k).trans (zfk _ _ _ _)
  ·exact A2 W c d k
def MI(W:Q7)(c:Int):∀j:Nat,TT W (ZP W c j)
 |0=>TT.refl _
 |j+1=>(MI W c j).trans (A2 _ _ _ _)
def zfj(W:Q7):∀c:Nat,TT W (Zr W c)
 |0=>TT.refl _
 |c+1=>(zfj W c).trans (MI (Zr W c) (c:Int) 3)
def A0(W:Q7)(k:Int):∀c:Nat,TT W (Y5 W k c)
 |0=>TT.refl _
 |c+1=>by
  simp only[Y5];split
  ·exact(A0 W k c).trans (zrf _ _ _)
  ·exact A0 W k c
def A1(W:Q7):∀k:Nat,TT W (Y8 W k)
 |0=>TT.refl _
 |k+1=>by
  simp only[Y8];split
  ·exact(A1 W k).trans (A0 _ _ _)
  ·exact A1 W k
def G1(W:Q7)(c:Int):∀k:Nat,TT W (QD W c k)
 |0=>TT.refl _
 |k+1=>by
  simp only[QD];split
  ·exact(G1 W c k).trans (zfk _ _ _ _)
  ·exact G1 W c k
def zvq(W:Q7)(c:Int):TT W (Xc W c):=by
 have h:=(MI W c 3).trans (G1 (Qw W c) c 8);unfold Xc;split
 ·exact h.trans (HW _ _)
 ·exact h
def zjv(W:Q7):∀c:Nat,TT W (Xb W c)
 |0=>TT.refl _
 |c+1=>(zjv W c).trans (zvq (Xb W c) (c:Int))
def zrh(W:Q7):TT W (Qf W):=((zfj W W.IF.length).trans (A1 (Zr W W.IF.length) 8)).trans (zjv (Mk (Zr W W.IF.length)) W.IF.length)
def TT.ups{W W':Q7}(h:TT W W'):JC W'.IF=JC W.IF:=zmq h.len λj _=>h.u j
def TT.pin{W W':Q7}(h:TT W W')(g u:Int):T5 W'.IE g u=T5 W.IE g u:=by
 unfold T5;rw[show QM W'.IE g=QM W.IE g from h.g.path 3 g]
 congr 1
 funext s x
 rw[h.m]
def TT.wh{W W':Q7}(h:TT W W')(g m:Int):QF W' g m=QF W g m:=by
 unfold QF;rw[h.ups,h.pin]
def TT.loc{W W':Q7}(h:TT W W')(ht:W'.IJ=W.IJ)(hl:zbj W):zbj W':=λt t0 t1 n=>by
 rw[Xf ht] at n ⊢;rw[h.wh];exact hl t t0 t1 n
def zfg{K:Int}{W:Q7}(sw:SW K W)(hK:0<=K)(gP:K+UQ<=100000000000000000)(p:TO W)(hl:zbj W):XV (Qf W)/\z6n (Qf W):=by
 obtain⟨p1,hf,dn⟩:=zvl sw p hK;exact z48 (ON sw hK).1 gP p1 ((zrh W).loc hf.t hl) λd d0 d1=>dn d d0 (by rw[<-hf.c];exact d1)
def zpm.By4{W W':Q7}{k c:Int}(h:zpm W k c)(e:Qb W' k c=Qb W k c)(ep:k≠0->(Qb W' (gi W'.IE k).IG c).IL=(Qb W (gi W.IE k).IG c).IL):zpm W' k c:=
 ⟨by rw[e];exact h.s,by rw[e];exact h.root,λhz ho=>by
  rw[e] at ho;have:=h.st hz ho;unfold VV at this ⊢;rw[e,ep hz];exact this⟩
def TO.J'{W:Q7}(p:TO W){t:Int}(t0:0<=t)(t1:t<12){x:MQ}(hx:x.state=0/\x=T3\/x.state≠0/\EM W x/\0<=x.R2/\x.R2<(W.IF.length:Int))(hc:∀c:Int,0<=c->c<(W.IF.length:Int)->(gi W.IF c).cur=t->x.state=1->x.R2=c->x.v-(Qb W x.II c).IL<=Z2 (gi W.IF c).Wh (Qh x.nice)/\∀y∈QM W.IE x.II,VV W y c/\(Qb W y c).v-(Qb W (gi W.IE y).IG c).IL<=Z2 (gi W.IF c).Wh (Qb W y c).w):TO (J' W t x):=by
 have hl:=p.a.t;have e:∀i:Int,0<=i->Q8 (YtjinkcmkgnofjaaGreatDoor.J' W t x) i=if t=i then x else Q8 W i:=λi i0=>QE _ _ t0 Qo i0
 refine⟨⟨p.a.tk E',λi a b=>?_,λi a b n=>?_,λk c hu c0 c1=>?_⟩,λc c0 c1=>?_⟩
 ·rw[e i a];split
  ·rcases hx with h|⟨h1,h2,_⟩
   ·exact .inl h
   ·exact .inr ⟨h1,h2.st,h2.g,h2.n,h2.m,h2.m0,h2.s,h2.u,h2.l1,h2.l2,h2.f⟩
  ·rcases p.t i a b with h|⟨h1,h2⟩
   ·exact .inl h
   ·exact .inr ⟨h1,h2.st,h2.g,h2.n,h2.m,h2.m0,h2.s,h2.u,h2.l1,h2.l2,h2.f⟩
 ·rw[e i a] at n ⊢;split
  ·rename_i h;rw[C' h] at n;rcases hx with h|⟨_,_,h2⟩
   ·exact Ir h.1 n
   ·exact h2
  ·rename_i h;rw[B' h] at n;exact p.l i a b n
 ·exact(p.s k c hu c0 c1).By4 rfl λ_=>rfl
 ·have h:=p.c c c0 c1;refine⟨h.b,h.i,h.c1,h.c2,h.no,h.yes,λh0=>?_⟩;rw[e _ h0];split
  ·rename_i he;exact λh1 h2=>hc c c0 c1 he.symm h1 h2
  ·exact h.q h0
def Eh(p:Nat->Bool):Nat->Int
 |0 => -1
 |k+1=>if (decide (Eh p k<0)&&p k)=true then (k:Int) else Eh p k
def KO(p:Nat->Bool):∀k:Nat,(Eh p k = -1/\∀j,j<k->p j=false)\/(0<=Eh p k/\Eh p k<(k:Int)/\p (Eh p k).toNat/\∀j:Nat,(j:Int)<Eh p k->p j=false)
 |0=>.inl ⟨rfl,λj hj=>Ir hj (Nat.not_lt_zero j)⟩
 |k+1=>by
  simp only[Eh];rcases KO p k with ⟨h1,h2⟩|⟨h1,h2,h3,h4⟩
  ·cases hp:p k with
   |true=>
    rw[h1,C' (by rfl)];exact .inr ⟨Qo,Qo,by simpa using hp,λj hj=>h2 j Qo⟩
   |false=>
    rw[B' Qs,h1];refine .inl ⟨rfl,λj hj=>?_⟩
    by_cases e:j=k
    ·rw[e];exact hp
    ·exact h2 j Qo
  ·rw[B' (by rw[decide_eq_false (by omega:¬Eh p k<0)];simp)];exact .inr ⟨h1,Qo,h3,h4⟩
def zse{p:Nat->Bool}{n:Nat}(h:∀j,j<n->p j=false):Eh p n = -1:=by
 rcases KO p n with ⟨h1,_⟩|⟨h1,h2,h3,_⟩
 ·exact h1
 ·rw[h _ Qo] at h3;cases h3
def zsd{p:Nat->Bool}{n:Nat}{a:Int}(a0:0<=a)(a1:a<(n:Int))(hp:p a.toNat)(hn:∀j:Nat,(j:Int)<a->p j=false):Eh p n=a:=by
 rcases KO p n with ⟨_,h2⟩|⟨h1,h2,h3,h4⟩
 ·rw[h2 _ Qo] at hp;cases hp
 ·by_cases l:Eh p n<a
  ·rw[hn _ Qo] at h3;cases h3
  ·by_cases g:a<Eh p n
   ·rw[h4 _ Qo] at hp;cases hp
   ·omega
def Mm(W:Q7)(j:Nat):Bool:=(Q8 W (j:Int)).state==0
def Tw(W:Q7):Int:=Eh (Mm W) 12
noncomputable def Vc(W:Q7)(g n x:Int):Int:=if Qh n=0\/PK x=false\/x=0 then 1 else if Q6 W.IE g=false then 2 else if Tw W<0 then 3 else if QO W=false then 10 else 0
def KM(W:Q7)(g x:Int):Int:=MV W (QF W g x)
def KN(W:Q7)(g n x:Int):MQ:=⟨1,g,KM W g x,n,x,(Qb W g (KM W g x)).IL,0,0,0⟩
def DB(W:Q7)(g n x:Int):Q7:=Qf (Rb (J' W (Tw W) (KN W g n x)) (KM W g x))
noncomputable def Uf(W:Q7)(bar:Int)(W':Q7)(a:Int):Q7×Int×Int:=if Qp W=false then (Ll,-1,1) else if bar≠0 then (W,-1,bar) else (W',a,0)
def OX(r:Q7×Int×Int)(w:Wo)(v:Va)(w':Wo):Prop:=∃n m',v=.tuple #[.agg (Qa r.1 m').toArray,.int .i64 r.2.1,.int .i64 r.2.2]/\Zj n w.heap.size w' r.1 m'/\Q0 [] w w'
structure z5j (W:Q7) (g n x:Int):Prop where
 w:Qh n≠0
 m:PK x=true
 m0:x≠0
 u:Q6 W.IE g=true
 f0:0<=Tw W
 f1:Tw W<12
 f2:(Q8 W (Tw W)).state=0
 r:QO W=true
 sw:SW Qn W
 c0:0<=KM W g x
 c1:KM W g x<(W.IF.length:Int)
 ch:Zk (QF W g x) (KM W g x)=true
 sw2:SW Qn (J' W (Tw W) (KN W g n x))
def za0{W:Q7}{g n x:Int}(hW:Qp W)(hb:Vc W g n x=0):z5j W g n x:=by
 have wp:=Qm.1 hW;unfold Vc at hb
 split at hb
 ·cases hb
 ·rename_i h1
  split at hb
  ·cases hb
  ·rename_i h2
   split at hb
   ·cases hb
   ·rename_i h3
    split at hb
    ·cases hb
    ·rename_i h4;have h4:QO W:=by simpa using h4
     have h2:Q6 W.IE g:=by simpa using h2
     have sw:=MK wp (Qm.1 h4)
     have hf:0<=Tw W/\Tw W<12/\Mm W (Tw W).toNat:=by
      rcases KO (Mm W) 12 with ⟨a,_⟩|⟨a,b,c,_⟩
      ·unfold Tw at h3;omega
      ·exact⟨a,b,c⟩
     obtain⟨c0,c1,ch⟩:=HS wp.a g x;have hs:=sw.s g _ h2 c0 c1;have e:(((Tw W).toNat:Nat):Int)=Tw W:=Qo;refine⟨λh=>h1 (.inl h),?_,λh=>h1 (.inr (.inr h)),h2,hf.1,hf.2.1,?_,h4,sw,c0,c1,ch,sw.J' hf.1 hf.2.1 (x:=KN W g n x) (λ_=>⟨h2,c0,c1⟩) hs.1 hs.2.1⟩
     ·cases hm:PK x with
      |true=>rfl
      |false=>exact Ir (.inr (.inl hm)) h1
     ·have:=hf.2.2;unfold Mm at this;rw[e] at this;exact Iz this
section
variable {W W':Q7}{m:MW}{w:Wo}{bar a:Int}
def OX.bad{w':Wo}(hW:Qp W=false)(hx:Q0 [] w w'):OX (Uf W bar W' a) w (.tuple #[.agg (Qa Ll z0d).toArray,.int .i64 (-1),.int .i64 1]) w':=by
 rw[show Uf W bar W' a=(Ll,-1,1) from C' hW];exact⟨0,z0d,rfl,Zj.zero _ _,hx⟩
def OX.no{n:Nat}{bs:List Nat}{w':Wo}{m':MW}(hW:Qp W)(hb:bar≠0)(hk:Wk n bs w w' W m'){c:Int}(hc:bar=c):OX (Uf W bar W' a) w (.tuple #[.agg (Qa W m').toArray,.int .i64 (-1),.int .i64 c]) w':=by
 rw[show Uf W bar W' a=(W,-1,c) by unfold Uf;rw[B' (by rw[hW];decide),C' hb,hc]];exact⟨n,m',rfl,hk.fin⟩
def OX.ok{n:Nat}{bs:List Nat}{w':Wo}{m':MW}(hW:Qp W)(hb:bar=0)(hk:Wk n bs w w' W' m'):OX (Uf W bar W' a) w (.tuple #[.agg (Qa W' m').toArray,.int .i64 a,.int .i64 0]) w':=by
 rw[show Uf W bar W' a=(W',a,0) by unfold Uf;rw[B' (by rw[hW];decide),B' (by simpa using hb)]];exact⟨n,m',rfl,hk.fin⟩
def Pu{g n x:Int}(h:J6 [] w W m)(hl:UV W) :
  Cz Yo #[.agg (Qa W m).toArray,.int .i64 g,.int .i64 n,.int .i64 x] w λe w'=>∃v,e=.returned v/\OX (Uf W (Vc W g n x) (DB W g n x) (Tw W)) w v w':=by
 refine CA W.now m.cO W.IF.length m.cC m.tO W.IJ.length m.tC m.gO W.IE.length m.gC g n x (R:=λv w'=>OX (Uf W (Vc W g n x) (DB W g n x) (Tw W)) w v w') ?_;intro y hy y1 dY wr Rg We;refine I3 (Zi (h.ext Rg) hl) ?_;rintro e wv (⟨hW,he,SX⟩|⟨hW,m',he,hM,SX⟩)
 ·exact⟨_,_,_,_,_,_,_,_,_,_,_,he,Qg SX We,λ_ R6 Rl=>OX.bad hW ((Rg.trans SX).fresh Rl λz hm=>.inl (YF hy dY z hm)),λg=>by simp at g⟩
 have hK:=Wk.begin hy dY Rg We hM SX;have hr:=hK.rd;have wp:=Qm.1 hW;have qT:=wp.a.t;refine⟨_,_,_,_,_,_,_,_,_,_,_,he,Qg SX We,λg=>by split at g <;> simp at g,λ_=>⟨_,Y1,_,λ_=>Xn,λg1 R7 Rl=>?_,λg1=>⟨_,Xo hr.g,λg2 RD Rl=>?_,λg2=>⟨⟨Qo,Qo⟩,?_⟩⟩⟩⟩
 ·have hb:Vc W g n x=1:=by
   unfold Vc;rw[C'];simp only[Iu,Is,ID] at g1;rcases g1 with (g1|g1)|g1
   ·exact .inl g1
   ·exact .inr (.inl g1)
   ·exact .inr (.inr g1)
  exact OX.no hW (by rw[hb];decide) (hK.step Rl) hb
 ·have n1:¬(Qh n=0\/PK x=false\/x=0):=by
   simp only[H',beq_eq_false_iff_ne,I6,ne_eq] at g1;rintro (h|h|h)
   ·exact g1.1.1 h
   ·rw[g1.1.2] at h;cases h
   ·exact g1.2 h
  have hb:Vc W g n x=2:=by unfold Vc;rw[B' n1,C' (by simpa using g2)]
  exact OX.no hW (by rw[hb];decide) (hK.step Rl) hb
 have n1:¬(Qh n=0\/PK x=false\/x=0):=by
  simp only[H',beq_eq_false_iff_ne,I6,ne_eq] at g1;rintro (h|h|h)
  ·exact g1.1.1 h
  ·rw[g1.1.2] at h;cases h
  ·exact g1.2 h
 have hu:Q6 W.IE g:=by simpa using g2
 have n2:¬Q6 W.IE g=false:=by rw[hu];decide
 refine⟨λvs w1=>∃a t:Int,vs=[.int .i64 a,.int .i64 t]/\-1<=t/\t<12/\(a = -1/\(∀j:Nat,t<(j:Int)->j<12->Mm W j=false)\/t<a/\a<12/\Mm W a.toNat/\∀j:Nat,t<(j:Int)->(j:Int)<a->Mm W j=false)/\Q0 [y,y1] wv w1,
  λvs _=>(Y4 1 vs+1).toNat,λw1 hx0 _=>⟨-1,_,rfl,Qo,Qo,.inl ⟨rfl,λj h1 h2=>by omega⟩,hx0⟩,?_⟩
 rintro av tv Rc jS ⟨a,t,bS,ht0,ht1,Ac2,hxw⟩;simp only[I4,I5,true_and,and_true] at bS;obtain⟨rfl,rfl⟩:=bS;have hK1:=hK.step hxw;have hr1:=hK1.rd;refine⟨λIV=>?_,λRW=>?_⟩
 ·have IV:=Ot IV;have e:((tv.toNat:Nat):Int)=tv:=Qo;have vM:Mm W tv.toNat=((Q8 W tv).state==0):=by unfold Mm;rw[e]
  refine⟨hr1.t.ix QT IV Qo,_,hr1.t.f IV Qo (j:=0) rfl,λg3=>⟨⟨Qo,Qo⟩,λS5 Sx _=>⟨⟨tv,tv-1,rfl,Qo,Qo,.inr ⟨Qo,ht1,by rw[vM];exact g3,λj h1 h2=>by omega⟩,hxw.trans Sx⟩,?_⟩⟩,λg3=>⟨⟨Qo,Qo⟩,λSu bM _=>⟨⟨av,tv-1,rfl,Qo,Qo,?_,hxw.trans bM⟩,?_⟩⟩⟩
  ·simp only[Y4,Ie,List.getElem?_cons_succ];omega
  ·have g3:Mm W tv.toNat=false:=by rw[vM];exact g3
   have one:∀j:Nat,tv-1<(j:Int)->¬tv<(j:Int)->Mm W j=false:=λj h1 h2=>by
    have:j=tv.toNat:=Qo;rw[this];exact g3
   rcases Ac2 with ⟨h1,h2⟩|⟨h1,h2,h3,h4⟩
   ·exact .inl ⟨h1,λj j1 j2=>if h:tv<(j:Int) then h2 j h j2 else one j j1 h⟩
   ·exact .inr ⟨Qo,h2,h3,λj j1 j2=>if h:tv<(j:Int) then h4 j h j2 else one j j1 h⟩
  ·simp only[Y4,Ie,List.getElem?_cons_succ];omega
 ·have RW:=Ou RW;have ht:tv = -1:=Qo;subst ht
  have AD1:av=Tw W:=by
   rcases Ac2 with ⟨h1,h2⟩|⟨h1,h2,h3,h4⟩
   ·rw[h1];exact(zse λj hj=>h2 j Qo hj).symm
   ·exact(zsd Qo h2 h3 λj hj=>h4 j Qo hj).symm
  subst AD1;refine⟨λg4 SA gL=>?_,λg4=>⟨λg5 SY vF=>?_,λg5=>?_⟩⟩
  ·have g4:=Ot g4;have hb:Vc W g n x=3:=by unfold Vc;rw[B' n1,B' n2,C' g4]
   exact OX.no hW (by rw[hb];decide) (hK1.step gL) hb
  ·have g4:=Ou g4;have cA:¬QO W:=λhr=>by rw[C' hr] at g5;simp at g5
   have hb:Vc W g n x=10:=by unfold Vc;rw[B' n1,B' n2,B' g4,C' (by simpa using cA)]
   rw[B' cA];exact OX.no hW (by rw[hb];decide) (hK1.step vF) hb
  have g4:=Ou g4;have cA:QO W:=Iq λhr=>by rw[B' hr] at g5;simp at g5
  have hb:Vc W g n x=0:=by unfold Vc;rw[B' n1,B' n2,B' g4,B' (by rw[cA];decide)]
  have hf:=za0 hW hb;obtain⟨u0,u1,_⟩:=Q5.1 hu;have hsl:=wp.a.sl hu;have c0:=hf.c0;have c1:=hf.c1;have f0:=hf.f0;have f1:=hf.f1;have T':Wk 8 [y,y1] w (Rx Rc m'.tO (Int.toNat (Tw W)*9) (X4 (KN W g n x))) (J' W (Tw W) (KN W g n x)) m':=hK1.Rx (hK1.own.AP2 f0 (by rw[qT];exact f1) (j:=0) (vs:=X4 (KN W g n x)) (x:=KN W g n x) (by simp[X4]) (by simp[X4])) Hv;refine⟨_,Jg hr1 wp.a.c2 wp.a.tree hu,_,Gc hr1 wp.a (zyc wp),hr1.g.ix u0 u1,_,_,_,hr1.g.Rn u0 u1,(hr1.g.IH g u0 u1).ix YM c0 (by rw[hsl];exact c1),(Qb W g (KM W g x)).IL,zm0.f (hr1.g.IH g u0 u1) c0 (by rw[hsl];exact c1) (j:=0) rfl,hr1.t.ix QT f0 (by rw[qT];exact f1),zts hK1.own hK1.nb f0 (by rw[qT];exact f1) (j:=0) (k:=9) Qd,λWK qU hs9=>?_⟩;have e5:Qa (J' W (Tw W) (KN W g n x)) m'=Qa W m':=K0 _ _ _ _;have gI:=T'.step qU;have bF:=ZM gI.own c0 (show KM W g x<((J' W (Tw W) (KN W g n x)).IF.length:Int) from c1);rw[e5] at bF;refine I3 bF ?_;rintro e2 RO ⟨bS,jX⟩;refine⟨_,_,_,_,_,_,_,_,_,_,bS,gI.kept jX hs9,λSl zH sA=>?_⟩;have hK7:=(gI.Sv jX hs9).step zH;have AD0:=QB hK7.own (hf.sw2.Rb c0 c1) Qd Qd hK7.base;refine I3 AD0 ?_;rintro e3 Si ⟨m2,gZ,hy5⟩;exact⟨_,_,_,_,_,_,_,_,_,_,gZ,hK7.kept hy5 sA,λSY vF=>OX.ok hW hb ((hK7.Sv hy5 sA).step vF)⟩
end
section
variable {base pb:Nat}{W W':Q7}{m:MW}{w:Wo}
end
structure Xk (W:Q7):Prop where
 wp:XV W
 fl:z6n W
def ZJ{K:Int}{W:Q7}(sw:SW K W)(hK:0<=K)(gP:K+UQ<=100000000000000000)(p:TO W)(hl:zbj W):Xk (Qf W):=by
 obtain⟨a,b⟩:=zfg sw hK gP p hl;exact⟨a,b⟩
def zbj.Rb{W:Q7}(h:zbj W)(c:Int):zbj (Rb W c):=(HW W c).loc rfl h
def zbj.J'{W:Q7}(h:zbj W)(ha:WA W){t:Int}(t0:0<=t)(t1:t<12){x:MQ}(hx:x.state≠0->Zk (QF W x.II x.mask) x.R2):zbj (J' W t x):=λi i0 i1 n=>by
 have hl:=ha.t;have e:Q8 (YtjinkcmkgnofjaaGreatDoor.J' W t x) i=if t=i then x else Q8 W i:=QE _ _ t0 Qo i0;rw[e] at n ⊢;rw[(zri W t x).wh]
 split at n
 ·rename_i he;rw[C' he];exact hx n
 ·rename_i he;rw[B' he];exact h i i0 i1 n
def z04(W:Q7)(t c:Int)(x:MQ):Rb (J' W t x) c=J' (Rb W c) t x:=rfl
def OT{W:Q7}(p:TO W){t:Int}(t0:0<=t)(t1:t<12)(n:(Q8 W t).state≠0):EM W (Q8 W t):=by
 rcases p.t t t0 t1 with h|h
 ·exact Ir h.1 n
 ·exact h.2
def zuo{W:Q7}{t:Int}(hW:Qp W)(hb:VB W t=0):Xk (zcf W t):=by
 have wp:=Qm.1 hW;obtain⟨h1,h2,sw,sw2⟩:=zcg hW hb;obtain⟨t0,t1,n⟩:=ZY h1;have hl:=wp.a.t;have p:=XF wp;have h:=OT p t0 Qo n;have zG:=V4 wp;refine ZJ sw2 Qd Qd (p.J' t0 Qo (.inr ⟨by show (2:Int)≠0;decide,⟨.inr rfl,h.g,h.n,h.m,h.m0,h.s,h.u,h.l1,h.l2,λh=>by cases h⟩,p.l t t0 Qo n⟩) λc c0 c1 _ hs _=>by cases hs) (zG.J' wp.a t0 Qo λ_=>zG t t0 Qo n)
def zx0{W:Q7}{t:Int}(hW:Qp W)(hb:Oa W t=0):Xk (Fw W t):=by
 have wp:=Qm.1 hW;obtain⟨h1,_,sw,_,sw2⟩:=zaz hW hb;obtain⟨t0,t1,n⟩:=ZY h1;have hl:=wp.a.t;have p:=XF wp;obtain⟨c0,c1⟩:=p.l t t0 Qo n
 have key:TO (Z1 W t)/\zbj (Z1 W t):=by
  unfold Z1;split
  ·exact⟨p.Rb c0 c1,(V4 wp).Rb _⟩
  ·exact⟨p,V4 wp⟩
 exact ZJ sw2 Qd Qd (key.1.J' t0 Qo (.inl ⟨rfl,rfl⟩) λc c0 c1 _ hs _=>by cases hs) (key.2.J' key.1.a t0 Qo λh=>Ir rfl h)
def za9{W:Q7}(p:TO W){t c:Int}(t0:0<=t)(t1:t<12){x:MQ}(n:x.state≠0)(hx:EM W x)(hc:x.R2=c)(c0:0<=c)(c1:c<(W.IF.length:Int)):TO (Rb (J' W t x) c):=by
 rw[z04];have hl:(Rb W c).IF.length=W.IF.length:=E';refine(p.Rb c0 c1).J' t0 t1 (.inr ⟨n,⟨hx.st,hx.g,hx.n,hx.m,hx.m0,hx.s,hx.u,hx.l1,hx.l2,hx.f⟩,by rw[hl,hc];exact⟨c0,c1⟩⟩) λd d0 d1 zD _ hd=>?_
 rw[hc] at hd;subst hd;have e1:gi (Rb W c).IF c=Xv (gi W.IF c):=(QE _ _ c0 c1 c0).trans (C' rfl);rw[e1] at zD;have zD:(-1:Int)=t:=zD;omega
def z4e(f v w:Int):f<=f+Y6 (v-f) w/\f+Y6 (v-f) w-f<=ZN w:=by
 have:=ZB (v-f) w;omega
def zx1{W:Q7}{t n:Int}(hW:Qp W)(hb:Pc W t n=0):Xk (L2 W t n):=by
 have wp:=Qm.1 hW;have hq:=zl2 hW hb;obtain⟨t0,t1,tn⟩:=ZY hq.th;have hl:=wp.a.t;have p:=XF wp;have hw:Qh n≠0:=λh=>by unfold Pc at hb;rw[C' h] at hb;cases hb
 have h:=OT p t0 Qo tn;obtain⟨c0,c1⟩:=p.l t t0 Qo tn;have zG:=V4 wp;have hL:zbj (J' W t (XE W t n)):=zG.J' wp.a t0 Qo λ_=>zG t t0 Qo tn
 have hT:EM W (XE W t n):=⟨h.st,h.g,hw,h.m,h.m0,h.s,h.u,h.l1,h.l2,λhs=>by
  have hs:(Q8 W t).state=1:=hs;rw[zs0 hs];exact z4e _ _ _⟩
 have hK:K1+UQ<=100000000000000000:=by simp only[K1,Qi,UQ];decide
 have hK0:0<=K1:=by simp only[K1,Qi];decide
 unfold L2;split
 ·rename_i hs
  have hlv:Z1 (J' W t (XE W t n)) t=if (gi W.IF (Q8 W t).R2).cur=t then Rb (J' W t (XE W t n)) (Q8 W t).R2 else J' W t (XE W t n):=by
   unfold Z1;rw[HA t0 t1];rfl
  have s2:=hq.s2;rw[hlv] at s2 ⊢;split
  ·rename_i zD;rw[C' zD] at s2;exact ZJ s2 hK0 hK (za9 p t0 Qo tn hT rfl c0 c1) (hL.Rb _)
  ·rename_i zD;rw[B' zD] at s2;refine ZJ s2 hK0 hK (p.J' t0 Qo (.inr ⟨tn,hT,c0,c1⟩) λd d0 d1 hd _ hx=>?_) hL;have hx:(Q8 W t).R2=d:=hx;rw[hx] at zD;exact Ir hd zD
 ·rename_i hs;exact ZJ hq.s1 hK0 hK (p.J' t0 Qo (.inr ⟨tn,hT,c0,c1⟩) λd d0 d1 hd hx _=>Ir hx hs) hL
def zx3{W:Q7}{t:Int}(hW:Qp W)(hb:MO W t=0):Xk (Bk W t):=by
 have wp:=Qm.1 hW;obtain⟨h1,h2,_,sf,c0,c1⟩:=zmu hW hb;obtain⟨t0,t1,tn⟩:=ZY h1;have hl:=wp.a.t;have p:=XF wp;have h:=OT p t0 Qo tn;have zG:=V4 wp
 have hT:EM W (T2 W t (PE W t)):=⟨.inl rfl,h.g,h.n,h.m,h.m0,h.s,h.u,h.l1,h.l2,λ_=>by
  have:=ZB ((Q8 W t).v-(Qb W (Q8 W t).II (Q8 W t).R2).IL) (Qh (Q8 W t).nice);show (Qb W (Q8 W t).II (PE W t)).IL<=(Qb W (Q8 W t).II (PE W t)).IL+NA W t/\(Qb W (Q8 W t).II (PE W t)).IL+NA W t-(Qb W (Q8 W t).II (PE W t)).IL<=ZN (Qh (Q8 W t).nice);unfold NA;exact⟨Qo,Qo⟩⟩
 have hwh:Zk (QF W (Q8 W t).II (Q8 W t).mask) (PE W t):=by
  unfold PE;split
  ·exact(HS wp.a _ _).2.2
  ·exact zG t t0 Qo tn
 exact ZJ ((zmt sf t0 t1 tn c0 c1).Rb c0 c1).w (by simp only[Qi];decide) (by simp only[Qi,UQ];decide) (za9 p t0 Qo (show (1:Int)≠0 by decide) hT rfl c0 c1) ((zG.J' wp.a t0 Qo (x:=T2 W t (PE W t)) λ_=>hwh).Rb _)
def Fd(l u:Int):Int:=if YT l 0 8000000=true/\YT u 0 1000000 then l-Int.tdiv l 8+u else 0
def zco(x:MQ):MQ:={ x with IW:=0,load:=ZK (Fd x.load (ZK x.IW 1000000)) 8000000 }
def TX(W:Q7):Nat->Q7
 |0=>W
 |t+1=>J' (TX W t) (t:Int) (zco (Q8 (TX W t) (t:Int)))
def Hi(next p now:Int):Nat->Int
 |0=>next
 |i+1=>if Hi next p now i<=now+((i:Int)+1) then Hi next p now i+p else Hi next p now i
structure zv9 (next p now v:Int):Prop where
 gt:now<v
 wL:∃j:Nat,v=next+p*(j:Int)/\(j=0\/v-p<=now)
def Es{next p now:Int}(hp:1<=p)(hn:now<next):∀i:Nat,zv9 next p (now+(i:Int)) (Hi next p now i)
 |0=>⟨by simp only[Hi];omega,0,by simp only[Hi];omega,.inl rfl⟩
 |i+1=>by
  obtain⟨h1,j,h2,h3⟩:=Es hp hn i;simp only[Hi]
  push_cast
  split
  ·refine⟨Qo,j+1,?_,.inr Qo⟩;rw[h2];push_cast;rw[Int.mul_add,Int.mul_one,Int.add_assoc]
  ·exact⟨Qo,j,h2,h3.imp id λh=>by omega⟩
def z1j{next p now v v':Int}(hp:1<=p)(h:zv9 next p now v)(h':zv9 next p now v'):v=v':=by
 obtain⟨h1,j,h2,h3⟩:=h;obtain⟨k1,k,k2,k3⟩:=h'
 have key:∀a b:Nat,a<b->p*(a:Int)+p<=p*(b:Int):=λa b hab=>by
  have:p*((a:Int)+1)<=p*(b:Int):=Int.mul_le_mul_of_nonneg_left Qo Qo;rw[Int.mul_add,Int.mul_one] at this;exact this
 rcases Nat.lt_trichotomy j k with h|h|h
 ·have:=key j k h;omega
 ·subst h;omega
 ·have:=key k j h;omega
def XN(now:Int)(n:Nat)(G:Zb):Zb:=if (G.IW&&(G.IM.I' != 0))=true/\G.next<=now+(n:Int) then { G with next:=Hi G.next G.period now n,IM:=Jp G.IM } else G
def zqv{now:Int}{G:Zb}(h:G.IM.I'≠0->now<G.next):XN now 0 G=G:=by
 unfold XN;rw[B'];rintro⟨h1,h2⟩;simp only[A',It,ne_eq] at h1;have:=h h1.2;simp at h2;omega
def TG(W:Q7)(n:Nat):Nat->Q7
 |0=>{ W with now:=W.now+(n:Int) }
 |k+1=>R1 (TG W n k) (k:Int) (XN W.now n (gi W.IE (k:Int)))
def Zs(W:Q7)(n:Nat):Q7:=TG W n 8
noncomputable def Lh(W:Q7)(n:Int):Int:=if YT n 1 1000=false then 1 else if QO W=false then 10 else 0
def zfr(W:Q7)(n:Int):Q7:=Qf (TX (Zs W n.toNat) 12)
def K9(now:Int)(n:Nat)(G:Zb):(XN now n G).IW=G.IW/\(XN now n G).IG=G.IG/\(XN now n G).name=G.name/\(XN now n G).IH=G.IH/\(XN now n G).R3=G.R3/\(XN now n G).IF=G.IF/\(XN now n G).sum=G.sum/\(XN now n G).period=G.period/\(XN now n G).IM.I'=G.IM.I':=by
 unfold XN;split <;> exact⟨rfl,rfl,rfl,rfl,rfl,rfl,rfl,rfl,rfl⟩
def VZ(W:Q7)(n:Nat):∀k:Nat,(TG W n k).IE.length=W.IE.length/\(TG W n k).now=W.now+(n:Int)/\(TG W n k).IF=W.IF/\(TG W n k).IJ=W.IJ
 |0=>⟨rfl,rfl,rfl,rfl⟩
 |k+1=>by
  obtain⟨a,b,c,d⟩:=VZ W n k;exact⟨by show (List.set _ _ _).length=_;rw[E'];exact a,b,c,d⟩
def Mx(W:Q7)(n:Nat):∀k:Nat,k<=W.IE.length->∀i:Int,0<=i->gi (TG W n k).IE i=if i<(k:Int) then XN W.now n (gi W.IE i) else gi W.IE i
 |0,_,i,i0=>by rw[B' Qo];rfl
 |k+1,hk,i,i0=>by
  have ih:=Mx W n k Qo i i0;have hl:=(VZ W n k).1;show gi (R1 (TG W n k) (k:Int) _).IE i=_;rw[Yt Qo Qo i0]
  by_cases e:(k:Int)=i
  ·subst e;rw[C' rfl,C' Qo]
  ·rw[B' e,ih]
   by_cases h:i<(k:Int)
   ·rw[C' h,C' Qo]
   ·rw[B' h,B' Qo]
def zay(W:Q7):∀k:Nat,(TX W k).IE=W.IE/\(TX W k).now=W.now/\(TX W k).IF=W.IF/\(TX W k).IJ.length=W.IJ.length
 |0=>⟨rfl,rfl,rfl,rfl⟩
 |k+1=>by
  obtain⟨a,b,c,d⟩:=zay W k;exact⟨a,b,c,by show (List.set _ _ _).length=_;rw[E'];exact d⟩
def zkx{K:Int}{W:Q7}(h:SW K W):∀k:Nat,k<=12->SW K (TX W k)
 |0,_=>h
 |k+1,hk=>by
  have ih:=zkx h k Qo;have hv:=ih.tv (k:Int) Qo Qo;exact ih.J' Qo Qo (x:=zco (Q8 (TX W k) (k:Int))) (λhs=>ih.t (k:Int) Qo Qo hs) hv.1 hv.2
def zxm{b:Ue}(h:OY b):OY (Jp b)/\(Jp b).locals.length=b.locals.length:=by
 have hd:=h.dl;refine⟨⟨h.q1,h.q2,by simp only[Jp,List.length_replicate];have:=h.l1;omega,by simp only[Jp,List.length_replicate];have:=h.l2;omega,by simp[Jp],by simp only[Jp];have:=h.q1;omega,I2 _,by simp[Jp],by simp only[Jp];have:=h.q1;omega,λc c0 c1=>?_,?_⟩,by simp[Jp,hd]⟩
 ·simp only[Jp,List.length_replicate] at c1 ⊢;rw[Mj _ _ c0 c1,Mj _ _ c0 c1];have:=h.q1;exact⟨I2 _,Qo,λh=>by cases h⟩
 ·simp only[Jp,List.length_replicate];rw[A4 _ _ (I7 _)];omega
def zyz{W W':Q7}{n:Nat}{k:Int}{G:Zb}(hg:zpj W k G)(hu:G.IW)(hn:W'.now=W.now+(n:Int))(hc:W'.IF.length=W.IF.length):zpj W' k (XN W.now n G):=by
 obtain⟨_,_,_,u4,u5,u6,u7,u8,u9⟩:=K9 W.now n G;refine⟨by rw[u5];exact hg.w1,by rw[u5];exact hg.w2,by rw[u6];exact hg.m,by rw[u6];exact hg.m0,by rw[u7];exact hg.s,by rw[u4,hc];exact hg.len,λh=>by rw[u5,u6,u9];exact hg.root h,λhq=>?_,λhq=>?_⟩
 ·rw[u9] at hq
  have:XN W.now n G=G:=by
   unfold XN;rw[B'];rintro⟨h1,_⟩;simp only[A',It,ne_eq] at h1;exact h1.2 hq
  rw[this];exact hg.none hq
 ·rw[u9] at hq;obtain⟨b1,b2,b3,b4,b5,b6⟩:=hg.IM hq;rw[hn,hc];unfold XN;split
  ·obtain⟨f1,f2⟩:=zxm b1;have hj:=Es b3 b5 n;refine⟨f1,by show (Jp G.IM).locals.length=_;rw[f2];exact b2,b3,b4,hj.gt,?_⟩;obtain⟨h1,j,h2,h3⟩:=hj;show Hi G.next G.period W.now n-(W.now+(n:Int))<=G.period;rcases h3 with rfl|h3
   ·simp at h2;omega
   ·omega
  ·rename_i hcnd;have IV:W.now+(n:Int)<G.next:=Int.not_le.1 λhle=>hcnd ⟨by rw[hu];simpa using hq,hle⟩
   exact⟨b1,b2,b3,b4,IV,Qo⟩
def LO(W:Q7)(n:Nat):∀k:Nat,k<=W.IE.length->QZ W.IE (TG W n k).IE
 |0,_=>QZ.refl _
 |k+1,hk=>by
  have ih:=LO W n k Qo;have hl:=(VZ W n k).1;have e:=Mx W n k Qo (k:Int) Qo;rw[B' Qo] at e;obtain⟨u1,u2,u3,_⟩:=K9 W.now n (gi W.IE (k:Int));exact ih.trans (XT (W:=TG W n k) (g:=(k:Int)) (x:=XN W.now n (gi W.IE (k:Int))) Qo Qo (by rw[u1,e]) (by rw[u2,e]) (by rw[u3,e]))
def zog{K:Int}{W:Q7}{n:Nat}(h:SW K W)(h1:W.now+(n:Int)<=100000000000000000):SW K (Zs W n):=by
 have hl:=h.a.gl;have hT:=LO W n 8 Qo;obtain⟨l1,l2,l3,l4⟩:=VZ W n 8
 have e:∀i:Int,0<=i->i<8->gi (Zs W n).IE i=XN W.now n (gi W.IE i):=λi a b=>by
  have:=Mx W n 8 Qo i a
  rwa[C' (show i<((8:Nat):Int) by omega)] at this
 have n1:=h.a.n1;have et:∀t:Int,Q8 (Zs W n) t=Q8 W t:=λt=>by unfold Q8;rw[show (Zs W n).IJ=W.IJ from l4]
 have ec:(Zs W n).IF=W.IF:=l3;have hT:QZ W.IE (Zs W n).IE:=hT;refine⟨⟨by rw[show (Zs W n).now=_ from l2];omega,by rw[show (Zs W n).now=_ from l2];exact h1,by rw[ec];exact h.a.c1,by rw[ec];exact h.a.c2,by rw[show (Zs W n).IJ=W.IJ from l4];exact h.a.t,hT.tree h.a.tree,by rw[ec];exact h.a.ups,λk a b=>?_⟩,λt a b hs=>?_,λt a b=>?_,λk c u a b=>?_,λc a b=>?_⟩
 ·have hg:=h.a.grp k a b;obtain⟨u1,u2,u3,u4,u5,u6,u7,u8,u9⟩:=K9 W.now n (gi W.IE k);unfold Kg;rw[e k a b];refine⟨λhu=>?_,λhu=>?_⟩
  ·rw[u1] at hu
   have:XN W.now n (gi W.IE k)=gi W.IE k:=by
    unfold XN;rw[B'];rintro⟨h1,_⟩;rw[hu] at h1;cases h1
   rw[this];exact hg.1 hu
  ·rw[u1] at hu;exact zyz (hg.2 hu) hu l2 (by rw[ec])
 ·rw[et] at hs ⊢;rw[hT.cD,ec];exact h.t t a b hs
 ·rw[et];exact h.tv t a b
 ·rw[hT.cD] at u;rw[ec] at b;have hk:=Q5.1 u
  have:Qb (Zs W n) k c=Qb W k c:=by
   unfold Qb;rw[e k hk.1 Qo,(K9 W.now n (gi W.IE k)).2.2.2.1]
  rw[this];exact h.s k c u a b
 ·rw[ec] at b ⊢;exact h.cu c a b
def z4s{W:Q7}(ha:WA W):Zs W 0=W:=by
 have hl:=ha.gl;obtain⟨l1,l2,l3,l4⟩:=VZ W 0 8
 have hg:(Zs W 0).IE=W.IE:=zqa l1 λk hk=>by
  have hk8:k<8:=by have:(Zs W 0).IE.length=W.IE.length:=l1;omega
  have:=Mx W 0 8 Qo (k:Int) Qo;rw[C' Qo] at this;refine this.trans (zqv λhq=>?_);have hgp:=ha.grp (k:Int) Qo Qo
  cases hu:(gi W.IE (k:Int)).IW with
  |true=>exact((hgp.2 hu).IM hq).2.2.2.2.1
  |false=>
   have:=(hgp.1 hu).b;exact Ir (by unfold TF at this;simp only[A',Is] at this;exact this.1.1.1.1) hq
 have h2:(Zs W 0).now=W.now:=by rw[show (Zs W 0).now=_ from l2];simp
 have h3:(Zs W 0).IF=W.IF:=l3;have h4:(Zs W 0).IJ=W.IJ:=l4;generalize Zs W 0=V at hg h2 h3 h4;cases V;cases W;simp only at hg h2 h3 h4;subst hg;subst h2;subst h3;subst h4;rfl
def zmo{W:Q7}{n:Int}(hW:Qp W)(hb:Lh W n=0):YT n 1 1000/\QO W/\SW Qn W/\W.now<=Qn/\SW Qn (Zs W n.toNat)/\SW Qn (TX (Zs W n.toNat) 12):=by
 have wp:=Qm.1 hW;unfold Lh at hb
 split at hb
 ·cases hb
 ·rename_i h1
  split at hb
  ·cases hb
  ·rename_i h3;have h1:YT n 1 1000:=by simpa using h1
   have h3:QO W:=by simpa using h3
   have hr:=Qm.1 h3;have sw:=MK wp hr;have hn:=hr.n;have hi:=Qv.1 h1;have hh:Qn=50000000000000000:=rfl;have s1:=zog (n:=n.toNat) sw Qo;exact⟨h1,h3,sw,hn,s1,zkx s1 12 (I7 _)⟩
section
variable {W W':Q7}{m:MW}{w:Wo}{bar:Int}
def z0r{l u:Int}(h1:YT l 0 8000000)(h2:YT u 0 1000000):0<=Int.tdiv l 8/\Int.tdiv l 8<=l:=by
 have:=Qv.1 h1;rw[Int.tdiv_eq_ediv_of_nonneg this.1];omega
def Np{bs:List Nat}{l u:Int}:PX bs Tj #[I l,I u] w (I (Fd l u)):=
 NM l u λwr hx=>⟨_,Qt,_,λ_=>Qt,λg=>(by
  unfold Fd;rw[B'];rintro⟨h1,h2⟩;rw[h1,h2] at g
  cases g),λg=>by
  have h1:YT l 0 8000000:=by cases h:YT l 0 8000000 <;> simp_all
  have h2:YT u 0 1000000:=by cases h:YT u 0 1000000 <;> simp_all
  have hb:=z0r h1 h2;have i1:=Qv.1 h1;have i2:=Qv.1 h2;refine⟨⟨Qd,Qo,Qo⟩,⟨Qo,Qo⟩,⟨Qo,Qo⟩,?_⟩;unfold Fd;rw[C' ⟨h1,h2⟩]⟩
def zq9{W:Q7}{k:Int}(h0:0<=k)(h1:k<(W.IE.length:Int)):R1 W k (gi W.IE k)=W:=by
 unfold R1;rw[Le h0 h1]
def j9{n:Int}(h:J6 [] w W m)(hl:UV W) :
  Cz Oy #[.agg (Qa W m).toArray,I n] w λe w'=>∃v,e=.returned v/\QV (Y7 W (Lh W n) (zfr W n)) w v w':=by
 refine CE _ _ _ _ _ _ _ _ _ _ n (R:=λv w'=>QV (Y7 W (Lh W n) (zfr W n)) w v w') ?_;intro x hx x1 Sn wr Rg We;refine I3 (Zi (h.ext Rg) hl) ?_;rintro e wv (⟨hW,he,hy⟩|⟨hW,m',he,hM,hy⟩)
 ·exact⟨_,_,_,_,_,_,_,_,_,_,_,he,Qg hy We,false,λg=>by simp at g,λ_ R6 Rl=>QV.bad hW ((Rg.trans hy).fresh Rl λy hm=>.inl (YF hx Sn y hm)),λg=>by simp at g⟩
 have hK:=Wk.begin hx Sn Rg We hM hy;have hc1:((if QO W=true then 0 else 10:Int)==1)=false:=by split <;> rfl
 refine⟨_,_,_,_,_,_,_,_,_,_,_,he,Qg hy We,_,λ_=>Qt,λg R6 Rl=>?_,λg=>⟨λg3 R7 Rl=>?_,λg3=>?_⟩⟩
 ·rw[hc1] at g;have g:YT n 1 1000=false:=by simpa using g
  have hb:Lh W n=1:=by unfold Lh;rw[C' g]
  exact QV.no hW (by rw[hb];decide) (hK.step Rl) hb
 ·rw[hc1] at g;have g:YT n 1 1000:=by simpa using g
  have cA:¬QO W:=λhr=>by rw[C' hr] at g3;simp at g3
  have hb:Lh W n=10:=by unfold Lh;rw[B' (by rw[g];decide),C' (by simpa using cA)]
  rw[B' cA];exact QV.no hW (by rw[hb];decide) (hK.step Rl) hb
 rw[hc1] at g;have g:YT n 1 1000:=by simpa using g
 have cA:QO W:=Iq λhr=>by rw[B' hr] at g3;simp at g3
 have hb:Lh W n=0:=by unfold Lh;rw[B' (by rw[g];decide),B' (by rw[cA];decide)]
 obtain⟨_,_,sw,Cj0,sp,sd⟩:=zmo hW hb;have hn:=Qv.1 g;obtain⟨N,rfl⟩:=Int.eq_ofNat_of_zero_le (show 0<=n by omega);have hE:zfr W (N:Int)=Qf (TX (Zs W N) 12):=by unfold zfr;rw[Ig]
 rw[Ig] at sp sd;rw[hE];have cZ:=sw.a.gl;have qT:=sw.a.t;have hn1:=sw.a.n1;have hh:Qn=50000000000000000:=rfl;refine⟨⟨Qo,Qo⟩,?_⟩;refine Jh W.IE.length 0 rfl (λk w2=>k<=8/\∃m2,Wk 8 [x,x1] w w2 (TG W N k) m2/\m2={ m' with ms:=m2.ms }) (λw2 Rl _=>⟨Qd,m',(show Wk 8 [x,x1] w wv (TG W N 0) m' from ⟨hK.s,⟨⟨hK.own.c,hK.own.t,hK.own.g,hK.own.len⟩,hK.nb⟩⟩).step Rl,rfl⟩) λk w2 jS ⟨hk8,m2,gP,hd2⟩=>?_
 obtain⟨l1,l2,l3,l4⟩:=VZ W N k;have eG:=Mx W N k Qo (k:Int) Qo;rw[B' Qo] at eG;have Wg:TG W N (k+1)=R1 (TG W N k) (k:Int) (XN W.now N (gi W.IE (k:Int))):=rfl;have AA5:k=8->Zs W N=TG W N k:=λe=>by rw[e];rfl
 have CJ2:(k:Int)<(W.IE.length:Int)->R1 (TG W N k) (k:Int) (gi W.IE (k:Int))=TG W N k:=λIV=>by
  have:=zq9 (W:=TG W N k) (k:=(k:Int)) Qo Qo
  rwa[eG] at this
 have emg:m2.gO=m'.gO:=by rw[hd2]
 have emc:m2.gC=m'.gC:=by rw[hd2]
 refine⟨λIV=>?_,λRW=>?_⟩
 ·have IV:=Ot IV;generalize TG W N k=V at gP l1 l2 l3 l4 eG Wg AA5 CJ2;have hr:=gP.rd;have CC5:(k:Int)<(V.IE.length:Int):=Qo;have Wx:Ix m'.gO W.IE.length (k:Int):=by have:=hr.g.ix (i:=(k:Int)) Qo CC5;rwa[l1,emg] at this
  have hcs:=hr.g.cells (k:Int) Qo CC5;rw[eG,emg] at hcs;refine⟨Wx,_,_,_,_,_,_,_,_,_,_,_,_,_,_,_,_,_,_,_,_,hcs,λb2 cH=>⟨λg4=>⟨⟨Qo,Qo⟩,λw3 Rl _=>Qx Qo ⟨Qo,m2,?_,hd2⟩⟩,λg4 S5 Sx gQ=>?_⟩⟩
  ·have:XN W.now N (gi W.IE (k:Int))=gi W.IE (k:Int):=by
    unfold XN;rw[B'];rintro⟨a,b⟩;simp only[Iu,ID,Is,Ij] at g4;simp only[A',It,ne_eq] at a;rcases g4 with (h1|h1)|h1
    ·rw[a.1] at h1;cases h1
    ·exact a.2 h1
    ·omega
   rw[Wg,this,CJ2 IV];exact gP.step Rl
  ·simp only[H',I6,beq_eq_false_iff_ne,ne_eq,decide_eq_false_iff_not] at g4;obtain⟨⟨hu,hq⟩,Df4⟩:=g4;have rO:=(sw.a.grp (k:Int) Qo Qo).2 hu;obtain⟨gJ,hbl,hp1,eQ,hnx,hnp⟩:=rO.IM hq
   have hP:XN W.now N (gi W.IE (k:Int))={ gi W.IE (k:Int) with next:=Hi (gi W.IE (k:Int)).next (gi W.IE (k:Int)).period W.now N,IM:=Jp (gi W.IE (k:Int)).IM }:=by
    unfold XN;rw[C' ⟨by rw[hu];simpa using hq,Qo⟩]
   have hJ:=Es hp1 hnx N;have wD:=(gP.add cH).step (Sx.mono λy hy=>Ia _ hy);have hr5:=wD.o.rd0;have hLo:=hr5.g.locals (k:Int) Qo CC5;have hDo:=hr5.g.RE (k:Int) Qo CC5;rw[eG] at hLo hDo;refine I3 (Ve (op:=⟨4,0,0⟩) gJ hLo hDo) ?_;rintro e RO ⟨pb,he,hO,SX⟩;have C56:ZL (gi W.IE (k:Int)).IM ⟨4,0,0⟩=(Jp (gi W.IE (k:Int)).IM,0):=by unfold ZL;rw[C' rfl]
   rw[C56] at he hO
   dsimp only at he hO
   refine⟨_,_,_,_,_,_,_,_,_,_,he,Qg SX gQ,λb3 wM=>?_⟩;have gI:=(wD.R5 SX).add wM
   have hOb:∀y∈YD pb,y∉QN 8 m2/\y∉[x,x1]++[b2]++[b3]:=λy hy=>by
    have:=hO.lt y hy;refine⟨λhm=>by have:=(wD.own.lt y hm).2;omega,λhm=>?_⟩;rcases Im.1 hm with h1|h1
    ·have:=gQ y h1;omega
    ·have:y=b3:=by simpa using h1
     omega
   have hO4:Zv w.heap.size RO (Jp (gi W.IE (k:Int)).IM) pb:=hO.mono wD.base;refine⟨λvs w'=>∃v:Int,vs=Yq { gi W.IE (k:Int) with next:=v,IM:=Jp (gi W.IE (k:Int)).IM } (Kz (m2.ms k) pb)/\(∃j:Nat,v=(gi W.IE (k:Int)).next+(gi W.IE (k:Int)).period*(j:Int)/\(j=0\/v-(gi W.IE (k:Int)).period<=W.now+(N:Int)))/\0<=v/\Wk 8 ([x,x1]++[b2]++[b3]) w w' V m2/\Zv w.heap.size w' (Jp (gi W.IE (k:Int)).IM) pb,λvs _=>(W.now+(N:Int)+1-Y4 6 vs).toNat,λSA gL hs7=>⟨(gi W.IE (k:Int)).next,by simp[Yq,Kz],⟨0,Qs,.inl rfl⟩,Qo,gI.step (gL.mono λy hy=>Ia _ hy),hO4.ext gL λy hy hm=>(hOb y hy).2 (Ia _ hm)⟩,?_⟩;rintro l0 a1 a2 a3 a4 a5 a6 a7 a8 a9 a10 CY9 CY8 CY7 CZ2 CZ1 CZ0 CM2 Bo5 Cy7 bZ dX ⟨v,hv,hj,hv0,eI,hO5⟩;simp only[Yq,ZD,List.cons_append,List.nil_append,I4,Value.bool.injEq,I5,Value.string.injEq,Iv,true_and,and_true] at hv;obtain⟨rfl,rfl,rfl,rfl,rfl,rfl,rfl,rfl,rfl,rfl,rfl,⟨rfl,rfl,rfl⟩,⟨rfl,rfl,rfl⟩,rfl,rfl,rfl⟩:=hv;refine⟨λhle=>?_,λhgt=>?_⟩
   ·have hle:=Ot hle;refine⟨⟨Qo,Qo⟩,λSY vF hs8=>⟨⟨a6+(gi W.IE (k:Int)).period,rfl,?_,Qo,eI.step vF,hO5.ext vF λy hy=>(hOb y hy).2⟩,?_⟩⟩
    ·obtain⟨j,h1,_⟩:=hj;exact⟨j+1,by rw[h1];push_cast;rw[Int.mul_add,Int.mul_one,Int.add_assoc],.inr Qo⟩
    ·show (_-(a6+(gi W.IE (k:Int)).period)).toNat<(_-a6).toNat;omega
   ·have hgt:=Ou hgt;have hv6:a6=Hi (gi W.IE (k:Int)).next (gi W.IE (k:Int)).period W.now N:=z1j hp1 ⟨Qo,hj⟩ hJ;have hwr:=zru eI.own eI.nb (i:=(k:Int)) Qo Qo (j:=0) (k:=14) Qd;rw[emg] at hwr;refine⟨Wx,hwr,⟨Qo,Qo⟩,λWK qU hs9=>Qx Qo ⟨Qo,GB m2 k (Kz (m2.ms k) pb),?_,by rw[hd2];rfl⟩⟩;rw[Wg];have hK6:=eI.gr (g:=(k:Int)) Qo Qo (G:=XN W.now N (gi W.IE (k:Int))) (p:=pb) (j:=0) (vs:=Yq (XN W.now N (gi W.IE (k:Int))) (Kz (m2.ms k) pb)) (by rw[hP];exact hO5) hOb (by rw[eG];exact(K9 _ _ _).2.2.2.1) (by simp[Yq]) (by simp[Yq]);refine(hK6.step (w':=WK) ?_).sub λy hy=>Ia _ (Ia _ hy)
    rw[hP,<-hv6,emg];exact qU
 ·have RW:=Ou RW;rw[<-AA5 Qo] at gP l1 l2 l3 l4;have emt:m2.tO=m'.tO:=by rw[hd2]
  refine Jh W.IJ.length 0 rfl (λt w2=>t<=12/\Wk 8 [x,x1] w w2 (TX (Zs W N) t) m2) (λw2 Rl _=>⟨Qd,gP.step Rl⟩) λt w2 dX ⟨CS3,wD⟩=>?_
  obtain⟨q1,q2,q3,q4⟩:=zay (Zs W N) t;have AW6:TX (Zs W N) (t+1)=J' (TX (Zs W N) t) (t:Int) (zco (Q8 (TX (Zs W N) t) (t:Int))):=rfl;have Ac4:t=12->TX (Zs W N) 12=TX (Zs W N) t:=λe=>by rw[e]
  generalize hU:TX (Zs W N) t=U at wD q1 q2 q3 q4 AW6 Ac4;have hr:=wD.rd;refine⟨λIV=>?_,λbK Sy AD5 Ad3=>?_⟩
  ·have IV:=Ot IV;have t1:(t:Int)<(U.IJ.length:Int):=by rw[q4,l4];exact IV
   have Wx:Ix m'.tO W.IJ.length (t:Int):=by have:=hr.t.ix QT (i:=(t:Int)) Qo t1;rwa[q4,l4,emt] at this
   have hcs:=hr.t (t:Int) Qo t1;rw[emt] at hcs;have hwr:=zts wD.own wD.nb (i:=(t:Int)) Qo t1 (j:=0) (k:=9) Qd;rw[emt] at hwr;refine⟨Wx,_,_,_,_,_,_,_,_,_,hcs,λb4 hb4=>⟨_,JB,_,Np,_,JB,Wx,hwr,⟨Qo,Qo⟩,λSm wQ AD3=>Qx Qo ⟨Qo,?_⟩⟩⟩;rw[AW6];have T':=wD.own.AP2 (i:=(t:Int)) Qo t1 (j:=0) (vs:=X4 (zco (Q8 U (t:Int)))) (x:=zco (Q8 U (t:Int))) (by simp[X4]) (by simp[X4]);have gI:=wD.Rx T' Hv;rw[emt] at gI;exact gI.step wQ
  ·have bK:=Ou bK;rw[Ac4 Qo] at sd ⊢;have gI:=wD.step AD5;have RI:=QB gI.own sd Qd Qd gI.base
   have e5:Qa U m2=[I (W.now+(N:Int)),.slice m'.cO W.IF.length m'.cC,.slice m'.tO W.IJ.length m'.tC,.slice m'.gO W.IE.length m'.gC]:=by
    unfold Qa;rw[q2,q3,q4,q1,l1,l2,l3,l4,hd2]
   rw[e5] at RI;refine I3 RI ?_;rintro e2 RO ⟨m3,bS,SX⟩;exact⟨_,_,_,_,_,_,_,_,_,_,bS,gI.kept SX Ad3,λWd B24=>QV.ok hW hb ((gI.Sv SX Ad3).step B24)⟩
structure Mn (base pb:Nat) (w0:Wo) (m0:MW) (w:Wo) (W:Q7) (m:MW):Prop where
 own:Zj 8 base w W m
 pt:w.heap[pb]? = some (.cells (Qa W m).toArray Q2 (0,0))
 pn:pb∉QN 8 m
 ext:Q0 (pb::QN 8 m0) w0 w
 sub:∀x∈QN 8 m,x∈QN 8 m0\/w0.heap.size<=x
section
variable {base pb:Nat}{w0 w':Wo}{m0 m':MW}
def Mn.start(h:PW base pb w W m):Mn base pb w m w W m:=⟨h.own,h.pt,h.pn,Q0.refl _ _,λ_ hx=>.inl hx⟩
end
end
def TO.same{W W':Q7}(p:TO W)(ha:WA W')(ht:W'.IJ=W.IJ)(hc:W'.IF=W.IF)(hT:QZ W.IE W'.IE)(hs:∀k c:Int,Qb W' k c=Qb W k c):TO W':=by
 have est:∀k c:Int,VV W' k c↔VV W k c:=λk c=>by
  unfold VV;rw[hT.p,hs,hs]
 refine⟨⟨ha,λt t0 t1=>?_,λt t0 t1 n=>by rw[Xf ht] at n ⊢;rw[hc];exact p.l t t0 t1 n,λk c hk c0 c1=>?_⟩,λc c0 c1=>?_⟩
 ·rw[Xf ht];rcases p.t t t0 t1 with h|⟨h1,h2⟩
  ·exact .inl h
  ·exact .inr ⟨h1,h2.st,by rw[hT.cD];exact h2.g,h2.n,h2.m,h2.m0,h2.s,h2.u,h2.l1,h2.l2,λh=>by rw[hs];exact h2.f h⟩
 ·rw[hT.cD] at hk;rw[hc] at c1;exact(p.s k c hk c0 c1).By4 (hs _ _) λ_=>by rw[hT.p,hs]
 ·rw[hc] at c1;have h:=p.c c c0 c1;refine⟨by rw[hc];exact h.b,by rw[hc];exact h.i,by rw[hc];exact h.c1,by rw[hc];exact h.c2,by rw[hc];exact h.no,by rw[hc];exact h.yes,λh0 h1 h2=>?_⟩;rw[hc,Xf ht] at *;obtain⟨q1,q2⟩:=h.q h0 h1 h2;refine⟨by rw[hs];exact q1,λy hy=>?_⟩;rw[Vy hT] at hy;rw[est,hT.p,hs,hs];exact q2 y hy
def z2t{W W':Q7}(hT:QZ W.IE W'.IE)(hm:∀i:Int,(gi W'.IE i).IF=(gi W.IE i).IF)(hu:JC W'.IF=JC W.IF)(g m:Int):QF W' g m=QF W g m:=by
 unfold QF
 have hp:T5 W'.IE g (JC W.IF)=T5 W.IE g (JC W.IF):=by
  unfold T5;rw[show QM W'.IE g=QM W.IE g from hT.path 3 g]
  congr 1
  funext s x
  rw[hm]
 rw[hu,hp]
def zbj.same{W W':Q7}(h:zbj W)(ht:W'.IJ=W.IJ)(hT:QZ W.IE W'.IE)(hm:∀i:Int,(gi W'.IE i).IF=(gi W.IE i).IF)(hu:JC W'.IF=JC W.IF):zbj W':=λt t0 t1 n=>by
 rw[Xf ht] at n ⊢;rw[z2t hT hm hu];exact h t t0 t1 n
def zrd{W:Q7}{g:Int}{x:Zb}(s:x.IH=(gi W.IE g).IH)(k c:Int):Qb (R1 W g x) k c=Qb W k c:=by
 unfold Qb;rw[show (gi (R1 W g x).IE k).IH=(gi W.IE k).IH from QQ (f:=Zb.IH) _ _ s k]
def z1f{W:Q7}{g q p:Int}(hW:Qp W)(hb:zls W g q p=0):Xk (zyf W g q p):=by
 have wp:=Qm.1 hW;obtain⟨hu,hz,_,_,sw,sw2⟩:=zqm hW hb;obtain⟨u0,u1,_⟩:=Q5.1 hu;have h:=zd5 (W:=W) (g:=g) (q:=q) (p:=p);have hT:=XT (W:=W) (x:=Px W g q p) u0 u1 h.1 h.2.1 h.2.2.1;exact ZJ sw2 Qd Qd ((XF wp).same sw2.a rfl rfl hT (zrd h.2.2.2.1)) ((V4 wp).same rfl hT (λi=>QQ (f:=Zb.IF) _ _ h.2.2.2.2.2.1 i) rfl)
def zx2{W:Q7}{n:Int}(hW:Qp W)(hb:Lh W n=0):Xk (zfr W n):=by
 have wp:=Qm.1 hW;obtain⟨_,_,sw,_,sp,sd⟩:=zmo hW hb;have cZ:=wp.a.gl;obtain⟨l1,l2,l3,l4⟩:=VZ W n.toNat 8;have hT:QZ W.IE (Zs W n.toNat).IE:=LO W n.toNat 8 Qo
 have key:∀i:Int,(gi (Zs W n.toNat).IE i).IH=(gi W.IE i).IH/\(gi (Zs W n.toNat).IE i).IF=(gi W.IE i).IF:=λi=>by
  have hu:=K9 W.now n.toNat (gi W.IE ((i.toNat:Nat):Int));have e:=Mx W n.toNat 8 Qo ((i.toNat:Nat):Int) Qo;rw[H2 (Zs W n.toNat).IE i,H2 W.IE i];unfold Zs;rw[e];split
  ·exact⟨hu.2.2.2.1,hu.2.2.2.2.2.1⟩
  ·exact⟨rfl,rfl⟩
 have p1:TO (Zs W n.toNat):=(XF wp).same sp.a l4 l3 hT λk c=>by unfold Qb;rw[(key k).1]
 have q1:zbj (Zs W n.toNat):=(V4 wp).same l4 hT (λi=>(key i).2) (by rw[show (Zs W n.toNat).IF=W.IF from l3])
 have all:∀k:Nat,k<=12->TO (TX (Zs W n.toNat) k)/\zbj (TX (Zs W n.toNat) k):=by
  intro k
  induction k with
  |zero=>exact λ_=>⟨p1,q1⟩
  |succ k ih=>
   intro hk;obtain⟨a,b⟩:=ih Qo;show TO (J' (TX (Zs W n.toNat) k) (k:Int) (zco (Q8 (TX (Zs W n.toNat) k) (k:Int))))/\zbj (J' (TX (Zs W n.toNat) k) (k:Int) (zco (Q8 (TX (Zs W n.toNat) k) (k:Int))));generalize TX (Zs W n.toNat) k=V at a b
   by_cases hs:(Q8 V (k:Int)).state=0
   ·have hz:Q8 V (k:Int)=T3:=by
     rcases a.t (k:Int) Qo Qo with h|h
     ·exact h.2
     ·exact Ir hs h.1
    rw[hz];have hd:zco T3=T3:=Qd;rw[hd];exact⟨a.J' Qo Qo (.inl ⟨rfl,rfl⟩) λc _ _ _ h _=>(by cases h),b.J' a.a Qo Qo λh=>Ir rfl h⟩
   ·have h:=OT a (t:=(k:Int)) Qo Qo hs;have hlo:=a.l (k:Int) Qo Qo hs
    have hld:0<=(zco (Q8 V (k:Int))).load/\(zco (Q8 V (k:Int))).load<=8000000:=by
     have h1:=h.l1;have h2:=h.l2;have h3:=Xg.1 h.u
     have ht:0<=Int.tdiv (Q8 V (k:Int)).load 8/\Int.tdiv (Q8 V (k:Int)).load 8<=(Q8 V (k:Int)).load:=by
      rw[Int.tdiv_eq_ediv_of_nonneg h1];omega
     show 0<=ZK (Fd (Q8 V (k:Int)).load (ZK (Q8 V (k:Int)).IW 1000000)) 8000000/\ZK (Fd (Q8 V (k:Int)).load (ZK (Q8 V (k:Int)).IW 1000000)) 8000000<=8000000;have hm:0<=ZK (Q8 V (k:Int)).IW 1000000:=by unfold ZK;split <;> omega
     have hbt:0<=Fd (Q8 V (k:Int)).load (ZK (Q8 V (k:Int)).IW 1000000):=by unfold Fd;split <;> omega
     generalize Fd (Q8 V (k:Int)).load (ZK (Q8 V (k:Int)).IW 1000000)=y at hbt;unfold ZK
     split <;> omega
    refine⟨a.J' Qo Qo (.inr ⟨hs,⟨h.st,h.g,h.n,h.m,h.m0,h.s,by show ZZ 0=true;decide,hld.1,hld.2,h.f⟩,hlo⟩) λc c0 c1 zD h1 h2=>?_,b.J' a.a Qo Qo λ_=>b (k:Int) Qo Qo hs⟩;have hc:=(a.c c c0 c1).q (by rw[zD];omega);rw[zD] at hc;exact hc h1 h2
 obtain⟨p2,q2⟩:=all 12 (I7 _);exact ZJ sd Qd Qd p2 q2
def ze7{W:Q7}(p:TO W){t g c:Int}(t0:0<=t)(t1:t<12)(n:(Q8 W t).state≠0)(hg:Q6 W.IE g)(c0:0<=c)(c1:c<(W.IF.length:Int)):TO (Ud W t g c):=by
 have h:=OT p t0 t1 n
 have hT:EM W (PM W t g c):=⟨h.st,hg,h.n,h.m,h.m0,h.s,h.u,h.l1,h.l2,λ_=>by
  have:=ZB ((Q8 W t).v-(Qb W (Q8 W t).II (Q8 W t).R2).IL) (Qh (Q8 W t).nice);show (Qb W g c).IL<=(Qb W g c).IL+NA W t/\(Qb W g c).IL+NA W t-(Qb W g c).IL<=ZN (Qh (Q8 W t).nice);unfold NA;exact⟨Qo,Qo⟩⟩
 unfold Ud;split
 ·exact za9 p t0 t1 n hT rfl c0 c1
 ·rename_i hs;exact p.J' t0 t1 (.inr ⟨n,hT,c0,c1⟩) λd _ _ _ h _=>Ir h hs
def zbe(W:Q7)(t g c:Int):TT W (Ud W t g c):=by
 unfold Ud;split
 ·exact(zri _ _ _).trans (HW _ _)
 ·exact zri _ _ _
def zq3{W:Q7}(hl:W.IJ.length=12){t g c:Int}(t0:0<=t)(t1:t<12){i:Int}(i0:0<=i):Q8 (Ud W t g c) i=if t=i then PM W t g c else Q8 W i:=by
 have e:Q8 (J' W t (PM W t g c)) i=if t=i then PM W t g c else Q8 W i:=QE _ _ t0 Qo i0;unfold Ud;split
 ·exact e
 ·exact e
def zs9{W:Q7}(p:TO W):∀k:Nat,k<=12->TO (Jn W k)/\TT W (Jn W k)/\(∀t:Int,0<=t->t<(k:Int)->(Q8 (Jn W k) t).state≠0->Zk (QF (Jn W k) (Q8 (Jn W k) t).II (Q8 (Jn W k) t).mask) (Q8 (Jn W k) t).R2)
 |0,_=>⟨p,TT.refl _,λt a b=>by omega⟩
 |k+1,hk=>by
  obtain⟨a,b,d⟩:=zs9 p k Qo;simp only[Jn];generalize Jn W k=V at a b d;have hl:=a.a.t;split
  ·rename_i hm;unfold Hg at hm;simp only[A',It,ne_eq] at hm;have h:=OT a (t:=(k:Int)) Qo Qo hm.1;have hf:=D1 a.a (Q8 V (k:Int)).II (Q8 V (k:Int)).mask;have hw:=HE a.a (Q8 V (k:Int)).II (Q8 V (k:Int)).mask;refine⟨ze7 a Qo Qo hm.1 h.g hf.1 hf.2,b.trans (zbe _ _ _ _),λt t0 t1 n=>?_⟩;rw[(zbe V _ _ _).wh];rw[zq3 hl Qo Qo t0] at n ⊢
   split at n
   ·rename_i he;rw[C' he];exact FQ hw.1 hw.2
   ·rename_i he;rw[B' he];exact d t t0 Qo n
  ·rename_i hm;refine⟨a,b,λt t0 t1 n=>?_⟩
   by_cases he:t=(k:Int)
   ·subst he;have hm:Hg V (k:Int)=false:=by simpa using hm
    unfold Hg at hm;rw[show ((Q8 V (k:Int)).state != 0)=true by simpa using n,Bool.true_and] at hm
    simpa using hm
   ·exact d t t0 Qo n
def zbb{W:Q7}(sf:SF Qn (Qn+Qi) W)(p:TO W):Xk (Qf (LS W)):=by
 obtain⟨a,b,d⟩:=zs9 p 12 (I7 _);exact ZJ (LU sf (I2 _)).1.w (by simp only[Qi];decide) (by simp only[Qi,UQ];decide) a d
def z1i{W:Q7}{t x:Int}(hW:Qp W)(hb:Ds W t x=0):Xk (zve W t x):=by
 have wp:=Qm.1 hW;obtain⟨h1,_,sf⟩:=zqx hW hb;obtain⟨t0,t1,tn⟩:=ZY h1;have hl:=wp.a.t;have p:=XF wp;have h:=OT p t0 Qo tn
 have hx:PK x/\x≠0:=by
  unfold Ds at hb
  split at hb
  ·cases hb
  ·rename_i hn;exact⟨by cases hm:PK x with|true=>rfl|false=>exact Ir (.inl hm) hn,λe=>hn (.inr e)⟩
 refine zbb sf (p.J' t0 Qo (.inr ⟨tn,⟨h.st,h.g,h.n,hx.1,hx.2,h.s,h.u,h.l1,h.l2,h.f⟩,p.l t t0 Qo tn⟩) λc c0 c1 zD h1 h2=>?_);have hc:=(p.c c c0 c1).q (by rw[zD];omega);rw[zD] at hc;exact hc h1 h2
def z1e{W:Q7}{g x:Int}(hW:Qp W)(hb:zle W g x=0):Xk (zuk W g x):=by
 have wp:=Qm.1 hW;obtain⟨hu,_,_,sf,hT⟩:=zxs hW hb;exact zbb sf ((XF wp).same sf.w.a rfl rfl hT (zrd rfl))
def EM.gr{W W':Q7}{x:MQ}(h:EM W x)(e:W'.IE=W.IE):EM W' x:=
 ⟨h.st,by rw[e];exact h.g,h.n,h.m,h.m0,h.s,h.u,h.l1,h.l2,λhs=>by unfold Qb;rw[e];exact h.f hs⟩
def z38{W:Q7}{c:Int}(hW:Qp W)(hb:UZ W c false 0=0):Xk (z5f W c):=by
 have wp:=Qm.1 hW;obtain⟨c0,c1,_,sf⟩:=zyx hW hb;have p:=XF wp;refine zbb sf ⟨⟨sf.w.a,λt t0 t1=>(p.t t t0 t1).imp id λh=>⟨h.1,h.2.gr rfl⟩,λt t0 t1 n=>?_,λk d hk d0 d1=>?_⟩,λd d0 d1=>?_⟩
 ·have:=p.l t t0 t1 n;show _/\_<(((W.IF.set c.toNat _).length:Nat):Int);rw[E'];exact this
 ·have d1:d<(((W.IF.set c.toNat (Lj (gi W.IF c) true)).length:Nat):Int):=d1;rw[E'] at d1;exact(p.s k d hk d0 d1).By4 rfl λ_=>rfl
 ·have d1:d<(((W.IF.set c.toNat (Lj (gi W.IF c) true)).length:Nat):Int):=d1;rw[E'] at d1;have h:=p.c d d0 d1;have e:gi (RM W c (Lj (gi W.IF c) true)).IF d=if c=d then Lj (gi W.IF c) true else gi W.IF d:=QE _ _ c0 c1 d0
  have eb:(gi (RM W c (Lj (gi W.IF c) true)).IF d).cur=(gi W.IF d).cur/\(gi (RM W c (Lj (gi W.IF c) true)).IF d).Wh=(gi W.IF d).Wh/\(gi (RM W c (Lj (gi W.IF c) true)).IF d).busy=(gi W.IF d).busy/\(gi (RM W c (Lj (gi W.IF c) true)).IF d).idle=(gi W.IF d).idle/\((gi W.IF d).up->(gi (RM W c (Lj (gi W.IF c) true)).IF d).up):=by
   rw[e];split
   ·rename_i he;subst he;exact⟨rfl,rfl,rfl,rfl,λ_=>rfl⟩
   ·exact⟨rfl,rfl,rfl,rfl,id⟩
  obtain⟨e1,e2,e3,e4,e5⟩:=eb;refine⟨by rw[e3];exact h.b,by rw[e4];exact h.i,by rw[e1];exact h.c1,by rw[e1];exact h.c2,by rw[e1,e2];exact h.no,λh0=>?_,?_⟩
  ·rw[e1] at h0;have:=h.yes h0;exact⟨e5 this.1,by rw[e2];exact this.2⟩
  ·rw[e1,e2];exact h.q
def z1h{W:Q7}{c:Int}(hW:Qp W)(hb:UZ W c true (Gt W)=0):Xk (zu6 W c):=by
 have wp:=Qm.1 hW;obtain⟨c0,c1,_,sf⟩:=zqs hW hb;have p:=XF wp;have hl:(RM W c (Lj (gi W.IF c) false)).IF.length=W.IF.length:=E';have sfE:=sf.Rb c0 (by rw[hl];exact c1)
 have hcs:Rb (RM W c (Lj (gi W.IF c) false)) c=RM W c (Xv (Lj (gi W.IF c) false)):=by
  have e:gi (RM W c (Lj (gi W.IF c) false)).IF c=Lj (gi W.IF c) false:=(QE _ _ c0 c1 c0).trans (C' rfl);unfold Rb;rw[e];simp[RM,List.set_set]
 show Xk (Qf (LS (Rb (RM W c (Lj (gi W.IF c) false)) c)));rw[hcs] at sfE ⊢;refine zbb sfE ⟨⟨sfE.w.a,λt t0 t1=>(p.t t t0 t1).imp id λh=>⟨h.1,h.2.gr rfl⟩,λt t0 t1 n=>?_,λk d hk d0 d1=>?_⟩,λd d0 d1=>?_⟩
 ·have:=p.l t t0 t1 n;show _/\_<(((W.IF.set c.toNat _).length:Nat):Int);rw[E'];exact this
 ·have d1:d<(((W.IF.set c.toNat (Xv (Lj (gi W.IF c) false))).length:Nat):Int):=d1;rw[E'] at d1;exact(p.s k d hk d0 d1).By4 rfl λ_=>rfl
 ·have d1:d<(((W.IF.set c.toNat (Xv (Lj (gi W.IF c) false))).length:Nat):Int):=d1;rw[E'] at d1;have h:=p.c d d0 d1;have e:gi (RM W c (Xv (Lj (gi W.IF c) false))).IF d=if c=d then Xv (Lj (gi W.IF c) false) else gi W.IF d:=QE _ _ c0 c1 d0
  by_cases he:c=d
  ·subst he;have e:=e.trans (C' rfl);refine⟨by rw[e];exact h.b,by rw[e];exact h.i,by rw[e];show (-1:Int)<=-1;decide,by rw[e];show (-1:Int)<12;decide,λ_=>by rw[e];rfl,λh0=>?_,λh0=>?_⟩
   ·rw[e] at h0;have h0:(0:Int)<=-1:=h0;omega
   ·rw[e] at h0;have h0:(0:Int)<=-1:=h0;omega
  ·have e:=e.trans (B' he);exact⟨by rw[e];exact h.b,by rw[e];exact h.i,by rw[e];exact h.c1,by rw[e];exact h.c2,by rw[e];exact h.no,by rw[e];exact h.yes,by rw[e];exact h.q⟩
def Ac(W:Q7)(g c x:Int):KD:={ Qb W g c with v:=if (Qb W g c).on=true then (Qb W (gi W.IE g).IG c).IL+Y6 ((Qb W g c).v-(Qb W (gi W.IE g).IG c).IL) x else (Qb W g c).v,w:=x }
def zmv(W:Q7)(g c:Int):Bool:=decide ((gi W.IF c).cur>=0)&&TY 3 W.IE g (Q8 W (gi W.IF c).cur).II
def JY(W:Q7)(g c x:Int):Q7:=Rw W g c (Ac W g c x)
def MP(W:Q7)(g c x:Int):Q7:=if (Qb W g c).w=x then W else if zmv (JY W g c x) g c then Rb (JY W g c x) c else JY W g c x
def D3(W:Q7):Prop:=∀c:Int,0<=c->c<(W.IF.length:Int)->(gi W.IF c).cur>=0->Q6 W.IE (Q8 W (gi W.IF c).cur).II=true
def zkw{W:Q7}(wp:XV W):D3 W:=λc c0 c1 h=>by
 have hc:=wp.c c c0 c1;have hy:=hc.yes h;have hl:=hy.2.2.2.2.1;have c2:=hc.c2;have ht:=wp.a.t;unfold Zq at hl;simp only[A',Is] at hl;rcases wp.t (gi W.IF c).cur h Qo with h1|h1
 ·rw[h1.1] at hl;exact Ir hl.1 Qd
 ·exact h1.2.g
def D3.Rw{W:Q7}(h:D3 W){g c:Int}{s:KD}(u0:0<=g)(u1:g<(W.IE.length:Int)):D3 (Rw W g c s):=λd d0 d1 hc=>by
 rw[(YC u0 u1).cD];exact h d d0 d1 hc
def D3.Rb{W:Q7}(h:D3 W){c:Int}(c0:0<=c)(c1:c<(W.IF.length:Int)):D3 (Rb W c):=λd d0 d1 hc=>by
 have d1:d<(((W.IF.set c.toNat (Xv (gi W.IF c))).length:Nat):Int):=d1;rw[E'] at d1;have hg:gi (YtjinkcmkgnofjaaGreatDoor.Rb W c).IF d=if c=d then Xv (gi W.IF c) else gi W.IF d:=QE _ _ c0 c1 d0;rw[hg] at hc ⊢
 split at hc
 ·exact Ir hc (by show ¬(-1:Int)>=0;decide)
 ·rename_i hn;rw[B' hn];exact h d d0 d1 hc
def z2s{F K:Int}{W:Q7}(h:SF F K W)(hk:F+Qi<=K){g c x:Int}(hu:Q6 W.IE g)(hz:g≠0)(c0:0<=c)(c1:c<(W.IF.length:Int))(x1:1<=x)(x2:x<=20):SF F K (JY W g c x):=by
 have hp:=h.w.a.up hu hz;have s1:=h.w.s g c hu c0 c1;have s2:=h.w.s _ c hp c0 c1;have f1:=h.f g c hu c0 c1;have f2:=h.f _ c hp c0 c1;have lc:=ZB ((Qb W g c).v-(Qb W (gi W.IE g).IG c).IL) x;have lm:=ZH x;refine h.Rw hu c0 c1 s1.1 f1 (by show (Qb W g c).IL<=K;omega) ?_ ?_ x1 x2
 ·simp only[Ac];split <;> omega
 ·simp only[Ac];simp only[Qi] at hk;split <;> omega
def zmw{F K:Int}{W:Q7}(h:SF F K W)(hk:F+Qi<=K)(hc:D3 W){g c x:Int}(hu:Q6 W.IE g)(hz:g≠0)(c0:0<=c)(c1:c<(W.IF.length:Int))(x1:1<=x)(x2:x<=20):SF F K (MP W g c x)/\Fr W (MP W g c x)/\D3 (MP W g c x):=by
 obtain⟨u0,u1,_⟩:=Q5.1 hu;have hv:=z2s h hk hu hz c0 c1 x1 x2;have hf:Fr W (JY W g c x):=(UO u0 u1).fr;have hc2:D3 (JY W g c x):=hc.Rw u0 u1;unfold MP;split
 ·exact⟨h,Fr.refl _,hc⟩
 ·split
  ·exact⟨hv.Rb c0 c1,hf.trans (Nf _ _),hc2.Rb c0 c1⟩
  ·exact⟨hv,hf,hc2⟩
def vI(W:Q7)(g x:Int):Nat->Q7
 |0=>W
 |c+1=>MP (vI W g x c) g (c:Int) x
def Bl{F K:Int}{W:Q7}(h:SF F K W)(hk:F+Qi<=K)(hc:D3 W){g x:Int}(hu:Q6 W.IE g)(hz:g≠0)(x1:1<=x)(x2:x<=20):∀c:Nat,c<=W.IF.length->SF F K (vI W g x c)/\Fr W (vI W g x c)/\D3 (vI W g x c)
 |0,_=>⟨h,Fr.refl _,hc⟩
 |c+1,hn=>by
  obtain⟨a,b,d⟩:=Bl h hk hc hu hz x1 x2 c Qo;obtain⟨a2,b2,d2⟩:=zmw a hk d (g:=g) (c:=(c:Int)) (x:=x) (by rw[b.g.cD];exact hu) hz Qo (by rw[b.c];omega) x1 x2;exact⟨a2,b.trans b2,d2⟩
def PO(W:Q7)(g x:Int):Zb:={ gi W.IE g with R3:=x }
noncomputable def zik(W:Q7)(g x:Int):Int:=Kq W g (YT x 1 20)
def zrs(W:Q7)(g x:Int):Q7:=Qf (vI (R1 W g (PO W g x)) g x W.IF.length)
def zmx{W:Q7}{g x:Int}(hW:Qp W)(hb:zik W g x=0):YT x 1 20/\g≠0/\Q6 W.IE g/\QO W/\SF Qn (Qn+Qi) W/\SF Qn (Qn+Qi) (R1 W g (PO W g x))/\D3 (R1 W g (PO W g x))/\QZ W.IE (R1 W g (PO W g x)).IE:=by
 obtain⟨h1,h2,h3,h4⟩:=za3 hb;have wp:=Qm.1 hW;have sw:=MK wp (Qm.1 h4);obtain⟨u0,u1,hg⟩:=wp.a.u h3;have hx:=Qv.1 h1;have hl:=wp.a.gl;have s1:=sw.R1 (x:=PO W g x) h3 rfl rfl rfl rfl ⟨hx.1,hx.2,hg.m,hg.m0,hg.s,hg.len,λh=>Ir h h2,hg.none,hg.IM⟩;have hT:QZ W.IE (R1 W g (PO W g x)).IE:=XT u0 Qo rfl rfl rfl;refine⟨h1,h2,h3,h4,sw.sf.mono (I2 _) (by simp only[Qi];decide),s1.sf.mono (I2 _) (by simp only[Qi];decide),λd d0 d1 hc=>?_,hT⟩;rw[hT.cD];exact zkw wp d d0 d1 hc
def zz1{gs:List Zb}(ht:Yh gs){g h:Int}(u1:Q6 gs g)(u2:Q6 gs h):PA gs g h=TY 3 gs g h:=by
 unfold PA;rw[u1,u2,show Kc gs=true from @Ih _ (Classical.propDecidable _) ht];rfl
section
variable {base:Nat}{W W':Q7}{m:MW}{w:Wo}{bar:Int}
def KU{F K:Int}(h:Zj 8 base w W m)(rP:SF F K W)(hk:F+Qi<=K)(hK:K<=1000000000000000000)(hcu:D3 W){g c x:Int}(hu:Q6 W.IE g)(hz:g≠0)(c0:0<=c)(c1:c<(W.IF.length:Int)) :
  Cz U5 #[.agg (Qa W m).toArray,I g,I c,I x] w λe w'=>e=.returned (.agg (Qa W m).toArray)/\Mv 8 base [] w m w' (MP W g c x) m:=by
 refine(N7 _ _ _ _ _ _ _ _ _ _ g c x (R:=λv w'=>v=.agg (Qa W m).toArray/\Mv 8 base [] w m w' (MP W g c x) m) ?_).mono λe w' ⟨v,he,hv,h3⟩=>⟨by rw[he,hv],h3⟩
 intro y hy y1 dY;obtain⟨u0,u1,_⟩:=Q5.1 hu;have cZ:=rP.w.a.gl;have qT:=rP.w.a.t;have hsl:=rP.w.a.sl hu;have hp:=rP.w.a.up hu hz;obtain⟨p0,p1,_⟩:=Q5.1 hp;have hpl:=rP.w.a.sl hp;have s1:=rP.w.s g c hu c0 c1;have s2:=rP.w.s _ c hp c0 c1;have lc:=ZB ((Qb W g c).v-(Qb W (gi W.IE g).IG c).IL) x;have lm:=ZH x;have hM:=Mv.two h hy dY;have hr:=(Mv.start h).rd;have Wx:=hr.g.ix (i:=g) u0 u1;have AY3:=(hr.g.IH g u0 u1).ix YM c0 Qo;have hcx:=hr.c.ix Y9 c0 c1;have hwr:=z6l h Qs (i:=g) (bs:=[]) u0 Qo c0 Qo (j:=0) (k:=5) Qd;have hcr:=rP.w.cu c c0 c1;have tU:decide ((gi W.IF c).cur>=0)->(gi W.IF c).cur<(W.IJ.length:Int):=λ_=>by omega
 have hT:QZ W.IE (JY W g c x).IE:=YC u0 u1
 have hE:(decide ((gi W.IF c).cur>=0)&&PA (JY W g c x).IE g (gi W.IJ (gi W.IF c).cur).II)=zmv (JY W g c x) g c:=by
  unfold zmv;show _=(decide ((gi W.IF c).cur>=0)&&TY 3 (JY W g c x).IE g (Q8 W (gi W.IF c).cur).II)
  by_cases hc:(gi W.IF c).cur>=0
  ·rw[zz1 (hT.tree rP.w.a.tree) (by rw[hT.cD];exact hu) (by rw[hT.cD];exact hcu c c0 c1 hc)];rfl
  ·rw[decide_eq_false hc];rfl
 have hlen:(JY W g c x).IE.length=W.IE.length:=hT.len;have hfr:Fr W (JY W g c x):=(UO u0 u1).fr;have eW:Qa (JY W g c x) m=Qa W m:=JZ hfr;have eE:Qa (Rb (JY W g c x) c) m=Qa W m:=JZ (hfr.trans (Nf _ _));refine⟨Wx,_,_,_,hr.g.Rn u0 u1,AY3,_,_,_,_,_,(hr.g.IH g u0 u1) c c0 Qo,λb2 cH=>⟨λg1 wr hx=>⟨rfl,?_⟩,λg1=>⟨λg2=>?_,λg2=>?_⟩⟩⟩
 ·have g1:(Qb W g c).w=x:=Iz g1;unfold MP;rw[C' g1];exact(Mv.start h).R5 hx
 ·have hss:Ac W g c x=⟨(Qb W g c).IL,(Qb W g c).on,(Qb W (gi W.IE g).IG c).IL+Y6 ((Qb W g c).v-(Qb W (gi W.IE g).IG c).IL) x,x,(Qb W g c).sum⟩:=by
   unfold Ac;rw[C' (show (Qb W g c).on=true from g2)]
  have T':=zd6 rP h hk hu rfl c0 c1 (Ac W g c x);rw[hss] at T';have WM:=((hM.add cH).Sv T' (zmj Qo));have hV:Rw W g c ⟨(Qb W g c).IL,(Qb W g c).on,(Qb W (gi W.IE g).IG c).IL+Y6 ((Qb W g c).v-(Qb W (gi W.IE g).IG c).IL) x,x,(Qb W g c).sum⟩=JY W g c x:=by unfold JY;rw[hss]
  rw[hV] at WM;have hr2:=WM.rd;have CN9:=WM.close;have cA:=CN9.rd;refine⟨Wx,_,hr.g.IG u0 u1,hr.g.ix p0 p1,_,_,_,hr.g.Rn p0 p1,(hr.g.IH _ p0 p1).ix YM c0 Qo,_,zm0.f (hr.g.IH _ p0 p1) c0 Qo (j:=0) rfl,⟨by show _<=(Qb W g c).v-(Qb W (gi W.IE g).IG c).IL;omega,by show (Qb W g c).v-(Qb W (gi W.IE g).IG c).IL<=_;omega⟩,_,Kx,⟨by show _<=(Qb W (gi W.IE g).IG c).IL+Y6 ((Qb W g c).v-(Qb W (gi W.IE g).IG c).IL) x;omega,by show (Qb W (gi W.IE g).IG c).IL+Y6 ((Qb W g c).v-(Qb W (gi W.IE g).IG c).IL) x<=_;omega⟩,Wx,_,_,_,hr.g.Rn u0 u1,AY3,hwr,hcx,(gi W.IF c).cur,?_⟩;refine⟨z5p.f cA.c c0 c1 (j:=1) rfl,λgc=>cA.t.ix QT (Ot gc) (tU gc),_,λgc=>zz8.f cA.t (Ot gc) (tU gc) (j:=1) rfl,_,λgc=>by rw[<-hlen];exact OI cA.g (by have:=ZW;omega),λgc R6 Rl jS=>?_,λgc RD Rl=>?_⟩
  ·have he:zmv (JY W g c x) g c:=by rw[<-hE];exact gc
   have jC:=WM.step (Rl.of_nil);have RI:=ZM jC.own c0 c1;rw[eW,eE] at RI;refine I3 RI ?_;rintro e wv ⟨qC,SX⟩;refine⟨_,_,_,_,_,_,_,_,_,_,qC,jC.kept SX jS,λR7 W8=>⟨rfl,?_⟩⟩;unfold MP;rw[B' (show ¬(Qb W g c).w=x from ne_of_beq_false g1),C' he];exact((jC.call SX jS).step W8).close
  ·have he:zmv (JY W g c x) g c=false:=by rw[<-hE];exact gc
   refine⟨rfl,?_⟩;unfold MP;rw[B' (show ¬(Qb W g c).w=x from ne_of_beq_false g1),B' (by rw[he];decide)];exact(WM.step Rl.of_nil).close
 ·have hss:Ac W g c x=⟨(Qb W g c).IL,(Qb W g c).on,(Qb W g c).v,x,(Qb W g c).sum⟩:=by
   unfold Ac;rw[B' (by rw[show (Qb W g c).on=false from g2];decide)]
  have T':=zd6 rP h hk hu rfl c0 c1 (Ac W g c x);rw[hss] at T';have WM:=((hM.add cH).Sv T' (zmj Qo));have hV:Rw W g c ⟨(Qb W g c).IL,(Qb W g c).on,(Qb W g c).v,x,(Qb W g c).sum⟩=JY W g c x:=by unfold JY;rw[hss]
  rw[hV] at WM;have hr2:=WM.rd;have CN9:=WM.close;have cA:=CN9.rd;refine⟨Wx,_,_,_,hr.g.Rn u0 u1,AY3,hwr,hcx,(gi W.IF c).cur,?_⟩;refine⟨z5p.f cA.c c0 c1 (j:=1) rfl,λgc=>cA.t.ix QT (Ot gc) (tU gc),_,λgc=>zz8.f cA.t (Ot gc) (tU gc) (j:=1) rfl,_,λgc=>by rw[<-hlen];exact OI cA.g (by have:=ZW;omega),λgc R6 Rl jS=>?_,λgc RD Rl=>?_⟩
  ·have he:zmv (JY W g c x) g c:=by rw[<-hE];exact gc
   have jC:=WM.step (Rl.of_nil);have RI:=ZM jC.own c0 c1;rw[eW,eE] at RI;refine I3 RI ?_;rintro e wv ⟨qC,SX⟩;refine⟨_,_,_,_,_,_,_,_,_,_,qC,jC.kept SX jS,λR7 W8=>⟨rfl,?_⟩⟩;unfold MP;rw[B' (show ¬(Qb W g c).w=x from ne_of_beq_false g1),C' he];exact((jC.call SX jS).step W8).close
  ·have he:zmv (JY W g c x) g c=false:=by rw[<-hE];exact gc
   refine⟨rfl,?_⟩;unfold MP;rw[B' (show ¬(Qb W g c).w=x from ne_of_beq_false g1),B' (by rw[he];decide)];exact(WM.step Rl.of_nil).close
def K7{g x:Int}(h:J6 [] w W m)(hl:UV W) :
  Cz Xz #[.agg (Qa W m).toArray,I g,I x] w λe w'=>∃v,e=.returned v/\QV (Y7 W (zik W g x) (zrs W g x)) w v w':=by
 refine Fm _ _ _ _ _ _ _ _ _ _ g x (R:=λv w'=>QV (Y7 W (zik W g x) (zrs W g x)) w v w') ?_;intro y hy y1 dY;refine⟨_,JM,λwr Rg We=>?_⟩;refine I3 (Vv (g:=g) (ok:=YT x 1 20) (h.ext Rg) hl) ?_;rintro e wv (⟨hW,he,SX⟩|⟨hW,m',he,hM,SX⟩)
 ·exact⟨_,_,_,_,_,_,_,_,_,_,_,he,Qg SX We,λ_ R6 Rl=>QV.bad hW ((Rg.trans SX).fresh Rl λz hm=>.inl (YF hy dY z hm)),λg=>by simp at g⟩
 have hK:=Wk.begin hy dY Rg We hM SX;refine⟨_,_,_,_,_,_,_,_,_,_,_,he,Qg SX We,λg1 R6 Rl=>QV.no hW (by simpa[zik] using g1) (hK.step Rl) rfl,λg1=>?_⟩;have hb:zik W g x=0:=by simpa[zik] using g1
 have hr:=hK.rd;obtain⟨C84,hz,hu,AM4,_,sf,hcu,hT⟩:=zmx hW hb;have hxr:=Qv.1 C84;obtain⟨u0,u1,_⟩:=Q5.1 hu;have cZ:W.IE.length=8:=by have:=sf.w.a.gl;rwa[hT.len] at this
 have Wx:=hr.g.ix (i:=g) u0 u1;have T':Wk 8 [y,y1] w (Rx wv m'.gO (Int.toNat g*14+3) [I x]) (R1 W g (PO W g x)) m':=hK.Rx (hK.own.As2 u0 Qo (g:=PO W g x) rfl rfl rfl (j:=3) (vs:=[I x]) rfl Qs) A3;have hwr:=zru hK.own hK.nb (i:=g) u0 Qo (j:=3) (k:=1) Qd;have e0:Qa (R1 W g (PO W g x)) m'=Qa W m':=by simp[Qa,R1]
 have huV:Q6 (R1 W g (PO W g x)).IE g:=by rw[hT.cD];exact hu
 have hcl:(R1 W g (PO W g x)).IF.length=W.IF.length:=rfl;have hE:zrs W g x=Qf (vI (R1 W g (PO W g x)) g x W.IF.length):=rfl;rw[hE];have hc4:=sf.w.a.c2;generalize R1 W g (PO W g x)=V at T' sf hcu hT e0 huV hcl hc4;refine⟨Wx,hwr,λvs w1=>∃(k:Nat),vs=I (k:Int)::Qa W m'/\k<=W.IF.length/\Wk 8 [y,y1] w w1 (vI V g x k) m',Zp W.IF.length 0,λw1 hx0 _=>⟨0,rfl,Ic _,T'.step hx0⟩,?_⟩;rintro c1 l RA Rz RQ RF RL RP RG RH RJ RO jS ⟨k,bS,hk,gP⟩;obtain⟨hS,hf,hc2⟩:=Bl sf (I2 _) hcu huV hz hxr.1 hxr.2 k Qo;have Wg:vI V g x (k+1)=MP (vI V g x k) g (k:Int) x:=rfl;have AA5:k=W.IF.length->vI V g x W.IF.length=vI V g x k:=λe=>by rw[e]
 have eU:Qa (vI V g x k) m'=Qa W m':=(JZ hf).trans e0;have hcU:=hf.c;have huU:Q6 (vI V g x k).IE g:=by rw[hf.g.cD];exact huV
 simp only[Qa,I4,I5,Iv,true_and,and_true] at bS;obtain⟨rfl,rfl,⟨rfl,rfl,rfl⟩,⟨rfl,rfl,rfl⟩,rfl,rfl,rfl⟩:=bS;generalize vI V g x k=U at gP hS hf hc2 Wg AA5 eU hcU huU;refine⟨λIV RD Rl dX=>?_,λRW S5 Sx gQ=>?_⟩
 ·have IV:=Ot IV;have wD:=gP.step Rl;have RI:=KU wD.own hS (I2 _) (by simp only[Qi];decide) hc2 (g:=g) (c:=(k:Int)) (x:=x) huU hz Qo Qo;rw[eU] at RI;refine I3 RI ?_;rintro e Si ⟨gZ,fU⟩;refine⟨_,_,_,_,_,_,_,_,_,_,gZ,wD.kept fU dX,⟨Qo,Qo⟩,λRN W8 _=>⟨⟨k+1,rfl,Qo,?_⟩,?_⟩⟩
  ·rw[Wg];exact(wD.Sv fU dX).step W8
  ·simp only[Zp,Xp,Y4,Ie];omega
 ·have RW:=Ou RW;rw[AA5 Qo];have eI:=gP.step Sx;have RI:=QB eI.own hS.w (by simp only[Qi];decide) (by simp only[Qi];decide) eI.base;rw[eU] at RI;refine I3 RI ?_;rintro e2 RO ⟨m2,bS,SX⟩;exact⟨_,_,_,_,_,_,_,_,_,_,bS,eI.kept SX gQ,λRN Sx=>QV.ok hW hb ((eI.Sv SX gQ).step Sx)⟩
section
variable {pb:Nat}
end
end
def z5z(W:Q7)(t b c:Int):Bool:=(FP W c==0)||decide (FP W c+Qh (Q8 W t).nice<=FP W b-Qh (Q8 W t).nice)
def zij(W:Q7)(b c:Int)(t:Nat):Bool:=(((Q8 W (t:Int)).R2==b)&&UY W (t:Int) c)&&z5z W (t:Int) b c
def P6(W:Q7)(b c:Int):Nat->Nat->Int
 |0,_ => -1
 |f+1,j=>if zij W b c j=true then (j:Int) else P6 W b c f (j+1)
def zuh{W:Q7}{b c:Int}{f j:Nat}(h:zij W b c j):P6 W b c (f+1) j=(j:Int):=C' h
def zp6{W:Q7}{b c:Int}{f j:Nat}(h:zij W b c j=false):P6 W b c (f+1) j=P6 W b c f (j+1):=B' (by rw[h];decide)
noncomputable def zoj(W:Q7)(c:Int):Nat->Nat->Int
 |0,_ => -1
 |f+1,k=>if P2 W c (k:Int)<0 then zoj W c f (k+1) else if P6 W (P2 W c (k:Int)) c 12 0<0 then zoj W c f (k+1) else P6 W (P2 W c (k:Int)) c 12 0
noncomputable def L6(W:Q7)(c:Int):Int:=zoj W c (za5 (W.IF.length:Int)).toNat 0
def zol{W:Q7}{c:Int}{f k:Nat}(h:P2 W c (k:Int)<0):zoj W c (f+1) k=zoj W c f (k+1):=C' h
def zok{W:Q7}{c:Int}{f k:Nat}(h:P6 W (P2 W c (k:Int)) c 12 0<0):zoj W c (f+1) k=zoj W c f (k+1):=by
 simp only[zoj]
 by_cases h0:P2 W c (k:Int)<0
 ·rw[C' h0]
 ·rw[B' h0,C' h]
def zom{W:Q7}{c:Int}{f k:Nat}(h0:¬P2 W c (k:Int)<0)(h:¬P6 W (P2 W c (k:Int)) c 12 0<0):zoj W c (f+1) k=P6 W (P2 W c (k:Int)) c 12 0:=by
 simp only[zoj];rw[B' h0,B' h]
def zd8{W:Q7}(wp:XV W)(c:Int):0<=FP W c/\FP W c<=240:=by
 have:=VW (Ao W c) W.IJ.length;have ht:=wp.a.t;unfold FP;omega
section
variable {W:Q7}{m:MW}{w:Wo}{bs:List Nat}{p:OA}
def zd0{t b c:Int}(h:J6 bs w W m)(wp:XV W)(t0:0<=t)(t1:t<(W.IJ.length:Int)):PX bs Pp #[.agg (Qa W m).toArray,I t,I b,I c] w (.bool (z5z W t b c)):=
 zev _ _ _ _ _ _ _ _ _ _ t b c λwr hx=>by
  have h:=(h.ext hx).less (cs:=[]) Qs;have r1:=zd8 wp c;have r2:=zd8 wp b;have r3:0<=Qh (gi W.IJ t).nice/\Qh (gi W.IJ t).nice<=20:=Jl _;exact λ_ _=>⟨_,TA h wp,h.t.ix QT t0 t1,_,h.t.f t0 t1 (j:=3) rfl,_,Y1,λ_=>⟨Qo,Qo⟩,_,λ_=>TA h wp,λ_=>⟨Qo,Qo⟩,rfl⟩
def zd1{c:Int}(h:J6 bs w W m)(wp:XV W)(c0:0<=c)(c1:c<(W.IF.length:Int)):PX bs Pq #[.agg (Qa W m).toArray,I c] w (I (L6 W c)):=
 zex _ _ _ _ _ _ _ _ _ _ c λwr hx=>by
  have h:=(h.ext hx).less (cs:=[]) Qs;have hlv:=zst (W.IF.length:Int);have qT:=wp.a.t;intro _ _;refine YU 2 0 rfl (λk=>(k:Int)<=za5 (W.IF.length:Int)/\zoj W c ((za5 (W.IF.length:Int)).toNat-k) k=L6 W c) ⟨hlv.1,rfl⟩ λk ⟨hk,hI⟩=>⟨_,PD,λIV=>?_,λRW=>?_⟩
  ·have IV:=Ot IV;have ek:(za5 (W.IF.length:Int)).toNat-k=((za5 (W.IF.length:Int)).toNat-(k+1))+1:=Qo;rw[ek] at hI;have nxt:zoj W c ((za5 (W.IF.length:Int)).toNat-(k+1)) (k+1)=L6 W c->((k+1:Nat):Int)<=za5 (W.IF.length:Int)/\zoj W c ((za5 (W.IF.length:Int)).toNat-(k+1)) (k+1)=L6 W c:=λhp=>⟨Qo,hp⟩
   refine⟨_,FF,_,FI h wp c0 c1,λg=>⟨⟨Qo,Qo⟩,Qy Qo (nxt ?_)⟩,λg=>?_⟩
   ·rw[<-hI,zol (show P2 W c (k:Int)<0 from Ot g)]
   ·have g:¬P2 W c (k:Int)<0:=Ou g;refine YU 12 0 rfl (λj=>j<=12/\P6 W (P2 W c (k:Int)) c (12-j) j=P6 W (P2 W c (k:Int)) c 12 0) ⟨Ic _,rfl⟩ λj ⟨hj,hF⟩=>⟨λRe=>?_,λbK=>?_⟩
    ·have Re:=Ot Re;have AH4:j<12:=Qo;rw[show 12-j=(12-(j+1))+1 by omega] at hF;refine⟨h.t.ix QT Qo Re,_,h.t.f Qo Re (j:=2) rfl,_,λ_=>Gd h wp Qo Re c0 c1,_,λ_=>zd0 h wp Qo Re,λg2=>?_,λg2=>⟨⟨Qo,Qo⟩,Qy AH4 ⟨Qo,?_⟩⟩⟩
     ·have g2:zij W (P2 W c (k:Int)) c j:=g2;rw[zuh g2] at hF;rw[<-hI,zom g (by rw[<-hF];omega),<-hF]
     ·have g2:zij W (P2 W c (k:Int)) c j=false:=g2;rw[<-hF,zp6 g2]
    ·have bK:=Ou bK;have:j=12:=Qo;subst this;refine⟨⟨Qo,Qo⟩,Qy Qo (nxt ?_)⟩;rw[<-hI,zok (by rw[<-hF];show (-1:Int)<0;decide)]
  ·have RW:=Ou RW;have:(za5 (W.IF.length:Int)).toNat-k=0:=Qo;rw[this] at hI;rw[<-hI];rfl
def zq0(W:Q7)(c:Int) : -1<=L6 W c:=by
 have hf:∀(b:Int) (f j:Nat),-1<=P6 W b c f j:=λb f=>by
  induction f with
  |zero=>intro j;exact I2 _
  |succ f ih=>
   intro j;simp only[P6];split
   ·omega
   ·exact ih _
 have hp:∀(f k:Nat),-1<=zoj W c f k:=λf=>by
  induction f with
  |zero=>intro k;exact I2 _
  |succ f ih=>
   intro k;simp only[zoj];split
   ·exact ih _
   ·split
    ·exact ih _
    ·exact hf _ _ _
 exact hp _ _
end
def zgv(W:Q7)(g:Int)(j:Nat):Int:=zdf W g (j:Int)
def Ml(W:Q7)(g c:Int)(h:W.IJ.length=12):0<=zdf W g c/\zdf W g c<=240:=by
 have:=VW (zde W g c) W.IJ.length;unfold zdf;omega
def z4g(a b:Int):Int:=if a>b then a else b
def MF(W:Q7)(g c:Int):Int:=
 if Jo (zgv W g) W.IF.length=0 then (gi W.IE g).R3 else z4g 1 (Int.tdiv ((gi W.IE g).R3*zdf W g c) (Jo (zgv W g) W.IF.length))
def z3t{a b:Int}(ha:0<=a)(ha2:a<=100000)(hb:0<b):Qq .i64 (Int.tdiv a b):=by
 have h1:=Int.tdiv_nonneg ha (Int.le_of_lt hb);have h2:Int.tdiv a b<=a:=by rw[Int.tdiv_eq_ediv_of_nonneg ha];exact Int.ediv_le_self _ ha
 exact⟨Qo,Qo⟩
def zhi{a b:Int}{w:Wo}{bs:List Nat}:PX bs YW #[I a,I b] w (I (z4g a b)):=TB
section
variable {W:Q7}{m:MW}{w:Wo}{bs:List Nat}{p:OA}
def zrc{g c:Int}(wp:TU W)(hu:Q6 W.IE g):0<=(gi W.IE g).R3*zdf W g c/\(gi W.IE g).R3*zdf W g c<=4800:=by
 have hw:=(wp.a.u hu).2.2;have hi:=Ml W g c wp.a.t;have w1:=hw.w1;have w2:=hw.w2;refine⟨Int.mul_nonneg Qo hi.1,?_⟩;have:=Int.mul_le_mul w2 hi.2 hi.1 (show (0:Int)<=20 by decide);omega
def BP{g:Int}(wp:TU W)(k:Nat):0<=Jo (zgv W g) k/\Jo (zgv W g) k<=(k:Int)*240:=VW (λj=>Ml W g (j:Int) wp.a.t) k
def q8{g c:Int}(h:J6 bs w W m)(wp:TU W)(hl:UV W)(hu:Q6 W.IE g):PX bs OB #[.agg (Qa W m).toArray,I g,I c] w (I (MF W g c)):=
 zai _ _ _ _ _ _ _ _ _ _ g c λwr hx=>by
  have h:=(h.ext hx).less (cs:=[]) Qs;have hcl:=wp.a.c2;obtain⟨u1,u2,_⟩:=Q5.1 hu;intro _ _;refine P9 W.IF.length 0 rfl (λx k=>k<=W.IF.length/\x=Jo (zgv W g) k) ⟨Ic _,rfl⟩ λx k ⟨hk,Rg⟩=>⟨λIV=>?_,λRW=>⟨λg2=>⟨h.g.ix u1 u2,_,(h.g.cells g u1 u2).get 3 _ rfl,?_⟩,λg2=>?_⟩⟩
  ·have IV:=Ot IV;have hr:=BP (g:=g) wp k;have hi:=Ml W g (k:Int) wp.a.t;exact⟨_,KV h wp hl hu,⟨Qo,Qo⟩,⟨Qo,Qo⟩,QP Qo ⟨Qo,by simp only[Jo];rw[Rg];rfl⟩⟩
  ·have RW:=Ou RW;have:k=W.IF.length:=Qo;subst this;unfold MF;rw[C' (by rw[<-Rg];simpa using g2)]
  ·have RW:=Ou RW;have:k=W.IF.length:=Qo;subst this;have hr:=BP (g:=g) wp W.IF.length;have hp:=zrc (c:=c) wp hu;have eO:x≠0:=by simpa using g2
   refine⟨h.g.ix u1 u2,_,(h.g.cells g u1 u2).get 3 _ rfl,zdf W g c,KV h wp hl hu,⟨Qo,Qo⟩,⟨eO,z3t hp.1 Qo Qo⟩,_,zhi,?_⟩;unfold MF;rw[B' (by rw[<-Rg];exact eO),Rg]
end
def zxy{gs:List Zb}(ht:Yh gs){g:Int}:∀h:Int,Q6 gs h->g∈QM gs h->TY 3 gs g h:=
 My ht (λhx=>by rw[show QM gs 0=[] from Zc _ _] at hx;cases hx) λh hu hz ih hx=>by
  by_cases e:h=g
  ·subst e;simp[TY]
  ·rw[ziz ht hu hz e];rw[Yg ht hu hz] at hx;rcases Ii.1 hx with e2|e2
   ·exact Ir e2.symm e
   ·exact ih e2
def ztk(W:Q7)(g c x:Int):TT W (MP W g c x):=by
 unfold MP;split
 ·exact TT.refl _
 ·split
  ·exact(zfk _ _ _ _).trans (HW _ _)
  ·exact zfk _ _ _ _
def TO.wei{W:Q7}(p:TO W){g c x:Int}(hu:Q6 W.IE g)(hz:g≠0)(c0:0<=c)(c1:c<(W.IF.length:Int)):TO (MP W g c x):=by
 obtain⟨u0,u1,_⟩:=Q5.1 hu;have hl:=p.a.gl;have hsl:=p.a.sl hu;have yZ:c<((gi W.IE g).IH.length:Int):=Qo;have e:∀{i j:Int},0<=i->0<=j->Qb (JY W g c x) i j=if g=i/\c=j then Ac W g c x else Qb W i j:=λhi hj=>XS u0 u1 c0 yZ hi hj
 have hT:QZ W.IE (JY W g c x).IE:=YC u0 u1
 have ef:∀{i j:Int},0<=i->0<=j->(Qb (JY W g c x) i j).IL=(Qb W i j).IL:=λ{i j} hi hj=>by
  rw[e hi hj];split
  ·rename_i h;obtain⟨rfl,rfl⟩:=h;rfl
  ·rfl
 have hpu:=p.a.up hu hz;have p0:=(Q5.1 hpu).1
 have same:∀{i j:Int},Q6 W.IE i->i≠0->0<=j->¬(g=i/\c=j)->VV W i j->VV (JY W g c x) i j:=λ{i j} iu iz j0 hn h=>by
  unfold VV at h ⊢;rw[hT.p,ef (Q5.1 (p.a.up iu iz)).1 j0,e (Q5.1 iu).1 j0,B' hn];exact h
 have hA:PreA (JY W g c x):=by
  refine⟨p.a.Rw u0 Qo,λt t0 t1=>?_,λt t0 t1 n=>p.l t t0 t1 n,λi j iu j0 j1=>?_⟩
  ·rcases p.t t t0 t1 with h|⟨n,h⟩
   ·exact .inl h
   ·exact .inr ⟨n,h.st,by rw[hT.cD];exact h.g,h.n,h.m,h.m0,h.s,h.u,h.l1,h.l2,λh1=>by
     show (Qb (JY W g c x) (Q8 W t).II (Q8 W t).R2).IL<=(Q8 W t).v/\(Q8 W t).v-(Qb (JY W g c x) (Q8 W t).II (Q8 W t).R2).IL<=_;rw[ef (Q5.1 h.g).1 (p.l t t0 t1 n).1];exact h.f h1⟩
  ·rw[hT.cD] at iu;have hs:=p.s i j iu j0 j1;have i0:=(Q5.1 iu).1
   by_cases h:g=i/\c=j
   ·obtain⟨rfl,rfl⟩:=h;refine⟨by rw[e i0 j0,C' ⟨rfl,rfl⟩];exact hs.s,λh0=>Ir h0 hz,λ_ ho=>?_⟩;rw[e i0 j0,C' ⟨rfl,rfl⟩] at ho;have ho:(Qb W g c).on:=ho;unfold VV;rw[hT.p,ef p0 j0,e i0 j0,C' ⟨rfl,rfl⟩];simp only[Ac];rw[C' ho];have:=ZB ((Qb W g c).v-(Qb W (gi W.IE g).IG c).IL) x;omega
   ·refine⟨by rw[e i0 j0,B' h];exact hs.s,by rw[e i0 j0,B' h];exact hs.root,λiz ho=>?_⟩;rw[e i0 j0,B' h] at ho;exact same iu iz j0 h (hs.st iz ho)
 have hC:∀d:Int,0<=d->d<(W.IF.length:Int)->(d=c->zmv (JY W g c x) g c=false)->z3g (JY W g c x) d:=λd d0 d1 hd=>by
  have h:=p.c d d0 d1;refine⟨h.b,h.i,h.c1,h.c2,h.no,h.yes,λh0 h1 h2=>?_⟩;obtain⟨q1,q2⟩:=h.q h0 h1 h2
  have hcu:Q6 W.IE (Q8 W (gi W.IF d).cur).II:=by
   rcases p.t _ h0 h.c2 with hz|⟨_,hx⟩
   ·have h1:(Q8 W (gi W.IF d).cur).state=1:=h1;have h3:(Q8 W (gi W.IF d).cur).state=0:=hz.1;rw[h3] at h1;cases h1
   ·exact hx.g
  refine⟨by show (Q8 W (gi W.IF d).cur).v-(Qb (JY W g c x) (Q8 W (gi W.IF d).cur).II d).IL<=_;rw[ef (Q5.1 hcu).1 d0];exact q1,λy hy=>?_⟩;have hy:y∈QM W.IE (Q8 W (gi W.IF d).cur).II:=by rw[<-Vy hT];exact hy
  obtain⟨yu,yz⟩:=Ys p.a.tree _ hcu y hy;have y0:=(Q5.1 yu).1
  have hn:¬(g=y/\c=d):=by
   rintro⟨rfl,rfl⟩;have h3:=hd rfl;unfold zmv at h3;have h4:=zxy (hT.tree p.a.tree) (g:=g) (Q8 W (gi W.IF c).cur).II (by rw[hT.cD];exact hcu) (by rw[Vy hT];exact hy);rw[show (gi (JY W g c x).IF c).cur=(gi W.IF c).cur from rfl,Ih (show (gi W.IF c).cur>=0 from h0),Bool.true_and] at h3;rw[show (Q8 (JY W g c x) (gi W.IF c).cur).II=(Q8 W (gi W.IF c).cur).II from rfl,h4] at h3;cases h3
  obtain⟨s1,s2⟩:=q2 y hy;refine⟨same yu yz d0 hn s1,?_⟩;rw[hT.p,ef (Q5.1 (p.a.up yu yz)).1 d0,e y0 d0,B' hn];exact s2
 unfold MP;split
 ·exact p
 ·split
  ·refine⟨hA.Rb c0 c1,λd d0 d1=>?_⟩;have hlen:(YtjinkcmkgnofjaaGreatDoor.Rb (JY W g c x) c).IF.length=W.IF.length:=E';have rM:gi (YtjinkcmkgnofjaaGreatDoor.Rb (JY W g c x) c).IF d=if c=d then Xv (gi W.IF c) else gi W.IF d:=QE _ _ c0 c1 d0;rw[hlen] at d1
   by_cases ed:c=d
   ·subst ed;have h:=p.c c c0 c1;rw[C' rfl] at rM;have n1:(Xv (gi W.IF c)).cur = -1:=rfl;exact⟨by rw[rM];exact h.b,by rw[rM];exact h.i,by rw[rM,n1];exact I2 _,by rw[rM,n1];decide,λ_=>by rw[rM];rfl,λh=>by rw[rM,n1] at h;omega,λh=>by rw[rM,n1] at h;omega⟩
   ·have h:=hC d d0 d1 λhd=>Ir hd.symm ed
    rw[B' ed] at rM;exact⟨by rw[rM];exact h.b,by rw[rM];exact h.i,by rw[rM];exact h.c1,by rw[rM];exact h.c2,by rw[rM];exact h.no,by rw[rM];exact h.yes,by rw[rM];exact h.q⟩
  ·rename_i he;exact⟨hA,λd d0 d1=>hC d d0 d1 λ_=>by simpa using he⟩
def SW.tu{K:Int}{W:Q7}(h:SW K W):TU W:=⟨h.a,λt0 t1 hs=>h.li t0 t1 hs⟩
def ztm{f:Nat->Int}(h:∀j,0<=f j):∀m:Nat,0<=Jo f m
 |0=>I2 _
 |m+1=>by
  have ih:=ztm h m;have:=h m;simp only[Jo];omega
def ztl{f:Nat->Int}(h:∀j,0<=f j){k:Nat}:∀n:Nat,k<n->f k<=Jo f n
 |0,hk=>Ir hk (Nat.not_lt_zero k)
 |n+1,hk=>by
  simp only[Jo];have hn:=ztm h
  by_cases e:k=n
  ·subst e;have:=hn k;omega
  ·have:=ztl h (k:=k) n Qo;have:=h n;omega
def zo1{W:Q7}(wp:TU W){g c:Int}(hu:Q6 W.IE g)(c0:0<=c)(c1:c<(W.IF.length:Int)):1<=MF W g c/\MF W g c<=(gi W.IE g).R3:=by
 have hg:=(wp.a.u hu).2.2;have w1:=hg.w1;have hi:=Ml W g c wp.a.t
 have zC:zdf W g c<=Jo (zgv W g) W.IF.length:=by
  have:=ztl (f:=zgv W g) (λj=>(Ml W g (j:Int) wp.a.t).1) (k:=c.toNat) W.IF.length Qo;unfold zgv at this
  rwa[show ((c.toNat:Nat):Int)=c by omega] at this
 unfold MF;split
 ·omega
 ·rename_i hn
  have hp:0<Jo (zgv W g) W.IF.length:=by
   have:=(BP (g:=g) wp W.IF.length).1;omega
  have hq:Int.tdiv ((gi W.IE g).R3*zdf W g c) (Jo (zgv W g) W.IF.length)<=(gi W.IE g).R3:=by
   rw[Int.tdiv_eq_ediv_of_nonneg (Int.mul_nonneg Qo hi.1)];refine Int.ediv_le_of_le_mul hp ?_;exact Int.mul_le_mul_of_nonneg_left zC Qo
  unfold z4g
  split <;> omega
def zfh{W:Q7}(wp:TU W){g c:Int}(hu:Q6 W.IE g)(c0:0<=c)(c1:c<(W.IF.length:Int)):1<=MF W g c/\MF W g c<=20:=by
 have h:=zo1 wp hu c0 c1;have:=(wp.a.u hu).2.2.w2;omega
def T9(W:Q7)(c:Int):Nat->Q7
 |0=>W
 |k+1=>if k≠0/\(gi (T9 W c k).IE (k:Int)).IW then MP (T9 W c k) (k:Int) c (MF (T9 W c k) (k:Int) c) else T9 W c k
def V7(W:Q7)(c:Int):Q7:=Qf (T9 W c 8)
noncomputable def TW(W:Q7)(c:Int):Int:=L6 (V7 W c) c
noncomputable def zcd(W:Q7)(c:Int):Q7:=if TW W c<0 then V7 W c else Qf (Ud (V7 W c) (TW W c) (Q8 (V7 W c) (TW W c)).II c)
noncomputable abbrev E6(W:Q7)(c:Int):Int:=UZ W c true 0
structure z2w (W V:Q7):Prop where
 sf:SF Qn (Qn+Qi) V
 fr:Fr W V
 cu:D3 V
 pre:TO V
 sta:TT W V
def zkm{W:Q7}(wp:XV W)(hr:G7 W){c:Int}(c0:0<=c)(c1:c<(W.IF.length:Int)):∀k:Nat,k<=8->z2w W (T9 W c k)
 |0,_=>⟨Lg (MK wp hr),Fr.refl _,zkw wp,XF wp,TT.refl _⟩
 |k+1,hk=>by
  have ih:=zkm wp hr c0 c1 k Qo;simp only[T9];split
  ·rename_i h;have hl:=ih.sf.w.a.gl;have hu:Q6 (T9 W c k).IE (k:Int):=Q5.2 ⟨Qo,Qo,h.2⟩;have yZ:c<((T9 W c k).IF.length:Int):=by rw[ih.fr.c];exact c1
   have hs:=zfh ih.sf.w.tu hu c0 yZ;obtain⟨a,b,d⟩:=zmw ih.sf (I2 _) ih.cu hu Qo c0 yZ hs.1 hs.2;exact⟨a,ih.fr.trans b,d,ih.pre.wei hu Qo c0 yZ,ih.sta.trans (ztk _ _ _ _)⟩
  ·exact ih
def zax{W:Q7}{c:Int}(hW:Qp W)(hb:E6 W c=0):0<=c/\c<(W.IF.length:Int)/\z2w W (T9 W c 8)/\XV (V7 W c)/\SW (Qn+Qi+UQ) (V7 W c)/\Fr W (V7 W c):=by
 obtain⟨h1,_,_,h4⟩:=zkv hb;have wp:=Qm.1 hW;obtain⟨c0,c1⟩:=UA h1;have hB:=zkm wp (Qm.1 h4) c0 c1 8 (I7 _);have hs:=ON hB.sf.w (by simp only[Qi];decide);exact⟨c0,c1,hB,(zfg hB.sf.w (by simp only[Qi];decide) (by simp only[Qi,UQ];decide) hB.pre (hB.sta.loc hB.fr.t (V4 wp))).1,hs.1,hB.fr.trans hs.2⟩
def zc5{W:Q7}{b c:Int}:∀f j:Nat,0<=P6 W b c f j->∃i:Nat,P6 W b c f j=(i:Int)/\j<=i/\i<j+f/\zij W b c i=true
 |0,j,h=>by
  have:(0:Int)<=-1:=h;omega
 |f+1,j,h=>by
  simp only[P6] at h ⊢;split
  ·rename_i hp;exact⟨j,rfl,I7 _,Qo,hp⟩
  ·rename_i hp;rw[B' hp] at h;obtain⟨i,a,b',c',d⟩:=zc5 f (j+1) h;exact⟨i,a,Qo,Qo,d⟩
def zjl{W:Q7}{c:Int}(h:¬L6 W c<0):∃(i:Nat) (b:Int),L6 W c=(i:Int)/\i<12/\zij W b c i:=by
 have key:∀f k:Nat,0<=zoj W c f k->∃(i:Nat) (b:Int),zoj W c f k=(i:Int)/\i<12/\zij W b c i:=λf=>by
  induction f with
  |zero=>intro k h;have:(0:Int)<=-1:=h;omega
  |succ f ih=>
   intro k h
   by_cases h0:P2 W c (k:Int)<0
   ·rw[zol h0] at h ⊢;exact ih _ h
   ·by_cases h1:P6 W (P2 W c (k:Int)) c 12 0<0
    ·rw[zok h1] at h ⊢;exact ih _ h
    ·rw[zom h0 h1] at h ⊢;obtain⟨i,a,_,b,d⟩:=zc5 12 0 h;exact⟨i,_,a,Qo,d⟩
 exact key _ _ (by have:=zq0 W c;unfold L6 at *;omega)
def z19{W:Q7}{c:Int}(h:¬L6 W c<0):0<=L6 W c/\L6 W c<12/\(Q8 W (L6 W c)).state=1:=by
 obtain⟨i,b,e,hi,hp⟩:=zjl h;unfold zij at hp;simp only[A'] at hp;rw[e];exact⟨Qo,Qo,(Ah hp.1.2).1⟩
def z1r{W V:Q7}(hl:UV W)(ha:WA V)(hT:QZ W.IE V.IE):UV V:=by
 have h1:=ha.c2;have h2:=ha.t;have h3:=ha.gl;have hm:=ZW;have hn1:=ha.n1;have hn2:=ha.n2;refine⟨Qo,Qo,Qo,λi a b=>?_⟩;have hb:=KH ha a Qo;have hg:=ha.grp i a Qo;refine⟨by rw[hT.n];exact(hl.f i a (by rw[<-hT.len];exact b)).nm,?_,Qo,Qo,Qo⟩
 cases hu:(gi V.IE i).IW with
 |false=>rw[(hg.1 hu).ne];exact⟨Qd,Qd⟩
 |true=>
  have hg:=hg.2 hu
  by_cases hq:(gi V.IE i).IM.I'=0
  ·rw[(hg.none hq).2.2];exact⟨Qd,Qd⟩
  ·have:=hg.IM hq;exact⟨Qo,Qo⟩
def zkn{W:Q7}{c:Int}(hW:Qp W)(hb:E6 W c=0)(hp:¬TW W c<0):0<=TW W c/\TW W c<12/\(Q8 (V7 W c) (TW W c)).state=1/\Q6 (V7 W c).IE (Q8 (V7 W c) (TW W c)).II/\SF (Qn+Qi+UQ) (Qn+Qi+UQ+Qi) (V7 W c)/\
  SF (Qn+Qi+UQ) (Qn+Qi+UQ+Qi) (Ud (V7 W c) (TW W c) (Q8 (V7 W c) (TW W c)).II c):=by
 obtain⟨c0,c1,_,wp,sw,fr⟩:=zax hW hb;obtain⟨p0,p1,ps⟩:=z19 hp;have sf:SF (Qn+Qi+UQ) (Qn+Qi+UQ+Qi) (V7 W c):=sw.sf.mono (I2 _) (by simp only[Qi];omega);have hu:=(sw.t _ p0 p1 (show (Q8 (V7 W c) (TW W c)).state≠0 by unfold TW;rw[ps];decide)).1;exact⟨p0,p1,ps,hu,sf,(B8 sf (I2 _) p0 p1 hu c0 (by rw[fr.c];exact c1)).2⟩
section
variable {base pb:Nat}{W W':Q7}{m:MW}{w:Wo}
def FE{c:Int}(h:J6 [] w W m)(hl:UV W) :
  Cz VK #[.agg (Qa W m).toArray,I c] w λe w'=>∃v,e=.returned v/\QV (Y7 W (E6 W c) (zcd W c)) w v w':=by
 refine Fk _ _ _ _ _ _ _ _ _ _ c (R:=λv w'=>QV (Y7 W (E6 W c) (zcd W c)) w v w') ?_;intro y hy y1 dY wr Rg We;have hm0:=Xu;have hlc:=hl.c;refine I3 (Zi (h.ext Rg) hl) ?_;rintro e wv (⟨hW,he,SX⟩|⟨hW,m',he,hM,SX⟩)
 ·exact⟨_,_,_,_,_,_,_,_,_,_,_,he,Qg SX We,λg=>by simp at g,true,λg=>by simp at g,λ_ R6 Rl=>QV.bad hW ((Rg.trans SX).fresh Rl λz hm=>.inl (YF hy dY z hm)),λg=>by simp at g⟩
 have hK:=Wk.begin hy dY Rg We hM SX;have hr:=hK.rd;have wp:=Qm.1 hW;refine⟨_,_,_,_,_,_,_,_,_,_,_,he,Qg SX We,λ_=>⟨Qo,Qo⟩,X5 W c,λ_=>Qt,λg R6 Rl=>?_,λg=>?_⟩
 ·have g:X5 W c=false:=by
   cases hc:X5 W c with
   |false=>rfl
   |true=>rw[hc] at g;split at g <;> simp at g
  have hb:E6 W c=1:=by unfold E6 UZ;rw[C' g]
  exact QV.no hW (by rw[hb];decide) (hK.step Rl) hb
 have g:X5 W c:=by
  cases hc:X5 W c with
  |true=>rfl
  |false=>rw[hc] at g;simp at g
 obtain⟨c0,c1⟩:=UA g;refine⟨hr.c.ix Y9 c0 c1,_,hr.c.f c0 c1 (j:=0) rfl,λg2 R7 Rl=>?_,λg2=>⟨λg3 RD Rl=>?_,λg3=>?_⟩⟩
 ·have g2:(gi W.IF c).up=false:=by simpa using g2
  have hb:E6 W c=6:=by unfold E6 UZ;rw[B' (by rw[g];decide),C' (by rw[g2];decide)]
  exact QV.no hW (by rw[hb];decide) (hK.step Rl) hb
 ·have g2:(gi W.IF c).up:=by simpa using g2
  have cA:¬QO W:=λhr=>by rw[C' hr] at g3;simp at g3
  have hb:E6 W c=10:=by unfold E6;rw[HH g g2 rfl,C' (by simpa using cA)]
  rw[B' cA];exact QV.no hW (by rw[hb];decide) (hK.step Rl) hb
 have g2:(gi W.IF c).up:=by simpa using g2
 have cA:QO W:=Iq λhr=>by rw[B' hr] at g3;simp at g3
 have hb:E6 W c=0:=by unfold E6;rw[HH g g2 rfl,B' (by rw[cA];decide)]
 obtain⟨_,_,hB8,wpS,swS,frS⟩:=zax hW hb;refine⟨λvs w1=>∃k:Nat,vs=I (k:Int)::Qa W m'/\1<=k/\k<=8/\Wk 8 [y,y1] w w1 (T9 W c k) m',Zp 8 0,λw1 hx0 _=>⟨1,rfl,Qd,Qd,hK.step hx0⟩,?_⟩;rintro g1 l RA Rz RQ RF RL RP RG RH RJ RO jS ⟨k,bS,hk1,hk8,hKk⟩;have hOk:=zkm wp (Qm.1 cA) c0 c1 k hk8;have e0:Qa (T9 W c k) m'=Qa W m':=JZ hOk.fr;have Wg:T9 W c (k+1)=if k≠0/\(gi (T9 W c k).IE (k:Int)).IW then MP (T9 W c k) (k:Int) c (MF (T9 W c k) (k:Int) c) else T9 W c k:=rfl;have cZ:=hOk.sf.w.a.gl;have Bz3:=wp.a.gl;simp only[Qa,I4,I5,Iv,true_and,and_true] at bS;obtain⟨rfl,rfl,⟨rfl,rfl,rfl⟩,⟨rfl,rfl,rfl⟩,rfl,rfl,rfl⟩:=bS;refine⟨λIV=>?_,λRW Sl zH sA=>?_⟩
 ·have IV:=Ot IV;have hrk:=hKk.rd;have Wx:=hrk.g.ix (i:=(k:Int)) Qo Qo;rw[cZ] at Wx;rw[Bz3] at IV ⊢;refine⟨Wx,_,Ug ((hrk.g.cells (k:Int) Qo Qo).get 0 _ rfl),λgu=>?_,λgu=>⟨⟨Qo,Qo⟩,λWK qU _=>⟨⟨k+1,by rw[<-Bz3];rfl,Qo,Qo,?_⟩,?_⟩⟩⟩
  ·have hu:Q6 (T9 W c k).IE (k:Int):=Q5.2 ⟨Qo,Qo,gu⟩;have yZ:c<((T9 W c k).IF.length:Int):=by rw[hOk.fr.c];exact c1
   have hsh:=zfh hOk.sf.w.tu hu c0 yZ;have A92:=q8 (c:=c) hrk hOk.sf.w.tu (z1r hl hOk.sf.w.a hOk.fr.g) hu;rw[e0] at A92;simp only[Qa] at A92;rw[Bz3] at A92;refine⟨_,A92,λSA gL hs7=>?_⟩;have hK7:=hKk.step gL;have RI:=KU hK7.own hOk.sf (I2 _) (by simp only[Qi];decide) hOk.cu (x:=MF (T9 W c k) (k:Int) c) hu Qo c0 yZ;rw[e0] at RI;simp only[Qa] at RI;rw[Bz3] at RI;refine I3 RI ?_;rintro e1 Si ⟨qC,fU⟩;refine⟨_,_,_,_,_,_,_,_,_,_,qC,hK7.kept fU hs7,⟨Qo,Qo⟩,λSY vF _=>⟨⟨k+1,by rw[<-Bz3];rfl,Qo,Qo,?_⟩,?_⟩⟩
   ·rw[Wg,C' ⟨Qo,gu⟩];exact(hK7.Sv fU hs7).step vF
   ·simp only[Zp,Xp,Y4,Ie];omega
  ·rw[Wg,B' (by rintro⟨_,h⟩;rw[show (gi (T9 W c k).IE (k:Int)).IW=false from gu] at h;cases h)];exact hKk.step qU
  ·simp only[Zp,Xp,Y4,Ie];omega
 ·have RW:=Ou RW;have:k=8:=Qo;subst this;have AR0:=hKk.step zH;have RI:=QB AR0.own hB8.sf.w (by simp only[Qi];decide) (by simp only[Qi];decide) AR0.base;rw[e0] at RI;refine I3 RI ?_;rintro e3 eD ⟨m2,gZ,hy5⟩;have BW6:Wk 8 [y,y1] w eD (V7 W c) m2:=AR0.Sv hy5 sA;have CR3:=BW6.rd;have Ck3:=zd1 CR3 wpS c0 (by rw[frS.c];exact c1);refine⟨_,_,_,_,_,_,_,_,_,_,gZ,AR0.kept hy5 sA,_,Ck3,λg5=>?_,λg5 Wm BY2=>?_⟩
  ·have g5:¬TW W c<0:=by have:=Ot g5;unfold TW;omega
   obtain⟨p0,p1,ps,hu,sf,sfP⟩:=zkn hW hb g5;have qT:=wpS.a.t;refine⟨CR3.t.ix QT p0 (by rw[qT];exact p1),_,CR3.t.f p0 (by rw[qT];exact p1) (j:=1) rfl,λSm wQ AD3=>?_⟩;have BH1:=BW6.step wQ;refine I3 (Vf BH1.own sf (I2 _) (by simp only[Qi,UQ];decide) (t:=TW W c) (g:=(Q8 (V7 W c) (TW W c)).II) (c:=c) p0 p1 (by rw[ps];decide) hu c0 (by rw[frS.c];exact c1)) ?_;rintro e4 gB ⟨he4,hy6⟩;refine⟨_,_,_,_,_,_,_,_,_,_,he4,BH1.kept hy6 AD3,λSy AD5 Ad3=>?_⟩;have CA5:=(BH1.Sv hy6 AD3).step AD5
   have C15:Qa (Ud (V7 W c) (TW W c) (Q8 (V7 W c) (TW W c)).II c) m2=Qa (V7 W c) m2:=by
    obtain⟨q1,q2,q3,q4⟩:=zq2 (V7 W c) (TW W c) (Q8 (V7 W c) (TW W c)).II c;simp only[Qa,q1,q2,q3,q4]
   have bF:=QB CA5.own sfP.w (by simp only[Qi,UQ];decide) (by simp only[Qi,UQ];decide) CA5.base;rw[C15] at bF;refine I3 bF ?_;rintro e5 fS ⟨m3,he5,hy7⟩;refine⟨_,_,_,_,_,_,_,_,_,_,he5,CA5.kept hy7 Ad3,λWd B24=>?_⟩;have hE:zcd W c=Qf (Ud (V7 W c) (TW W c) (Q8 (V7 W c) (TW W c)).II c):=by unfold zcd;rw[B' g5]
   rw[hE];exact QV.ok hW hb ((CA5.Sv hy7 Ad3).step B24)
  ·have g5:TW W c<0:=by have:=Ou g5;unfold TW;omega
   have hE:zcd W c=V7 W c:=by unfold zcd;rw[C' g5]
   rw[hE];exact QV.ok hW hb (BW6.step BY2)
end
def zdh{W:Q7}{g n x:Int}(hW:Qp W)(hb:Vc W g n x=0):Xk (DB W g n x):=by
 have wp:=Qm.1 hW;have h:=za0 hW hb;have p:=XF wp
 have hT:EM W (KN W g n x):=⟨.inl rfl,h.u,h.w,h.m,h.m0,by show ZZ 0=true;decide,by show ZZ 0=true;decide,I2 _,by show (0:Int)<=8000000;decide,λ_=>by
  have:=(ZH (Qh n)).1;show (Qb W g (KM W g x)).IL<=(Qb W g (KM W g x)).IL/\(Qb W g (KM W g x)).IL-(Qb W g (KM W g x)).IL<=ZN (Qh n);omega⟩
 exact ZJ (h.sw2.Rb h.c0 h.c1) Qd Qd (za9 p h.f0 h.f1 (show (1:Int)≠0 by decide) hT rfl h.c0 h.c1) (((V4 wp).J' wp.a h.f0 h.f1 (x:=KN W g n x) λ_=>h.ch).Rb _)
def zsk{W:Q7}{g x:Int}(hW:Qp W)(hb:zik W g x=0):Xk (zrs W g x):=by
 have wp:=Qm.1 hW;obtain⟨h1,hz,hu,_,_,sf,cu,hT⟩:=zmx hW hb;have hx:=Qv.1 h1;have hu':Q6 (R1 W g (PO W g x)).IE g:=by rw[hT.cD];exact hu
 have p1:TO (R1 W g (PO W g x)):=(XF wp).same sf.w.a rfl rfl hT (zrd rfl);have l1:zbj (R1 W g (PO W g x)):=(V4 wp).same rfl hT (λi=>QQ (f:=Zb.IF) W.IE g (x:=PO W g x) rfl i) rfl;have hlen:(R1 W g (PO W g x)).IF.length=W.IF.length:=rfl;show Xk (Qf (vI (R1 W g (PO W g x)) g x W.IF.length));rw[<-hlen];generalize R1 W g (PO W g x)=V at sf cu hu' p1 l1
 have all:∀k:Nat,k<=V.IF.length->TO (vI V g x k)/\TT V (vI V g x k):=by
  intro k
  induction k with
  |zero=>exact λ_=>⟨p1,TT.refl _⟩
  |succ k ih=>
   intro hk;obtain⟨a,b⟩:=ih Qo;exact⟨a.wei (by rw[b.g.cD];exact hu') hz Qo (by rw[b.len];omega),b.trans (ztk _ _ _ _)⟩
 obtain⟨a,b⟩:=all _ (I7 _);obtain⟨sf2,fr,_⟩:=Bl sf (I2 _) cu hu' hz hx.1 hx.2 V.IF.length (I7 _);exact ZJ sf2.w (by simp only[Qi];decide) (by simp only[Qi,UQ];decide) a (b.loc fr.t l1)
def zt8{W:Q7}{t c:Int}(h:UY W t c):Zk (QF W (Q8 W t).II (Q8 W t).mask) c:=by
 unfold UY at h;simp only[A',ID,H',I6] at h;exact h.1.2
def z1d{W:Q7}{c:Int}(hW:Qp W)(hb:E6 W c=0):Xk (zcd W c):=by
 have wp:=Qm.1 hW;obtain⟨c0,c1,hB,wpS,swS,frS⟩:=zax hW hb;have iS:Xk (V7 W c):=ZJ hB.sf.w (by simp only[Qi];decide) (by simp only[Qi,UQ];decide) hB.pre (hB.sta.loc hB.fr.t (V4 wp));unfold zcd;split
 ·exact iS
 ·rename_i hp;obtain⟨p0,p1,ps,pu,_,sf⟩:=zkn hW hb hp;obtain⟨i,b,e,hi,ht⟩:=zjl hp;have e:TW W c=(i:Int):=e;unfold zij at ht;simp only[A'] at ht;have hcd:=zt8 ht.1.2;rw[<-e] at hcd;have cS:c<((V7 W c).IF.length:Int):=by rw[frS.c];exact c1
  clear hp iS swS frS hB ht e;have hK0:0<=Qn+Qi+UQ+Qi:=Qd;have hK1:Qn+Qi+UQ+Qi+UQ<=100000000000000000:=Qd;have hcd:Zk (QF (V7 W c) (Q8 (V7 W c) (TW W c)).II (Q8 (V7 W c) (TW W c)).mask) c:=hcd;generalize TW W c=q at *;generalize V7 W c=V at *;refine ZJ sf.w hK0 hK1 (ze7 (XF wpS) p0 p1 (by rw[ps];decide) pu c0 cS) λt t0 t1 n=>?_
  rw[(zbe V _ _ _).wh];rw[zq3 wpS.a.t p0 p1 t0] at n ⊢
  split at n
  ·rename_i he;rw[C' he];exact hcd
  ·rename_i he;rw[B' he];exact V4 wpS t t0 t1 n
def FT:KD:=⟨0,false,0,10,0⟩
def OJ(n:Nat)(p:Int)(name:ByteArray):Zb:=⟨true,p,name,10,15,0,0,0,⟨0,0,0,[],[]⟩,List.replicate n FT⟩
def zfu:Zb:=⟨false,0,⟨[].toArray⟩,0,0,0,0,0,⟨0,0,0,[],[]⟩,[]⟩
def J4(n:Nat):Q7:=⟨0,List.replicate n ⟨true,-1,0,0,0⟩,List.replicate 12 T3,(List.replicate 8 zfu).set 0 (OJ n (-1) ⟨[].toArray⟩)⟩
section
variable {n:Nat}
def Mw(k:Int)(k0:0<=k)(k1:k<8):gi (J4 n).IE k=if k=0 then OJ n (-1) ⟨[].toArray⟩ else zfu:=by
 have:=QE (List.replicate 8 zfu) (OJ n (-1) ⟨[].toArray⟩) (i:=0) (j:=k) (I2 _) Qd k0;show gi ((List.replicate 8 zfu).set (0:Int).toNat _) k=_;rw[this]
 by_cases h:k=0
 ·rw[C' h.symm,C' h]
 ·rw[B' λe=>h e.symm,B' h,Mj _ _ k0 Qo]
def zoc:(J4 n).IE.length=8:=by simp[J4]
def zeh(c:Int)(c0:0<=c)(c1:c<(n:Int)):gi (J4 n).IF c=⟨true,-1,0,0,0⟩:=Mj _ _ c0 c1
def zei(t:Int)(t0:0<=t)(t1:t<12):Q8 (J4 n) t=T3:=Mj 12 _ t0 Qo
def zqr(k:Int):Q6 (J4 n).IE k=true↔k=0:=by
 rw[Q5,zoc];constructor
 ·rintro⟨a,b,d⟩;rw[Mw k a b] at d
  split at d
  ·assumption
  ·cases d
 ·intro h;subst h;refine⟨I2 _,Qd,?_⟩;rw[Mw 0 (I2 _) Qd,C' rfl];rfl
def zqq(c:Int)(c0:0<=c)(c1:c<(n:Int)):Qb (J4 n) 0 c=FT:=by
 unfold Qb;rw[Mw 0 (I2 _) Qd,C' rfl];exact Mj _ _ c0 c1
def zu3:Yh (J4 n).IE:=by
 have g0:gi (J4 n).IE 0=OJ n (-1) ⟨[].toArray⟩:=by rw[Mw 0 (I2 _) Qd,C' rfl]
 have un:∀g:Int,1<=g->g<8->(gi (J4 n).IE g).IW->False:=λg a b h=>by
  rw[Mw g Qo b,B' Qo] at h;cases h
 exact⟨zoc,by rw[g0];rfl,by rw[g0];rfl,by rw[g0];rfl,λg a b h=>(un g a b h).elim,λg a b h=>(un g a b h).elim,λg a b h=>(un g a b h).elim,λg k a b d h=>(un g Qo d h).elim⟩
def z12(n0:1<=n)(n1:n<=4):WA (J4 n):=by
 have hcl:(J4 n).IF.length=n:=by simp[J4]
 refine⟨I2 _,by show (0:Int)<=_;decide,Qo,Qo,by simp[J4],zu3,EI (c:=0) Qo (I2 _) Qo (by rw[zeh 0 (I2 _) Qo]),λk k0 k1=>?_⟩;unfold Kg;rw[Mw k k0 k1];split
 ·refine⟨λh=>(by cases h),λ_=>⟨show (1:Int)<=10 by decide,show (10:Int)<=20 by decide,show PK 15=true by decide,show (15:Int)≠0 by decide,show ZZ 0=true by decide,by simp[OJ,hcl],λ_=>⟨rfl,rfl,rfl⟩,λ_=>⟨show TF ⟨0,0,0,[],[]⟩=true by decide,rfl,rfl⟩,λh=>Ir rfl h⟩⟩
 ·exact⟨λ_=>⟨rfl,rfl,rfl,rfl,rfl,rfl,rfl,rfl,Qd⟩,λh=>by cases h⟩
def zlj(n0:1<=n)(n1:n<=4):Xk (J4 n):=by
 have ha:=z12 n0 n1;have hcl:(J4 n).IF.length=n:=by simp[J4]
 have hmt:∀(k c:Int) (j:Nat),j<12->dU (J4 n) k c j=false:=λk c j hj=>by
  unfold dU;rw[show gi (J4 n).IJ (j:Int)=T3 from zei (j:Int) Qo Qo];rfl
 have hmg:∀(k c:Int) (j:Nat),j<8->WV (J4 n) k c j=false:=λk c j hj=>by
  unfold WV;rw[Mw (j:Int) Qo Qo]
  by_cases h:(j:Int)=0
  ·rw[show decide (1<=j)=false from decide_eq_false Qo];rfl
  ·rw[B' h];simp[zfu]
 refine⟨⟨ha,λt t0 t1=>.inl ?_,λk c k0 k1 c0 c1=>?_,λc c0 c1=>?_⟩,λk c hu c0 c1 hb=>?_⟩
 ·rw[zei t t0 t1];exact⟨rfl,rfl⟩
 ·by_cases hk:k=0
  ·subst hk;rw[Mw 0 k0 k1,C' rfl] at c1;have c1:c<(n:Int):=by simpa[OJ] using c1
   have e:=zqq c c0 c1;refine⟨?_,?_,?_,?_,?_,λ_=>?_,λh=>Ir rfl h,λh=>Ir rfl h⟩ <;> rw[e]
   ·decide
   ·decide
   ·decide
   ·decide
   ·decide
   ·exact⟨rfl,rfl,rfl⟩
  ·rw[Mw k k0 k1,B' hk] at c1;have c1:c<0:=c1;omega
 ·rw[hcl] at c1;have e:=zeh c c0 c1;refine⟨by rw[e];decide,by rw[e];decide,by rw[e];decide,by rw[e];show (-1:Int)<((J4 n).IJ.length:Int);simp[J4],λ_=>by rw[e],λh=>?_⟩;rw[e] at h;have h:(0:Int)<=-1:=h;omega
 ·unfold Sw at hb;have hb:=Ot hb;rcases Zl (Sf (J4 n) k c) (S9 (J4 n) c) 20 with ⟨a,_⟩|⟨_,h2,h3,_⟩
  ·rw[a] at hb;omega
  ·exfalso
   have IV:(QY (Sf (J4 n) k c) (S9 (J4 n) c) 20).toNat<20:=Qo;generalize (QY (Sf (J4 n) k c) (S9 (J4 n) c) 20).toNat=j at h3 IV
   by_cases hj:j<12
   ·rw[Ji hj,hmt k c j hj] at h3;cases h3
   ·rw[show j=12+(j-12) by omega,J3,hmg k c (j-12) Qo] at h3;cases h3
end
def znc{gs:List Zb}(ht:Yh gs):∀(f:Nat) (h:Int),Q6 gs h->dep 3 gs h<=(f:Int)->dep f gs h=dep 3 gs h
 |0,h,hu,hd=>by
  by_cases hz:h=0
  ·subst hz;rw[ZS,ZS]
  ·obtain⟨_,_,_,d,e,_⟩:=Y3 ht hu hz;omega
 |f+1,h,hu,hd=>by
  by_cases hz:h=0
  ·subst hz;rw[ZS,ZS]
  ·obtain⟨hp,_,_,d,e,e2,_⟩:=Y3 ht hu hz;have ih:=znc ht f _ hp Qo;show (if h=0 then 0 else if dep f gs (gi gs h).IG<0 then -1 else dep f gs (gi gs h).IG+1)=_;rw[B' hz,ih,e2,B' Qo,e]
structure zas (W:Q7) (a p:Int) (name:ByteArray):Prop where
 a1:1<=a
 a8:a<8
 fr:(gi W.IE a).IW=false
 up:Q6 W.IE p=true
 nm:Uw name=true
 no:∀h:Int,1<=h->h<8->(gi W.IE h).IW->¬((gi W.IE h).IG=p/\(gi W.IE h).name=name)
 dp:dep 3 W.IE p≠3
def Oc(W:Q7)(a p:Int)(name:ByteArray):Q7:=R1 W a (OJ W.IF.length p name)
section
variable {W:Q7}{a p:Int}{name:ByteArray}
def Ap(ha:WA W)(h:zas W a p name){i:Int}(hi:0<=i):gi (Oc W a p name).IE i=if a=i then OJ W.IF.length p name else gi W.IE i:=Yt (by have:=h.a1;omega) (by have:=ha.gl;have:=h.a8;omega) hi
def zys(h:zas W a p name){k:Int}(hu:Q6 W.IE k):a≠k:=λe=>by
 have:=(Q5.1 hu).2.2;rw[<-e,h.fr] at this;cases this
def Hf(ha:WA W)(h:zas W a p name){k:Int}(hu:Q6 W.IE k):gi (Oc W a p name).IE k=gi W.IE k:=by
 rw[Ap ha h (Q5.1 hu).1,B' (zys h hu)]
def LG(ha:WA W)(h:zas W a p name):gi (Oc W a p name).IE a=OJ W.IF.length p name:=by
 rw[Ap ha h (by have:=h.a1;omega),C' rfl]
def zlv(ha:WA W):(Oc W a p name).IE.length=8:=by
 have:=ha.gl;simp[Oc,R1];omega
def PL(ha:WA W)(h:zas W a p name){k:Int}:Q6 (Oc W a p name).IE k=true↔Q6 W.IE k\/k=a:=by
 have cZ:=ha.gl;have a1:=h.a1;have a8:=h.a8;rw[Q5,Q5,zlv ha,cZ];constructor
 ·rintro⟨x,y,z⟩;rw[Ap ha h x] at z
  by_cases e:a=k
  ·exact .inr e.symm
  ·rw[B' e] at z;exact .inl ⟨x,y,z⟩
 ·rintro (⟨x,y,z⟩|rfl)
  ·refine⟨x,y,?_⟩;rw[Ap ha h x,B' λe=>by rw[<-e,h.fr] at z;cases z];exact z
  ·refine⟨Qo,Qo,?_⟩;rw[LG ha h];rfl
def zqp(ha:WA W)(h:zas W a p name):∀(f:Nat) (k:Int),Q6 W.IE k->dep f (Oc W a p name).IE k=dep f W.IE k
 |0,_,_=>rfl
 |f+1,k,hu=>by
  by_cases hz:k=0
  ·subst hz;rw[ZS,ZS]
  ·have ih:=zqp ha h f _ (Y3 ha.tree hu hz).1;simp only[dep];rw[Hf ha h hu,ih]
def zlx(ha:WA W)(h:zas W a p name):∀(f:Nat) (k:Int),Q6 W.IE k->US f (Oc W a p name).IE k=US f W.IE k
 |0,_,_=>rfl
 |f+1,k,hu=>by
  by_cases hz:k=0
  ·subst hz;rw[Zc,Zc]
  ·have ih:=zlx ha h f _ (Y3 ha.tree hu hz).1;simp only[US];rw[Hf ha h hu,ih]
def z53(ha:WA W)(h:zas W a p name):dep 3 (Oc W a p name).IE a=dep 3 W.IE p+1/\0<=dep 3 W.IE p:=by
 have hr:=Lv ha h.up;have hd:=h.dp;have e:=znc ha.tree 2 p h.up Qo;refine⟨?_,hr.1⟩;show (if a=0 then 0 else if dep 2 (Oc W a p name).IE (gi (Oc W a p name).IE a).IG<0 then -1 else dep 2 (Oc W a p name).IE (gi (Oc W a p name).IE a).IG+1)=_;rw[B' (by have:=h.a1;omega),LG ha h];show (if dep 2 (Oc W a p name).IE p<0 then -1 else dep 2 (Oc W a p name).IE p+1)=_;rw[zqp ha h 2 p h.up,e,B' Qo]
def z11(ha:WA W)(h:zas W a p name):Yh (Oc W a p name).IE:=by
 have ht:=ha.tree;have cZ:=ha.gl;have a1:=h.a1;have r:=Hf ha h ha.root
 have sp:∀{g:Int},1<=g->g<8->(gi (Oc W a p name).IE g).IW->g=a\/(Q6 W.IE g/\gi (Oc W a p name).IE g=gi W.IE g):=λ{g} b d hh=>by
  rcases (PL ha h).1 (Q5.2 ⟨Qo,by rw[zlv ha];omega,hh⟩) with e|e
  ·exact .inr ⟨e,Hf ha h e⟩
  ·exact .inl e
 refine⟨zlv ha,by rw[r];exact ht.ru,by rw[r];exact ht.rp,by rw[r];exact ht.rn,λg b d hh=>?_,λg b d hh=>?_,λg b d hh=>?_,λg k b d e hg hk=>?_⟩
 ·rcases sp b d hh with rfl|⟨hu,e⟩
  ·rw[LG ha h];exact h.nm
  ·rw[e] at hh ⊢;exact ht.nm g b d hh
 ·rcases sp b d hh with rfl|⟨hu,e⟩
  ·rw[LG ha h];exact(PL ha h).2 (.inl h.up)
  ·rw[e] at hh ⊢;exact(PL ha h).2 (.inl (ht.par g b d hh))
 ·rcases sp b d hh with rfl|⟨hu,e⟩
  ·have:=z53 ha h;omega
  ·rw[zqp ha h 3 g hu];exact ht.dp g b d (Q5.1 hu).2.2
 ·rintro⟨q1,q2⟩;rcases sp Qo e hg with hga|⟨hu,eg⟩
  ·rcases sp b Qo hk with hka|⟨hu2,ek⟩
   ·omega
   ·rw[hga,LG ha h,ek] at q1 q2;exact h.no k b Qo (Q5.1 hu2).2.2 ⟨q1,q2⟩
  ·rcases sp b Qo hk with hka|⟨hu2,ek⟩
   ·rw[hka,LG ha h,eg] at q1 q2;exact h.no g Qo e (Q5.1 hu).2.2 ⟨q1.symm,q2.symm⟩
   ·rw[eg,ek] at q1 q2;exact ht.uniq g k b d e (Q5.1 hu).2.2 (Q5.1 hu2).2.2 ⟨q1,q2⟩
end
section
variable {W:Q7}{a p:Int}{name:ByteArray}
def Mu(ha:WA W)(h:zas W a p name){k c:Int}(hu:Q6 W.IE k):Qb (Oc W a p name) k c=Qb W k c:=by
 unfold Qb;rw[Hf ha h hu]
def za8(ha:WA W)(h:zas W a p name){c:Int}(c0:0<=c)(c1:c<(W.IF.length:Int)):Qb (Oc W a p name) a c=FT:=by
 unfold Qb;rw[LG ha h];exact Mj _ _ c0 c1
def zsy(ha:WA W)(h:zas W a p name){k c:Int}(c0:0<=c)(c1:c<(W.IF.length:Int))(j:Nat)(hj:j<8):WV (Oc W a p name) k c j=WV W k c j:=by
 have a1:=h.a1;unfold WV
 by_cases e:a=(j:Int)
 ·rw[<-e,za8 ha h c0 c1,h.fr];show (_&&_&&FT.on)=_;simp[FT]
 ·rw[Ap ha h Qo,B' e]
  have:Qb (Oc W a p name) (j:Int) c=Qb W (j:Int) c:=by
   unfold Qb;rw[Ap ha h Qo,B' e]
  rw[this]
def zyr(ha:WA W)(h:zas W a p name){k c:Int}(c0:0<=c)(c1:c<(W.IF.length:Int)):QJ (Oc W a p name) k c=QJ W k c:=by
 unfold QJ;rw[show TV (dU (Oc W a p name) k c) (Oc W a p name).IJ.length=TV (dU W k c) W.IJ.length from rfl,zlv ha,ha.gl];rw[KF λj hj=>zsy ha h c0 c1 j hj]
def zlw(wp:XV W)(h:zas W a p name){c:Int}(j:Nat)(hj:j<20):Sf W a c j=false:=by
 by_cases AH4:j<12
 ·rw[Ji AH4];unfold dU;rcases wp.t (j:Int) Qo Qo with hz|⟨_,hx⟩
  ·have:(gi W.IJ (j:Int)).state=0:=hz.1;rw[this];rfl
  ·have hg:(gi W.IJ (j:Int)).II≠a:=λe=>zys h hx.g e.symm
   rw[show ((gi W.IJ (j:Int)).II==a)=false by simpa using hg];simp
 ·rw[show j=12+(j-12) by omega,J3];unfold WV
  cases hu:(gi W.IE ((j-12:Nat):Int)).IW with
  |false=>simp
  |true=>
   have hl:=wp.a.gl;have huu:Q6 W.IE ((j-12:Nat):Int):=Q5.2 ⟨Qo,Qo,hu⟩
   by_cases h1:1<=j-12
   ·have hpu:=(Y3 wp.a.tree huu Qo).1;have hg:(gi W.IE ((j-12:Nat):Int)).IG≠a:=λe=>zys h hpu e.symm
    rw[show ((gi W.IE ((j-12:Nat):Int)).IG==a)=false by simpa using hg];simp
   ·rw[show decide (1<=j-12)=false from decide_eq_false h1];simp
def KG{p:Nat->Bool}:∀{n:Nat},(∀j,j<n->p j=false)->TV p n=false
 |0,_=>rfl
 |n+1,h=>by simp only[TV];rw[KG λj hj=>h j Qo,h n Qo];rfl
def z10(wp:XV W)(h:zas W a p name){c:Int}:QJ W a c=false:=by
 have hl:=wp.a.gl;have ht:=wp.a.t;unfold QJ;rw[KG λj hj=>by have:=zlw wp h (c:=c) j Qo;rwa[Ji Qo] at this,KG λj hj=>by have:=zlw wp h (c:=c) (12+j) Qo;rwa[J3] at this];rfl
def Nd{α β:Type}{f g:β->α->β}:∀(l:List α) (s:β),(∀(s:β) (x:α),x∈l->f s x=g s x)->l.foldl f s=l.foldl g s
 |[],_,_=>rfl
 |y::l,s,hl=>by
  rw[List.foldl_cons,List.foldl_cons,hl s y I9];exact Nd l _ λs x hx=>hl s x (I1 _ hx)
def z4h(ha:WA W)(h:zas W a p name){k:Int}(hu:Q6 W.IE k)(u:Int):T5 (Oc W a p name).IE k u=T5 W.IE k u:=by
 have e:QM (Oc W a p name).IE k=QM W.IE k:=zlx ha h 3 k hu;unfold T5;rw[e];refine Nd _ _ λs x hx=>?_
 have hxu:Q6 W.IE x:=by
  rcases Im.1 hx with hx|hx
  ·exact(Ys ha.tree k hu x hx).1
  ·rw[IA.1 hx];exact ha.root
 rw[Hf ha h hxu]
def zz6{W W':Q7}(e:W'.IF=W.IF){k:Int}(hp:∀u:Int,T5 W'.IE k u=T5 W.IE k u)(m:Int):QF W' k m=QF W k m:=by
 unfold QF;rw[e,hp]
def z54(ha:WA W)(h:zas W a p name){k:Int}(hu:Q6 W.IE k)(m:Int):QF (Oc W a p name) k m=QF W k m:=zz6 (W:=W) (W':=Oc W a p name) rfl (z4h ha h hu) m
def zli(iv:Xk W)(h:zas W a p name):Xk (Oc W a p name):=by
 have wp:=iv.wp;have ha:=wp.a;have a1:=h.a1;have a8:=h.a8;have cZ:=ha.gl;have hpu:∀{k:Int},Q6 W.IE k->k≠0->Q6 W.IE (gi W.IE k).IG:=λhu hz=>(Y3 ha.tree hu hz).1
 have hA:WA (Oc W a p name):=by
  refine⟨ha.n1,ha.n2,ha.c1,ha.c2,ha.t,z11 ha h,ha.ups,λk k0 k1=>?_⟩;unfold Kg;rw[Ap ha h k0];split
  ·refine⟨λhh=>(by cases hh),λ_=>⟨show (1:Int)<=10 by decide,show (10:Int)<=20 by decide,show PK 15=true by decide,show (15:Int)≠0 by decide,show ZZ 0=true by decide,by simp[OJ];rfl,λ_=>⟨rfl,rfl,rfl⟩,λ_=>⟨show TF ⟨0,0,0,[],[]⟩=true by decide,rfl,rfl⟩,λhh=>Ir rfl hh⟩⟩
  ·have:=ha.grp k k0 k1;exact⟨this.1,λhu=>by have:=this.2 hu;exact⟨this.w1,this.w2,this.m,this.m0,this.s,this.len,this.root,this.none,this.IM⟩⟩
 refine⟨⟨hA,λt t0 t1=>?_,λk c k0 k1 c0 c1=>?_,λc c0 c1=>?_⟩,λk c hu c0 c1 hb=>?_⟩
 ·rcases wp.t t t0 t1 with hz|⟨n,hx⟩
  ·exact .inl hz
  ·refine .inr ⟨n,hx.st,(PL ha h).2 (.inl hx.g),hx.n,hx.m,hx.m0,hx.v,hx.s,hx.u,hx.l1,hx.l2,?_,λhs=>?_⟩
   ·rw[show (Q8 (Oc W a p name) t)=Q8 W t from rfl,z54 ha h hx.g];exact hx.c
   ·rw[show (Q8 (Oc W a p name) t)=Q8 W t from rfl,Mu ha h hx.g];exact hx.f hs
 ·by_cases e:a=k
  ·subst e;rw[LG ha h] at c1;have c1:c<(W.IF.length:Int):=by simpa[OJ] using c1
   have es:=za8 ha h c0 c1;refine⟨by rw[es];decide,by rw[es];decide,by rw[es];decide,by rw[es];decide,by rw[es];decide,λhz=>by omega,λ_=>?_,λ_ ho=>?_⟩
   ·rw[es,zyr ha h c0 c1,z10 wp h];rfl
   ·rw[es] at ho;cases ho
  ·have hg:gi (Oc W a p name).IE k=gi W.IE k:=by rw[Ap ha h k0,B' e]
   rw[hg] at c1
   have hu:Q6 W.IE k:=by
    cases hh:(gi W.IE k).IW with
    |true=>exact Q5.2 ⟨k0,Qo,hh⟩
    |false=>
     have:=((ha.grp k k0 k1).1 hh).l;omega
   have cl:c<(W.IF.length:Int):=by rw[<-ha.sl hu];exact c1
   have hs:=wp.s k c k0 k1 c0 c1;have es:=Mu ha h (c:=c) hu;refine⟨by rw[es];exact hs.f,by rw[es];exact hs.v,by rw[es];exact hs.s,by rw[es];exact hs.w1,by rw[es];exact hs.w2,λhz=>by rw[es];exact hs.root hz,λhz=>?_,λhz ho=>?_⟩
   ·rw[es,zyr ha h c0 cl,show Jm (Oc W a p name) k c=Jm W k c by unfold Jm;rw[hg]];exact hs.on hz
   ·rw[es] at ho;rw[es,hg,Mu ha h (hpu hu hz)];exact hs.st hz ho
 ·have hc:=wp.c c c0 c1;refine⟨hc.b,hc.i,hc.c1,hc.c2,hc.no,λh0=>?_⟩;have h0:0<=(gi W.IF c).cur:=h0;obtain⟨y1,y2,y3,y4,y5,y6⟩:=hc.yes h0;have hl:=ha.t
  have rO:Q6 W.IE (Q8 W (gi W.IF c).cur).II:=by
   have hc2:=hc.c2;rcases wp.t _ h0 Qo with hz|⟨_,hx⟩
   ·unfold Zq at y5;rw[hz.1] at y5;simp at y5
   ·exact hx.g
  have hpt:QM (Oc W a p name).IE (Q8 W (gi W.IF c).cur).II=QM W.IE (Q8 W (gi W.IF c).cur).II:=zlx ha h 3 _ rO;refine⟨y1,y2,y3,y4,?_,?_⟩
  ·unfold Zq Ut at y5 ⊢;rw[show (gi (Oc W a p name).IF c).cur=(gi W.IF c).cur from rfl,show Q8 (Oc W a p name) (gi W.IF c).cur=Q8 W (gi W.IF c).cur from rfl,hpt];rw[A',List.all_eq_true] at y5 ⊢;exact⟨y5.1,λx hx=>by rw[Mu ha h (Ys ha.tree _ rO x hx).1];exact y5.2 x hx⟩
  ·unfold MJ Od at y6 ⊢;rw[show (gi (Oc W a p name).IF c).cur=(gi W.IF c).cur from rfl,show (gi (Oc W a p name).IF c).Wh=(gi W.IF c).Wh from rfl,show Q8 (Oc W a p name) (gi W.IF c).cur=Q8 W (gi W.IF c).cur from rfl,hpt,Mu ha h rO];rw[A',List.all_eq_true] at y6 ⊢;refine⟨y6.1,λx hx=>?_⟩;obtain⟨xu,xz⟩:=Ys ha.tree _ rO x hx;rw[Mu ha h xu,Hf ha h xu,Mu ha h (hpu xu xz)];exact y6.2 x hx
 ·have cl:c<(W.IF.length:Int):=c1
  have Ao5:∀j,j<20->Sf (Oc W a p name) k c j=Sf W k c j:=λj hj=>by
   by_cases AH4:j<12
   ·rw[Ji AH4,Ji AH4];rfl
   ·rw[show j=12+(j-12) by omega,J3,J3,zsy ha h c0 cl (j-12) Qo]
  rcases (PL ha h).1 hu with hk|rfl
  ·have hv:∀j,j<20->Sf (Oc W a p name) k c j->S9 (Oc W a p name) c j=S9 W c j:=λj hj hm=>by
    unfold S9;split
    ·rfl
    ·rename_i AH4;rw[Ao5 j hj,show j=12+(j-12) by omega,J3] at hm;unfold WV at hm;simp only[A'] at hm;rw[Mu ha h (Q5.2 ⟨Qo,Qo,hm.1.2.1⟩)]
   have e:QY (Sf (Oc W a p name) k c) (S9 (Oc W a p name) c) 20=QY (Sf W k c) (S9 W c) 20:=P8 Ao5 hv;have zE:=iv.fl k c hk c0 cl (by unfold Sw at hb ⊢;rwa[e] at hb);rw[Mu ha h hk];refine IC (Int.le_of_eq ?_) zE;unfold Sw at hb;have hb:=Ot hb;rw[e] at hb;unfold S3;rw[e,B' Qo,B' Qo];rcases Zl (Sf W k c) (S9 W c) 20 with ⟨q,_⟩|⟨_,q2,q3,_⟩
   ·omega
   ·have IV:(QY (Sf W k c) (S9 W c) 20).toNat<20:=Qo;exact hv _ IV (by rw[Ao5 _ IV];exact q3)
  ·exfalso
   unfold Sw at hb;have hb:=Ot hb;rcases Zl (Sf (Oc W k p name) k c) (S9 (Oc W k p name) c) 20 with ⟨q,_⟩|⟨_,q2,q3,_⟩
   ·omega
   ·rw[Ao5 _ Qo,zlw wp h _ Qo] at q3;cases q3
end
def zyi{W:Q7}(ha:WA W){k c d:Int}(hu:Q6 W.IE k)(hd:dep 3 W.IE k=d)(d1:1<=d)(c0:0<=c)(c1:c<(W.IF.length:Int)) :
  WA (Rw W k c (SC W k c))/\UN (Rw W k c (SC W k c)) c k/\∀g:Int,Q6 W.IE g->g≠k->(gi W.IE k).IG≠g->UN W c g->UN (Rw W k c (SC W k c)) c g:=by
 have hz:k≠0:=λe=>by subst e;rw[ZS] at hd;omega
 obtain⟨u0,u1,_⟩:=Q5.1 hu;have hl:=ha.gl;have hsl:=ha.sl hu;have yZ:c<((gi W.IE k).IH.length:Int):=Qo
 have hpk:(gi W.IE k).IG≠k:=λe=>by
  obtain⟨_,_,_,n,e1,e2,_⟩:=Y3 ha.tree hu hz;rw[e] at e2;omega
 have e:∀{i j:Int},0<=i->0<=j->Qb (Rw W k c (SC W k c)) i j=if k=i/\c=j then SC W k c else Qb W i j:=λhi hj=>XS u0 u1 c0 yZ hi hj
 have hT:=YC (W:=W) (g:=k) (c:=c) (s:=SC W k c) u0 u1
 have act:∀g:Int,(gi W.IE k).IG≠g->QJ (Rw W k c (SC W k c)) g c=QJ W g c:=λg hg=>by
  refine P1 (W:=W) (W':=Rw W k c (SC W k c)) rfl hT λj hj _ _ hp=>?_
  rw[e Qo c0,B'];rintro⟨h,_⟩;exact hg (by rw[h];exact hp)
 refine⟨ha.Rw u0 Qo,?_,λg gu gk hg h=>?_⟩
 ·unfold UN;rw[e u0 c0,C' ⟨rfl,rfl⟩,act k hpk,HI u0 u1 u0];rfl
 ·unfold UN;have g0:=(Q5.1 gu).1;rw[e g0 c0,B' λh=>gk h.1.symm,act g hg,HI u0 u1 g0];exact h
def zn6{W:Q7}(ha:WA W){c d:Int}(d1:1<=d)(c0:0<=c)(c1:c<(W.IF.length:Int))(hI:∀g:Int,Q6 W.IE g->d<dep 3 W.IE g->UN W c g):∀k:Nat,k<=8->
  WA (Z4 W c d k)/\XU W (Z4 W c d k)/\∀g:Int,Q6 W.IE g->d<dep 3 W.IE g\/dep 3 W.IE g=d/\g<(k:Int)->UN (Z4 W c d k) c g
 |0,_=>⟨ha,XU.refl _,λg gu h=>hI g gu (by
   rcases h with h|h
   ·exact h
   ·have:=(Q5.1 gu).1;have:=h.2;omega)⟩
 |k+1,hk=>by
  obtain⟨a,b,ih⟩:=zn6 ha d1 c0 c1 hI k Qo;have hl:=a.gl;have hT:=b.g;simp only[Z4];split
  ·rename_i hc;have hu:Q6 (Z4 W c d k).IE (k:Int):=Q5.2 ⟨Qo,Qo,hc.1⟩;obtain⟨l1,l3,l4⟩:=zyi a hu hc.2 d1 c0 (c:=c) (by rw[b.c];exact c1);refine⟨l1,b.trans (UO Qo Qo),λg gu h=>?_⟩
   by_cases e:g=(k:Int)
   ·subst e;exact l3
   ·have hkz:(k:Int)≠0:=λe=>by have:=hc.2;rw[e,ZS] at this;omega
    obtain⟨_,_,_,n,e1,e2,_⟩:=Y3 a.tree hu hkz;refine l4 g (by rw[hT.cD];exact gu) e (λhp=>?_) (ih g gu ?_)
    ·rw[hp,hT.dep] at e2;have:=hc.2;omega
    ·rcases h with h|h
     ·exact .inl h
     ·exact .inr ⟨h.1,by have:=h.2;omega⟩
  ·rename_i hc;refine⟨a,b,λg gu h=>ih g gu ?_⟩;rcases h with h|h
   ·exact .inl h
   ·refine .inr ⟨h.1,?_⟩
    by_cases e:g=(k:Int)
    ·subst e;exact Ir ⟨by rw[hT.u];exact(Q5.1 gu).2.2,by rw[hT.dep];exact h.1⟩ hc
    ·have:=h.2;omega
def zi6{W:Q7}(ha:WA W){c:Int}(c0:0<=c)(c1:c<(W.IF.length:Int)):WA (Qw W c)/\XU W (Qw W c)/\∀g:Int,Q6 W.IE g->g≠0->UN (Qw W c) c g:=by
 have key:∀j:Nat,j<=3->WA (ZP W c j)/\XU W (ZP W c j)/\∀g:Int,Q6 W.IE g->3-(j:Int)<dep 3 W.IE g->UN (ZP W c j) c g:=by
  intro j
  induction j with
  |zero=>exact λ_=>⟨ha,XU.refl _,λg gu h=>by have:=(Lv ha gu).2;omega⟩
  |succ j ih=>
   intro hj;obtain⟨a,b,h⟩:=ih Qo;have hT:=b.g;obtain⟨a2,b2,h2⟩:=zn6 a (c:=c) (d:=3-(j:Int)) Qo c0 (by rw[b.c];exact c1) (λg gu hd=>h g (by rwa[hT.cD] at gu) (by rwa[hT.dep] at hd)) 8 (I7 _);refine⟨a2,b.trans b2,λg gu hd=>h2 g (by rw[hT.cD];exact gu) ?_⟩;rw[hT.dep];have:=(Q5.1 gu).2.1;have:=ha.gl
   by_cases e:dep 3 W.IE g=3-(j:Int)
   ·exact .inr ⟨e,Qo⟩
   ·exact .inl Qo
 obtain⟨a,b,h⟩:=key 3 (I7 _);refine⟨a,b,λg gu gz=>h g gu ?_⟩;obtain⟨_,_,_,n,e1,_⟩:=Y3 ha.tree gu gz;omega
def zjf{W:Q7}(ha:WA W){c d:Int}(d1:1<=d)(c0:0<=c)(c1:c<(W.IF.length:Int)):∀k:Nat,k<=8->D4 c W (Z4 W c d k)/\WA (Z4 W c d k)
 |0,_=>⟨D4.refl _ _,ha⟩
 |k+1,hk=>by
  obtain⟨o,a⟩:=zjf ha d1 c0 c1 k Qo;have hl:=a.gl;simp only[Z4];split
  ·rename_i hc;have hu:Q6 (Z4 W c d k).IE (k:Int):=Q5.2 ⟨Qo,Qo,hc.1⟩;exact⟨o.trans (NI Qo Qo c0 (by rw[a.sl hu,o.len];exact c1)),a.Rw Qo Qo⟩
  ·exact⟨o,a⟩
def zel{W:Q7}(ha:WA W){c:Int}(c0:0<=c)(c1:c<(W.IF.length:Int)):D4 c W (Qw W c):=by
 have key:∀j:Nat,j<=3->D4 c W (ZP W c j)/\WA (ZP W c j):=by
  intro j
  induction j with
  |zero=>exact λ_=>⟨D4.refl _ _,ha⟩
  |succ j ih=>
   intro hj;obtain⟨o,a⟩:=ih Qo;obtain⟨o2,a2⟩:=zjf a (c:=c) (d:=3-(j:Int)) Qo c0 (by rw[o.len];exact c1) 8 (I7 _);exact⟨o.trans o2,a2⟩
 exact(key 3 (I7 _)).1
structure Dm (W:Q7) (c:Int):Prop where
 on:∀k:Int,Q6 W.IE k->k≠0->UN W c k
 cu:0<=(gi W.IF c).cur->(Q8 W (gi W.IF c).cur).R2=c/\Zq W (gi W.IF c).cur=true
def zxb{W:Q7}(wp:XV W){c:Int}(c0:0<=c)(c1:c<(W.IF.length:Int)):Dm W c:=
 ⟨λk hu hz=>(ED wp hu c0 c1).on hz,λh=>⟨((wp.c c c0 c1).yes h).2.2.2.1,((wp.c c c0 c1).yes h).2.2.2.2.1⟩⟩
def Dm.oth{K:Int}{c d:Int}{W W':Q7}(h:Dm W d)(sw:SW K W)(o:D4 c W W')(d0:0<=d)(d1:d<(W.IF.length:Int))(hd:d≠c):Dm W' d:=by
 refine⟨λk hu hz=>?_,λh0=>?_⟩
 ·rw[o.g.cD] at hu;have k0:=(Q5.1 hu).1;have:=h.on k hu hz;unfold UN at this ⊢;rw[o.e k d k0 d0 hd,o.Wb d0 hd,zk1 (o.b k k0)];exact this
 ·rw[o.cp d d0 hd] at h0 ⊢;rw[Xf o.t];obtain⟨h1,h2⟩:=h.cu h0;refine⟨h1,?_⟩
  have hs:(Q8 W (gi W.IF d).cur).state=1:=by
   unfold Zq at h2;rw[A'] at h2;exact Iz h2.1
  have hu:=(sw.t _ h0 (sw.cu d d0 d1).2 (by rw[hs];decide)).1;rw[o.line sw.a.tree hu (by rw[h1];exact d0) (by rw[h1];exact hd)];exact h2
def zfl{K:Int}{W:Q7}(sw:SW K W){c:Int}(c0:0<=c)(c1:c<(W.IF.length:Int)):D4 c W (Xc W c)/\Dm (Xc W c) c:=by
 obtain⟨p1,os,hon⟩:=zi6 sw.a c0 c1;have ol:=zel sw.a c0 c1;obtain⟨f,hA,_⟩:=Nc p1 c0 (c:=c) (by rw[os.c];exact c1) 8 (I7 _);have f:FC c (Qw W c) (Z3 (Qw W c) c):=f;have hon:∀g:Int,Q6 (Qw W c).IE g->g≠0->UN (Qw W c) c g:=λg gu gz=>hon g (by rwa[os.g.cD] at gu) gz
 have Wg:Xc W c=if Tz (Z3 (Qw W c) c) c=true then Rb (Z3 (Qw W c) c) c else Z3 (Qw W c) c:=rfl;have hO:D4 c W (Z3 (Qw W c) c):=ol.trans f.o;have hFc:(Z3 (Qw W c) c).IF.length=W.IF.length:=hO.len;have hT:=f.o.g
 have Br1:∀k:Int,Q6 (Z3 (Qw W c) c).IE k->k≠0->UN (Z3 (Qw W c) c) c k:=λk hu hz=>by
  rw[hT.cD] at hu;have k0:=(Q5.1 hu).1;have:=hon k hu hz;unfold UN at this ⊢;rw[f.on k c k0 c0,P1 f.o.t hT λj _ _ _ _=>f.on _ c Qo c0,zk1 (f.o.b k k0)];exact this
 rw[Wg];clear Wg;generalize Z3 (Qw W c) c=F at Br1 hO hFc;have cF:c<(F.IF.length:Int):=by rw[hFc];exact c1
 split
 ·refine⟨hO.trans (zoe c0 cF),Br1,λh0=>?_⟩;rw[show gi (Rb F c).IF c=Xv (gi F.IF c) from (QE _ _ c0 cF c0).trans (C' rfl)] at h0;have h0:(0:Int)<=-1:=h0;omega
 ·rename_i hg;have hg:Tz F c=false:=by simpa using hg
  refine⟨hO,Br1,λh0=>?_⟩;unfold Tz at hg;rw[Ih h0,Bool.true_and,H'] at hg;exact⟨by simpa using hg.1,by simpa using hg.2⟩
def zo3{K:Int}{W:Q7}(sw:SW K W)(hK:0<=K):∀c:Nat,c<=W.IF.length->∀d:Int,0<=d->d<(c:Int)->Dm (Xb W c) d
 |0,_=>λd a b=>by omega
 |c+1,hc=>λd d0 d1=>by
  obtain⟨s1,f1⟩:=Lf sw hK c Qo;obtain⟨o,dm⟩:=zfl s1 (c:=(c:Int)) Qo (by rw[f1.c];omega)
  by_cases h:d=(c:Int)
  ·subst h;exact dm
  ·exact(zo3 sw hK c Qo d d0 Qo).oth s1 o d0 (by rw[f1.c];omega) h
def zvk{K:Int}{W:Q7}(sw:SW K W)(hK:0<=K){d:Int}(d0:0<=d)(d1:d<(W.IF.length:Int)):Dm (Qf W) d:=by
 obtain⟨s1,o1⟩:=VY (F:=K) (K:=K+Qi) (sw.sf.mono (I2 _) (by simp only[Qi];omega)) (I2 _) W.IF.length (I7 _);obtain⟨s2,b2⟩:=Vd s1 8 (I7 _);exact zo3 s2.w (by simp only[Qi];omega) W.IF.length (by show W.IF.length<=(Y8 (Zr W W.IF.length) 8).IF.length;rw[b2.c,o1.c];exact I7 _) d d0 d1
structure zm1 (W:Q7) (t c:Int):Prop where
 t0:0<=t
 t1:t<12
 st:(Q8 W t).state=1
 R2:(Q8 W t).R2=c
 on:∀x∈QM W.IE (Q8 W t).II,(Qb W x c).on=true
def zu4{W:Q7}(ha:WA W){c:Int}(f:Nat):∀g:Int,Q6 W.IE g->(4-dep 3 W.IE g).toNat=f->(∀x∈QM W.IE g,(Qb W x c).on)->0<=Pb W g c->zm1 W (Pb W g c) c:=by
 induction f with
 |zero=>
  intro g hu hf;have:=Lv ha hu;omega
 |succ f ih=>
  intro g hu hf hp h;rw[HO ha hu] at h ⊢
  by_cases h1:QG W g c<0
  ·rw[C' h1] at h;omega
  ·rw[B' h1] at h ⊢
   by_cases h2:QG W g c<12
   ·rw[C' h2] at h ⊢
    have hm:Sf W g c (QG W g c).toNat:=by
     rcases Zl (Sf W g c) (S9 W c) 20 with ⟨a,_⟩|⟨_,_,a,_⟩
     ·unfold QG at h1;omega
     ·exact a
    rw[Ji Qo] at hm;unfold dU at hm;rw[show (((QG W g c).toNat:Nat):Int)=QG W g c by omega] at hm;simp only[A',Is] at hm;refine⟨h,h2,hm.1.1,hm.2,?_⟩;rw[show (Q8 W (QG W g c)).II=g from hm.1.2];exact hp
   ·rw[B' h2] at h ⊢;obtain⟨k1,k2,k3,k4⟩:=KJ ha hu (g:=g) (c:=c) Qo
    have hm:Sf W g c (QG W g c).toNat:=by
     rcases Zl (Sf W g c) (S9 W c) 20 with ⟨a,_⟩|⟨_,_,a,_⟩
     ·unfold QG at h1;omega
     ·exact a
    rw[show (QG W g c).toNat=12+(QG W g c-12).toNat by omega,J3] at hm;unfold WV at hm;rw[show (((QG W g c-12).toNat:Nat):Int)=QG W g c-12 by omega] at hm;simp only[A',Is] at hm;refine ih _ k1 Qo (λx hx=>?_) h;rw[Yg ha.tree k1 k2] at hx;rcases Ii.1 hx with e|e
    ·rw[e];exact hm.2
    ·rw[hm.1.2.2] at e;exact hp x e
def zvd{W:Q7}(ha:WA W){c:Int}(h12:(gi W.IF c).cur<12)(hcu:0<=(gi W.IF c).cur->(Q8 W (gi W.IF c).cur).R2=c/\Zq W (gi W.IF c).cur)(h:¬Qe W c<0):zm1 W (Qe W c) c:=by
 unfold Qe at h ⊢;split
 ·rename_i hc;obtain⟨h1,h2⟩:=hcu hc.1;unfold Zq Ut at h2;rw[A',List.all_eq_true,h1] at h2;exact⟨hc.1,h12,Iz h2.1,h1,h2.2⟩
 ·rename_i hc;rw[B' hc] at h;exact zu4 ha _ 0 ha.root rfl (λx hx=>by rw[show QM W.IE 0=[] from Zc _ _] at hx;cases hx) Qo
structure Ub (W W':Q7):Prop where
 n:W'.now=W.now
 t:W'.IJ=W.IJ
 s:∀i d:Int,(Qb W' i d).sum=(Qb W i d).sum
 g:∀i:Int,(gi W'.IE i).sum=(gi W.IE i).sum
 b:∀i:Int,(gi W'.IF i).busy=(gi W.IF i).busy
 i:∀i:Int,(gi W'.IF i).idle=(gi W.IF i).idle
 u:∀i:Int,(gi W'.IF i).up=(gi W.IF i).up
 r:∀i:Int,(gi W'.IF i).Wh=(gi W.IF i).Wh\/(gi W'.IF i).Wh=0
def Ub.refl(W:Q7):Ub W W:=⟨rfl,rfl,λ_ _=>rfl,λ_=>rfl,λ_=>rfl,λ_=>rfl,λ_=>rfl,λ_=>.inl rfl⟩
def Ub.trans{A B C:Q7}(h:Ub A B)(k:Ub B C):Ub A C:=
 ⟨k.n.trans h.n,k.t.trans h.t,λi d=>(k.s i d).trans (h.s i d),λi=>(k.g i).trans (h.g i),λi=>(k.b i).trans (h.b i),λi=>(k.i i).trans (h.i i),λi=>(k.u i).trans (h.u i),λi=>by
  rcases k.r i with e|e
  ·rcases h.r i with e2|e2
   ·exact .inl (e.trans e2)
   ·exact .inr (e.trans e2)
  ·exact .inr e⟩
def zmm(W:Q7){g c:Int}{s:KD}(h:s.sum=(Qb W g c).sum):Ub W (Rw W g c s):=
 ⟨rfl,rfl,λi d=>QQ (f:=λG:Zb=>(gi G.IH d).sum) W.IE g (x:={ gi W.IE g with IH:=(gi W.IE g).IH.set c.toNat s }) (QQ (f:=KD.sum) (gi W.IE g).IH c h d) i,λi=>QQ (f:=Zb.sum) W.IE g (x:={ gi W.IE g with IH:=(gi W.IE g).IH.set c.toNat s }) rfl i,λ_=>rfl,λ_=>rfl,λ_=>rfl,λ_=>.inl rfl⟩
def zzr(W:Q7)(g:Int)(b:Ue):Ub W (RZ W g b):=
 ⟨rfl,rfl,λi d=>QQ (f:=λG:Zb=>(gi G.IH d).sum) W.IE g (x:={ gi W.IE g with IM:=b }) rfl i,λi=>QQ (f:=Zb.sum) W.IE g (x:={ gi W.IE g with IM:=b }) rfl i,λ_=>rfl,λ_=>rfl,λ_=>rfl,λ_=>.inl rfl⟩
def zuj{α:Type}[Inhabited α](l:List α)(k:Int)(x:α)(i:Int):gi (l.set k.toNat x) i=gi l i\/gi (l.set k.toNat x) i=x:=by
 unfold gi;simp only[List.getD_eq_getElem?_getD,List.getElem?_set];split
 ·split
  ·exact .inr rfl
  ·rename_i e hl;refine .inl ?_;rw[show l[i.toNat]? = none from List.getElem?_eq_none_iff.2 Qo]
 ·exact .inl rfl
def HY(W:Q7)(c:Int):Ub W (Rb W c):=
 ⟨rfl,rfl,λ_ _=>rfl,λ_=>rfl,λi=>QQ (f:=PZ.busy) W.IF c (x:=Xv (gi W.IF c)) rfl i,λi=>QQ (f:=PZ.idle) W.IF c (x:=Xv (gi W.IF c)) rfl i,λi=>QQ (f:=PZ.up) W.IF c (x:=Xv (gi W.IF c)) rfl i,λi=>by
  rcases zuj W.IF c (Xv (gi W.IF c)) i with e|e
  ·exact .inl (by show (gi (W.IF.set c.toNat (Xv (gi W.IF c))) i).Wh=_;rw[e])
  ·exact .inr (by show (gi (W.IF.set c.toNat (Xv (gi W.IF c))) i).Wh=0;rw[e];rfl)⟩
def Aa(W:Q7)(c d:Int):∀k:Nat,Ub W (Z4 W c d k)
 |0=>Ub.refl _
 |k+1=>by
  simp only[Z4];split
  ·exact(Aa W c d k).trans (zmm _ rfl)
  ·exact Aa W c d k
def EG(W:Q7)(c:Int):∀j:Nat,Ub W (ZP W c j)
 |0=>Ub.refl _
 |j+1=>(EG W c j).trans (Aa _ _ _ _)
def zfp(W:Q7):∀c:Nat,Ub W (Zr W c)
 |0=>Ub.refl _
 |c+1=>(zfp W c).trans (EG (Zr W c) (c:Int) 3)
def A8(W:Q7)(k:Int):∀c:Nat,Ub W (Y5 W k c)
 |0=>Ub.refl _
 |c+1=>by
  simp only[Y5];split
  ·exact(A8 W k c).trans (zzr _ _ _)
  ·exact A8 W k c
def A9(W:Q7):∀k:Nat,Ub W (Y8 W k)
 |0=>Ub.refl _
 |k+1=>by
  simp only[Y8];split
  ·exact(A9 W k).trans (A8 _ _ _)
  ·exact A9 W k
def EF(W:Q7)(c:Int):∀k:Nat,Ub W (QD W c k)
 |0=>Ub.refl _
 |k+1=>by
  simp only[QD];split
  ·exact(EF W c k).trans (zmm _ rfl)
  ·exact EF W c k
def zvr(W:Q7)(c:Int):Ub W (Xc W c):=by
 have h:=(EG W c 3).trans (EF (Qw W c) c 8);unfold Xc;split
 ·exact h.trans (HY _ _)
 ·exact h
def zj0(W:Q7):∀c:Nat,Ub W (Xb W c)
 |0=>Ub.refl _
 |c+1=>(zj0 W c).trans (zvr (Xb W c) (c:Int))
def Ux(W:Q7):Ub W (Qf W):=((zfp W W.IF.length).trans (A9 (Zr W W.IF.length) 8)).trans (zj0 (Mk (Zr W W.IF.length)) W.IF.length)
structure RB (S:Int) (W:Q7):Prop where
 n:W.now<=50000000000000000
 t:∀t:Int,0<=t->t<12->0<=(Q8 W t).sum/\(Q8 W t).sum<=S/\0<=(Q8 W t).IW/\(Q8 W t).IW<=S
 s:∀k c:Int,Q6 W.IE k->0<=c->c<(W.IF.length:Int)->0<=(Qb W k c).sum/\(Qb W k c).sum<=S
 g:∀k:Int,Q6 W.IE k->0<=(gi W.IE k).sum/\(gi W.IE k).sum<=S
 c:∀c:Int,0<=c->c<(W.IF.length:Int)->0<=(gi W.IF c).busy/\(gi W.IF c).busy<=S/\0<=(gi W.IF c).idle/\(gi W.IF c).idle<=50000000000000000/\0<=(gi W.IF c).Wh/\(gi W.IF c).Wh<=149
def RB.sum{S:Int}{W W':Q7}(h:RB S W)(k:Ub W W')(hT:QZ W.IE W'.IE)(hl:W'.IF.length=W.IF.length):RB S W':=by
 refine⟨by rw[k.n];exact h.n,λt a b=>by rw[Xf k.t];exact h.t t a b,λi c u a b=>?_,λi u=>?_,λc a b=>?_⟩
 ·rw[hT.cD] at u;rw[hl] at b;rw[k.s];exact h.s i c u a b
 ·rw[hT.cD] at u;rw[k.g];exact h.g i u
 ·rw[hl] at b;have:=h.c c a b;rw[k.b,k.i];refine⟨this.1,this.2.1,this.2.2.1,this.2.2.2.1,?_⟩;rcases k.r c with e|e
  ·rw[e];exact this.2.2.2.2
  ·rw[e];exact⟨Qo,Qo⟩
def z6b{W:Q7}(wp:XV W)(r:G7 W):RB Qn W:=by
 have hl:=wp.a.gl;have ht:=wp.a.t;refine⟨r.n,λt a b=>?_,λk c u a b=>?_,λk u=>?_,λc a b=>?_⟩
 ·have h:=r.t t a Qo;rcases wp.t t a b with hz|⟨_,hx⟩
  ·rw[hz.2];decide
  ·exact⟨(Xg.1 hx.s).1,h.2.1,(Xg.1 hx.u).1,h.2.2⟩
 ·obtain⟨u0,u1,_⟩:=Q5.1 u;have hs:=wp.a.sl u;exact⟨(Xg.1 (ED wp u a b).s).1,(r.s k c u0 u1 a Qo).2.2⟩
 ·obtain⟨u0,u1,hg⟩:=wp.a.u u;exact⟨(Xg.1 hg.s).1,r.g k u0 Qo⟩
 ·have hc:=wp.c c a b;have hr:=r.c c a b;refine⟨(Xg.1 hc.b).1,hr.1,(Xg.1 hc.i).1,hr.2,?_⟩
  by_cases h:(gi W.IF c).cur<0
  ·rw[hc.no h];decide
  ·have:=hc.yes Qo;omega
def zzv{b:Ue}(h:OY b){c:Int}(c0:0<=c)(c1:c<(b.locals.length:Int)):OY (ZQ b c).1/\(ZQ b c).1.locals.length=b.locals.length/\(ZQ b c).1.I'=b.I':=by
 unfold ZQ;split
 ·exact⟨h,rfl,rfl⟩
 ·rename_i hn;have hm:=za7 h.p1;have he:=h.each c c0 c1;have hs:=Be b.locals c (ZK 20 b.RU) c0 c1 b.locals.length;rw[C' c1] at hs;have p2:=h.p2;have su:=h.sum;have dl:=h.dl;refine⟨⟨h.q1,h.q2,?_,?_,?_,?_,?_,h.s1,h.s2,λd d0 d1=>?_,?_⟩,Qs,rfl⟩
  ·simp only[E'];exact h.l1
  ·simp only[E'];exact h.l2
  ·simp only[E'];exact h.dl
  ·show 0<=b.RU-ZK 20 b.RU;omega
  ·show b.RU-ZK 20 b.RU<=b.I';omega
  ·simp only[E'] at d1;have hd:=h.each d d0 d1;show 0<=gi (b.locals.set c.toNat (ZK 20 b.RU)) d/\gi (b.locals.set c.toNat (ZK 20 b.RU)) d<=b.I'/\(gi (b.RE.set c.toNat (ZK 20 b.RU==0)) d=true->gi (b.locals.set c.toNat (ZK 20 b.RU)) d=0/\b.RU-ZK 20 b.RU=0);rw[QE _ _ c0 c1 d0,QE _ _ c0 Qo d0];have hz:ZK 20 b.RU=0->b.RU=0:=λe=>by unfold ZK at e;split at e <;> omega
   by_cases e:c=d
   ·subst e;rw[C' rfl,C' rfl];refine⟨hm.1,Qo,λhd0=>?_⟩;have e0:ZK 20 b.RU=0:=Iz hd0;have:=hz e0;exact⟨e0,Qo⟩
   ·rw[B' e,B' e];refine⟨hd.1,hd.2.1,λhd0=>?_⟩;have:=hd.2.2 hd0;exact⟨this.1,Qo⟩
  ·show b.RU-ZK 20 b.RU+b.SB+Vi (b.locals.set c.toNat (ZK 20 b.RU)) (b.locals.set c.toNat (ZK 20 b.RU)).length=b.I';rw[E',hs];omega
def zvp{b:Ue}(h:OY b){c n:Int}(c0:0<=c)(c1:c<(b.locals.length:Int)):OY (XG b c n).1/\(XG b c n).1.locals.length=b.locals.length/\(XG b c n).1.I'=b.I':=by
 unfold XG;split
 ·exact⟨h,rfl,rfl⟩
 ·rename_i hn;have hs:=Be b.locals c (gi b.locals c-n) c0 c1 b.locals.length;rw[C' c1] at hs;have hnn:=(zmk (λd d0 d1=>(h.each d d0 d1).1) c0 b.locals.length (I7 _)).2 c1;have p1:=h.p1;have su:=h.sum;have s1:=h.s1;have dl:=h.dl;have hn1:¬n<1:=λe=>hn (.inl e)
  have hn2:¬n>gi b.locals c:=λe=>hn (.inr e)
  refine⟨⟨h.q1,h.q2,?_,?_,?_,h.p1,h.p2,?_,?_,λd d0 d1=>?_,?_⟩,Qs,rfl⟩
  ·simp only[E'];exact h.l1
  ·simp only[E'];exact h.l2
  ·simp only[E'];exact h.dl
  ·show 0<=b.SB+n;omega
  ·show b.SB+n<=b.I';omega
  ·simp only[E'] at d1;have hd:=h.each d d0 d1;show 0<=gi (b.locals.set c.toNat (gi b.locals c-n)) d/\gi (b.locals.set c.toNat (gi b.locals c-n)) d<=b.I'/\(gi b.RE d=true->gi (b.locals.set c.toNat (gi b.locals c-n)) d=0/\b.RU=0);rw[QE _ _ c0 c1 d0]
   by_cases e:c=d
   ·subst e;rw[C' rfl];exact⟨Qo,Qo,λhd0=>by have:=(hd.2.2 hd0).1;omega⟩
   ·rw[B' e];exact hd
  ·show b.RU+(b.SB+n)+Vi (b.locals.set c.toNat (gi b.locals c-n)) (b.locals.set c.toNat (gi b.locals c-n)).length=b.I';rw[E',hs];omega
def zg6(b:Ue)(c:Int):Nat->Nat
 |0=>0
 |d+1=>zg6 b c d+if (d:Int)≠c/\gi b.locals (d:Int)>0 then 1 else 0
def zrr(b:Ue)(c:Int):Nat:=if gi b.RE c=true then 0 else 1
def Jk(b:Ue)(c:Int):Nat:=9*zg6 b c 4+zrr b c
def zsg(b:Ue)(c:Int):∀n:Nat,zg6 b c n<=n
 |0=>I7 _
 |n+1=>by
  have:=zsg b c n;simp only[zg6]
  split <;> omega
def z16(b:Ue)(c:Int):Jk b c<=37:=by
 have:=zsg b c 4;unfold Jk zrr
 split <;> omega
def zig(W:Q7)(c:Int):Nat->Nat
 |0=>0
 |k+1=>zig W c k+Jk (gi W.IE (k:Int)).IM c
def Gw(W:Q7)(c:Int):Nat:=zig W c 8
def HR{W W':Q7}{c:Int}(h:∀k:Nat,k<8->Jk (gi W'.IE (k:Int)).IM c<=Jk (gi W.IE (k:Int)).IM c):∀k:Nat,k<=8->zig W' c k<=zig W c k
 |0,_=>I7 _
 |k+1,hk=>by
  have:=HR h k Qo;have:=h k Qo;simp only[zig];omega
def zs3{W W':Q7}{c:Int}(h:∀k:Nat,k<8->Jk (gi W'.IE (k:Int)).IM c<=Jk (gi W.IE (k:Int)).IM c){j:Nat}(hj:Jk (gi W'.IE (j:Int)).IM c<Jk (gi W.IE (j:Int)).IM c):∀k:Nat,j<k->k<=8->zig W' c k<zig W c k
 |0,h0,_=>Ir h0 (Nat.not_lt_zero j)
 |k+1,jD,hk=>by
  have h1:=HR h k Qo;have h2:=h k Qo;simp only[zig]
  by_cases e:j=k
  ·subst e;omega
  ·have:=zs3 h hj k Qo Qo;omega
def z18(W:Q7)(c:Int):Gw W c<=296:=by
 have key:∀k:Nat,zig W c k<=37*k:=by
  intro k
  induction k with
  |zero=>exact I7 _
  |succ k ih=>
   have:=z16 (gi W.IE (k:Int)).IM c;simp only[zig];omega
 exact key 8
def HK{b b':Ue}{c:Int}(h:∀d:Nat,(d:Int)≠c->gi b'.locals (d:Int)=gi b.locals (d:Int)):∀n:Nat,zg6 b' c n=zg6 b c n
 |0=>rfl
 |n+1=>by
  simp only[zg6];rw[HK h n]
  by_cases e:(n:Int)=c
  ·simp[e]
  ·rw[h n e]
end Go.Proofs.YtjinkcmkgnofjaaGreatDoor
