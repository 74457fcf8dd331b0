/- Part 13 of what the law FnParts needs. -/
import Derived.Test.YtjinkcmkgnofjaaGreatDoorFnPartsPl
import Derived.Shelf.Abstract
set_option linter.all false
set_option maxRecDepth 100000
set_option maxHeartbeats 8000000
namespace Go.Proofs.YtjinkcmkgnofjaaGreatDoor
open Go.RowKit
def z5w(W:Q7)(a b:Int):Bool:=decide (B1 W a>B1 W b)
def Kq(W:Q7)(c m:Int):Nat->Int
 |0 => -1
 |k+1=>if ((Zq m (k:Int)&&zty W (k:Int) c)&&(decide (Kq W c m k<0)||z5w W (k:Int) (Kq W c m k)))=true then (k:Int) else Kq W c m k
def zw2{W:Q7}{c m:Int}{k:Nat}(h:((Zq m (k:Int)&&zty W (k:Int) c)&&(decide (Kq W c m k<0)||z5w W (k:Int) (Kq W c m k)))):Kq W c m (k+1)=(k:Int):=C' h
def zr8{W:Q7}{c m:Int}{k:Nat}(h:¬((Zq m (k:Int)&&zty W (k:Int) c)&&(decide (Kq W c m k<0)||z5w W (k:Int) (Kq W c m k)))):Kq W c m (k+1)=Kq W c m k:=B' h
def z0r{p:Nat->Bool}{n:Nat}(h:p n=false):O1 p (n+1)=O1 p n:=by simp[O1,h]
def zcm(W:Q7)(c m:Int):∀k:Nat,-1<=Kq W c m k/\Kq W c m k<k
 |0=>by simp[Kq]
 |k+1=>by
  have:=zcm W c m k;simp only[Kq]
  split <;> omega
noncomputable def P5(W:Q7)(c lv:Int):Int:=Kq W c (z6w (W.IF.length:Int) c lv) W.IF.length
def z31{W:Q7}(wp:XQ W){b c:Int}(h:zty W b c):0<=b/\b<(W.IF.length:Int)/\b≠c:=by
 obtain⟨t,ht,hp⟩:=LB.1 h;simp only[A',Is] at hp;obtain⟨h1,h2⟩:=Ar hp.2;have:=wp.li (t:=(t:Int)) Qo (by have:=wp.a.t;omega) h1;rw[hp.1] at this h2;exact⟨this.2.1,this.2.2,h2⟩
section
variable {W:Q7}{m:MW}{w:Wo}{bs:List Nat}{p:OA}
def FU{s c:Int}(h:XV bs w W m)(wp:XQ W)(c0:0<=c)(c1:c<(W.IF.length:Int)):PX bs VR #[.agg (Qc W m).toArray,I s,I c] w (I (Kq W c s W.IF.length)):=
 Bj _ _ _ _ _ _ _ _ _ _ s c λwr hx=>by
  have h:=(h.ext hx).less (cs:=[]) Qs;have h4:=wp.a.c2;have jF:=wp.a.t;intro _ _;refine Pc W.IF.length 0 rfl (λx k=>k<=W.IF.length/\x=Kq W c s k) ⟨Ic _,rfl⟩ λx k ⟨hk,Rk⟩=>⟨λIW=>?_,λRM=>?_⟩
  ·subst Rk;have IW:=Ot IW;have hr:=zcm W c s k;refine⟨_,λ_=>Yu,_,λ_ _=>TI h wp,_,λ_ _=>TI h wp,λg=>?_,λg=>?_⟩
   ·refine⟨⟨Qo,Qo⟩,QN Qo ⟨Qo,?_⟩⟩;rw[zr8];intro hc;simp only[A'] at hc;have cU:=(z31 wp hc.1.2).2.2;rw[beq_eq_false_iff_ne.2 cU,hc.1.1] at g;simp only[Bool.not_true,Bool.or_self,Bool.false_or,A',Ij] at g;unfold z5w at hc;simp only[Iu,Ij] at hc;omega
   ·simp only[H',I6] at g;obtain⟨⟨g1,g2⟩,g3⟩:=g
    have hb:(decide (Kq W c s k<0)||z5w W (k:Int) (Kq W c s k)):=by
     unfold z5w;simp only[Iu,Ij];simp only[Bool.and_eq_false_iff,decide_eq_false_iff_not] at g3;omega
    refine Pc 12 0 rfl (λy j=>j<=12/\y=if O1 (λt=>((Q8 W (t:Int)).R1==(k:Int))&&V4 W (t:Int) c) j=true then (k:Int) else Kq W c s k) ⟨Ic _,rfl⟩ λy j ⟨hj,hy⟩=>⟨λRh=>?_,λaX=>?_⟩
    ·have Rh:=Ot Rh;have vC:j<12:=Qo;refine⟨h.t.ix QT Qo Rh,_,h.t.f Qo Rh (j:=2) rfl,_,λ_=>Gn h wp Qo Rh c0 c1,λg4=>?_,λg4=>?_⟩
     ·have g4:(((Q8 W (j:Int)).R1==(k:Int))&&V4 W (j:Int) c):=g4;refine⟨⟨Qo,Qo⟩,QN vC ⟨Qo,?_⟩⟩;rw[C'];simp only[O1,Iu];exact .inr g4
     ·have g4:(((Q8 W (j:Int)).R1==(k:Int))&&V4 W (j:Int) c)=false:=g4;refine⟨⟨Qo,Qo⟩,QN vC ⟨Qo,?_⟩⟩;rw[hy,z0r (p:=λt=>((Q8 W (t:Int)).R1==(k:Int))&&V4 W (t:Int) c) g4]
    ·have aX:=Ou aX;have:j=12:=Qo;subst this;refine⟨⟨Qo,Qo⟩,QN Qo ⟨Qo,?_⟩⟩;rw[hy];show (if zty W (k:Int) c=true then (k:Int) else Kq W c s k)=_
     cases ha:zty W (k:Int) c with
     |true=>rw[zw2 (by rw[g2,ha,hb];rfl),C' rfl]
     |false=>rw[zr8 (by rw[ha];simp),B' Qd]
  ·have RM:=Ou RM;have:k=W.IF.length:=Qo;subst this;rw[Rk]
end
def zmv(cs:List PP){c:Int}(c0:0<=c):∀k:Nat,k<=4->c<(k:Int)->(gi cs c).up->Zq (Vm cs k) c=true
 |0,_,h,_=>by omega
 |k+1,hk,h,hu=>by
  have hl:=D4 cs k Qo
  have hb:Uh k<=8:=by
   have:k=0\/k=1\/k=2\/k=3:=Qo;rcases this with rfl|rfl|rfl|rfl <;> decide
  have key:=znt ⟨k,Qo⟩ ⟨(Vm cs k).toNat,Qo⟩ ⟨c.toNat,Qo⟩;rw[show ((⟨(Vm cs k).toNat,Qo⟩:Fin 8).val:Int)=Vm cs k by show (((Vm cs k).toNat:Nat):Int)=Vm cs k;omega,show ((⟨c.toNat,Qo⟩:Fin 4).val:Int)=c by show ((c.toNat:Nat):Int)=c;omega] at key;simp only[Vm]
  by_cases e:c=(k:Int)
  ·subst e;rw[C' hu,key hl.2];simp
  ·have ih:=zmv cs c0 k Qo Qo hu;split
   ·rw[key hl.2,ih];simp
   ·exact ih
def EQ{cs:List PP}(h4:cs.length<=4){c:Int}(c0:0<=c)(c1:c<(cs.length:Int))(hu:(gi cs c).up):JG cs≠0:=λe=>by
 have h:=zmv cs c0 cs.length h4 c1 hu;rw[show Vm cs cs.length=0 from e] at h;have hr:=MH h;have:c=0\/c=1\/c=2\/c=3:=Qo;rcases this with rfl|rfl|rfl|rfl <;> exact Ir h Qd
def zys{m c:Int}(c0:0<=c)(c4:c<4)(h:Zq m c)(hn:∀j:Int,0<=j->j<4->j≠c->Zq m j=false):Ev m 4=1:=by
 have h0:=hn 0 Qd Qd;have h1:=hn 1 Qd Qd;have h2:=hn 2 Qd Qd;have h3:=hn 3 Qd Qd;have i0:((0:Nat):Int)=0:=rfl;have i1:((1:Nat):Int)=1:=rfl;have i2:((2:Nat):Int)=2:=rfl;have i3:((3:Nat):Int)=3:=rfl;have:c=0\/c=1\/c=2\/c=3:=Qo;simp only[Ev,i0,i1,i2,i3];rcases this with rfl|rfl|rfl|rfl
 ·have e1:=h1 Qd;have e2:=h2 Qd;have e3:=h3 Qd;simp[h,e1,e2,e3]
 ·have e1:=h0 Qd;have e2:=h2 Qd;have e3:=h3 Qd;simp[h,e1,e2,e3]
 ·have e1:=h0 Qd;have e2:=h1 Qd;have e3:=h3 Qd;simp[h,e1,e2,e3]
 ·have e1:=h0 Qd;have e2:=h1 Qd;have e3:=h2 Qd;simp[h,e1,e2,e3]
def zv4{cs:List PP}(h4:cs.length<=4){c:Int}(c0:0<=c)(c1:c<(cs.length:Int))(hu:(gi cs c).up)(hn:Ev (JG cs) 4≠1):∃j:Int,0<=j/\j<(cs.length:Int)/\j≠c/\(gi cs j).up:=by
 refine Classical.byContradiction λcU=>hn (zys c0 Qo (zmv cs c0 cs.length h4 c1 hu) λj j0 j4 hj=>?_)
 cases h:Zq (JG cs) j with
 |false=>rfl
 |true=>
  obtain⟨a,b⟩:=zmu cs (c:=j) cs.length h4 h;exact Ir ⟨j,j0,a,hj,b⟩ cU
def SW.RO{K:Int}{W:Q7}(h:SW K W){c:Int}(c0:0<=c)(c1:c<(W.IF.length:Int)){x:PP}(hu:JG (W.IF.set c.toNat x)≠0)(h1 : -1<=x.cur)(h2:x.cur<12):SW K (RO W c x):=by
 have hl:(W.IF.set c.toNat x).length=W.IF.length:=E';have hg:∀d:Int,0<=d->gi (W.IF.set c.toNat x) d=if c=d then x else gi W.IF d:=λd d0=>Qx _ _ c0 c1 d0
 refine⟨h.a.cp hl hu,λt a b n=>?_,h.tv,λk d u a b=>?_,λd a b=>?_⟩
 ·show _/\_/\_<(((W.IF.set c.toNat x).length:Nat):Int);rw[hl];exact h.t t a b n
 ·have b:d<(((W.IF.set c.toNat x).length:Nat):Int):=b;rw[hl] at b;exact h.s k d u a b
 ·have b:d<(((W.IF.set c.toNat x).length:Nat):Int):=b;rw[hl] at b;show _<=(gi (W.IF.set c.toNat x) d).cur/\(gi (W.IF.set c.toNat x) d).cur<12;rw[hg _ a];split
  ·exact⟨h1,h2⟩
  ·exact h.cu d a b
noncomputable def V6(W:Q7)(c:Int)(up:Bool)(last:Int):Int:=if Xd W c=false then 1 else if (gi W.IF c).up≠up then 6 else if last≠0 then last else if QO W=false then 10 else 0
def zkx{W:Q7}{c:Int}{up:Bool}{last:Int}(h:V6 W c up last=0):Xd W c/\(gi W.IF c).up=up/\last=0/\QO W:=by
 unfold V6 at h
 split at h
 ·cases h
 ·rename_i h1
  split at h
  ·cases h
  ·rename_i h2
   split at h
   ·rename_i h3;exact Ir h h3
   ·rename_i h3
    split at h
    ·cases h
    ·rename_i h4;exact⟨by simpa using h1,by simpa using h2,Qo,by simpa using h4⟩
def HL{W:Q7}{c:Int}{up:Bool}{last:Int}(h1:Xd W c)(h2:(gi W.IF c).up=up)(h3:last=0):V6 W c up last=if QO W=false then 10 else 0:=by
 unfold V6;rw[B' (by rw[h1];decide),B' (by simpa using h2),B' (by simpa using h3)]
def Lr(x:PP)(b:Bool):PP:={ x with up:=b }
def z5x(W:Q7)(c:Int):Q7:=Qb (G0 (RO W c (Lr (gi W.IF c) true)))
def GC(W:Q7):Int:=if Ev (JG W.IF) 4=1 then 5 else 0
def zu9(W:Q7)(c:Int):Q7:=Qb (G0 (Rc (RO W c (Lr (gi W.IF c) false)) c))
def zy4{W:Q7}{c:Int}(hW:Qr W)(hb:V6 W c false 0=0):0<=c/\c<(W.IF.length:Int)/\SF Ql (Ql+Qh) W/\SF Ql (Ql+Qh) (RO W c (Lr (gi W.IF c) true)):=by
 obtain⟨h1,h2,_,h4⟩:=zkx hb;have wp:=Qm.1 hW;have sw:=MS wp (Qm.1 h4);obtain⟨c0,c1⟩:=UF h1;have vY:=sw.cu c c0 c1;have hl:(W.IF.set c.toNat (Lr (gi W.IF c) true)).length=W.IF.length:=E';have hc2:=wp.a.c2;exact⟨c0,c1,Lo sw,Lo (sw.RO c0 c1 (x:=Lr (gi W.IF c) true) (EQ Qo c0 Qo (by rw[Qx _ _ c0 c1 c0,C' rfl];rfl)) vY.1 vY.2)⟩
def zqx{W:Q7}{c:Int}(hW:Qr W)(hb:V6 W c true (GC W)=0):0<=c/\c<(W.IF.length:Int)/\SF Ql (Ql+Qh) W/\SF Ql (Ql+Qh) (RO W c (Lr (gi W.IF c) false)):=by
 obtain⟨h1,h2,h3,h4⟩:=zkx hb;have wp:=Qm.1 hW;have sw:=MS wp (Qm.1 h4);obtain⟨c0,c1⟩:=UF h1;have vY:=sw.cu c c0 c1;have hl:(W.IF.set c.toNat (Lr (gi W.IF c) false)).length=W.IF.length:=E';have hc2:=wp.a.c2;have hn:Ev (JG W.IF) 4≠1:=λe=>by unfold GC at h3;rw[C' e] at h3;cases h3
 obtain⟨j,j0,j1,jc,hj⟩:=zv4 hc2 c0 c1 h2 hn;exact⟨c0,c1,Lo sw,Lo (sw.RO c0 c1 (x:=Lr (gi W.IF c) false) (EQ Qo j0 Qo (by rw[Qx _ _ c0 c1 j0,B' λe=>jc e.symm];exact hj)) vY.1 vY.2)⟩
def FF(W:Q7)(c:Int)(x:PP)(m:MW):Qc (RO W c x) m=Qc W m:=by simp[Qc,RO]
section
variable {W W':Q7}{m:MW}{w:Wo}
def zlp{c:Int}(h:XV [] w W m)(hl:VB W) :
  Cz Kv #[.agg (Qc W m).toArray,I c] w λe w'=>∃v,e=.returned v/\QX (Yz W (V6 W c false 0) (z5x W c)) w v w':=by
 refine zk5 _ _ _ _ _ _ _ _ _ _ c (R:=λv w'=>QX (Yz W (V6 W c false 0) (z5x W c)) w v w') ?_;intro y hy y1 cW wr Rk V';have hm9:=Y5;have hlc:=hl.c;refine I3 (Zn (h.ext Rk) hl) ?_;rintro e wv (⟨hW,he,SQ⟩|⟨hW,m',he,hM,SQ⟩)
 ·exact⟨_,_,_,_,_,_,_,_,_,_,_,he,Qi SQ V',λg=>by simp at g,true,λg=>by simp at g,λ_ R5 Rl=>QX.bad hW ((Rk.trans SQ).fresh Rl λz hm=>.inl (YM hy cW z hm)),λg=>by simp at g⟩
 have hK:=Wk.begin hy cW Rk V' hM SQ;have hr:=hK.rd;have wp:=Qm.1 hW;have hm0:=XX;refine⟨_,_,_,_,_,_,_,_,_,_,_,he,Qi SQ V',λ_=>⟨Qo,Qo⟩,Xd W c,λ_=>Qq,λg R5 Rl=>?_,λg=>?_⟩
 ·have g:Xd W c=false:=by
   cases hc:Xd W c with
   |false=>rfl
   |true=>rw[hc] at g;split at g <;> simp at g
  have hb:V6 W c false 0=1:=by unfold V6;rw[C' g]
  exact QX.no hW (by rw[hb];decide) (hK.step Rl) hb
 have g:Xd W c:=by
  cases hc:Xd W c with
  |true=>rfl
  |false=>rw[hc] at g;simp at g
 obtain⟨c0,c1⟩:=UF g;refine⟨hr.c.ix Y1 c0 c1,_,hr.c.f c0 c1 (j:=0) rfl,λg2 R6 Rl=>?_,λg2=>⟨λg3 RD Rl=>?_,λg3=>?_⟩⟩
 ·have hb:V6 W c false 0=6:=by unfold V6;rw[B' (by rw[g];decide),C' (by rw[g2];decide)]
  exact QX.no hW (by rw[hb];decide) (hK.step Rl) hb
 ·have bM:¬QO W:=λhr=>by rw[C' hr] at g3;simp at g3
  have hb:V6 W c false 0=10:=by rw[HL g g2 rfl,C' (by simpa using bM)]
  rw[B' bM];exact QX.no hW (by rw[hb];decide) (hK.step Rl) hb
 have bM:QO W:=Iq λhr=>by rw[B' hr] at g3;simp at g3
 have hb:V6 W c false 0=0:=by rw[HL g g2 rfl,B' (by rw[bM];decide)]
 obtain⟨_,_,_,sf⟩:=zy4 hW hb;have SS:Wk 8 [y,y1] w (Rw wv m'.cO (Int.toNat c*5+0) [.bool true]) (RO W c (Lr (gi W.IF c) true)) m':=hK.Rw (hK.own.AF2 c0 c1 (j:=0) (vs:=[.bool true]) (x:=Lr (gi W.IF c) true) rfl Qs) Dz;refine⟨hr.c.ix Y1 c0 c1,zpk hK.own hK.nb c0 c1 Qd,λRE T' dT=>?_⟩;have e5:Qc (RO W c (Lr (gi W.IF c) true)) m'=Qc W m':=FF _ _ _ _;have hE:z5x W c=Qb (G0 (RO W c (Lr (gi W.IF c) true))):=rfl;rw[hE];generalize RO W c (Lr (gi W.IF c) true)=V at SS sf e5;have eH:=SS.step T';have RA:=JD eH.own sf (I2 _) (by simp only[Qh];decide);rw[e5] at RA;refine I3 RA ?_;rintro e1 Rb ⟨kB,eD⟩;refine⟨_,_,_,_,_,_,_,_,_,_,kB,eH.kept eD dT,λRQ Su fK=>?_⟩;have dZ:=(eH.Ss eD dT).step Su;have aT:=QA dZ.own (G1 sf (I2 _)).1.w (by simp only[Qh];decide) (by simp only[Qh];decide) dZ.base;rw[FG sf (I2 _),e5] at aT;refine I3 aT ?_;rintro e2 RI ⟨m2,bH,iD⟩;exact⟨_,_,_,_,_,_,_,_,_,_,bH,dZ.kept iD fK,λSj bE=>QX.ok hW hb ((dZ.Ss iD fK).step bE)⟩
def zhj{c:Int}(h:XV [] w W m)(hl:VB W) :
  Cz Mq #[.agg (Qc W m).toArray,I c] w λe w'=>∃v,e=.returned v/\QX (Yz W (V6 W c true (GC W)) (zu9 W c)) w v w':=by
 refine zg4 _ _ _ _ _ _ _ _ _ _ c (R:=λv w'=>QX (Yz W (V6 W c true (GC W)) (zu9 W c)) w v w') ?_;intro y hy y1 cW wr Rk V';have hm0:=XX;have hlc:=hl.c;refine I3 (Zn (h.ext Rk) hl) ?_;rintro e wv (⟨hW,he,SQ⟩|⟨hW,m',he,hM,SQ⟩)
 ·exact⟨_,_,_,_,_,_,_,_,_,_,_,he,Qi SQ V',λg=>by simp at g,true,λg=>by simp at g,λ_ R5 Rl=>QX.bad hW ((Rk.trans SQ).fresh Rl λz hm=>.inl (YM hy cW z hm)),λg=>by simp at g⟩
 have hK:=Wk.begin hy cW Rk V' hM SQ;have hr:=hK.rd;have wp:=Qm.1 hW;refine⟨_,_,_,_,_,_,_,_,_,_,_,he,Qi SQ V',λ_=>⟨Qo,Qo⟩,Xd W c,λ_=>Qq,λg R5 Rl=>?_,λg=>?_⟩
 ·have g:Xd W c=false:=by
   cases hc:Xd W c with
   |false=>rfl
   |true=>rw[hc] at g;split at g <;> simp at g
  have hb:V6 W c true (GC W)=1:=by unfold V6;rw[C' g]
  exact QX.no hW (by rw[hb];decide) (hK.step Rl) hb
 have g:Xd W c:=by
  cases hc:Xd W c with
  |true=>rfl
  |false=>rw[hc] at g;simp at g
 obtain⟨c0,c1⟩:=UF g;refine⟨hr.c.ix Y1 c0 c1,_,hr.c.f c0 c1 (j:=0) rfl,λg2 R6 Rl=>?_,λg2=>⟨_,LL hr wp.a.c2,_,NC,λg3 RD Rl=>?_,λg3=>⟨λg4 RE Rl=>?_,λg4=>?_⟩⟩⟩
 ·have g2:(gi W.IF c).up=false:=by simpa using g2
  have hb:V6 W c true (GC W)=6:=by unfold V6;rw[B' (by rw[g];decide),C' (by rw[g2];decide)]
  exact QX.no hW (by rw[hb];decide) (hK.step Rl) hb
 ·have g2:(gi W.IF c).up:=by simpa using g2
  have hL:GC W=5:=by unfold GC;rw[C' (by simpa using g3)]
  have hb:V6 W c true (GC W)=5:=by unfold V6;rw[B' (by rw[g];decide),B' (by rw[g2];decide),hL,C' Qd]
  exact QX.no hW (by rw[hb];decide) (hK.step Rl) hb
 ·have g2:(gi W.IF c).up:=by simpa using g2
  have hL:GC W=0:=by unfold GC;rw[B' (by simpa using g3)]
  have bM:¬QO W:=λhr=>by rw[C' hr] at g4;simp at g4
  have hb:V6 W c true (GC W)=10:=by rw[HL g g2 hL,C' (by simpa using bM)]
  rw[B' bM];exact QX.no hW (by rw[hb];decide) (hK.step Rl) hb
 have g2:(gi W.IF c).up:=by simpa using g2
 have hL:GC W=0:=by unfold GC;rw[B' (by simpa using g3)]
 have bM:QO W:=Iq λhr=>by rw[B' hr] at g4;simp at g4
 have hb:V6 W c true (GC W)=0:=by rw[HL g g2 hL,B' (by rw[bM];decide)]
 obtain⟨_,_,_,sf⟩:=zqx hW hb;have SS:Wk 8 [y,y1] w (Rw wv m'.cO (Int.toNat c*5+0) [.bool false]) (RO W c (Lr (gi W.IF c) false)) m':=hK.Rw (hK.own.AF2 c0 c1 (j:=0) (vs:=[.bool false]) (x:=Lr (gi W.IF c) false) rfl Qs) Dz;refine⟨hr.c.ix Y1 c0 c1,zpk hK.own hK.nb c0 c1 Qd,λRQ Su fK=>?_⟩;have e5:Qc (RO W c (Lr (gi W.IF c) false)) m'=Qc W m':=FF _ _ _ _;have hlV:(RO W c (Lr (gi W.IF c) false)).IF.length=W.IF.length:=by simp[RO]
 have hE:zu9 W c=Qb (G0 (Rc (RO W c (Lr (gi W.IF c) false)) c)):=rfl;rw[hE];generalize RO W c (Lr (gi W.IF c) false)=V at SS sf e5 hlV;have pF:c<(V.IF.length:Int):=by rw[hlV];exact c1
 have eH:=SS.step Su;have Bo1:=ZS eH.own c0 pF;rw[e5] at Bo1;refine I3 Bo1 ?_;rintro e0 wv0 ⟨he0,hy0⟩;refine⟨_,_,_,_,_,_,_,_,_,_,he0,eH.kept hy0 fK,λSj bE hs6=>?_⟩;have sfE:=sf.Rc c0 pF;have vB:=(eH.Ss hy0 fK).step bE;generalize Rc V c=U at vB sfE;have RA:=JD vB.own sfE (I2 _) (by simp only[Qh];decide);refine I3 RA ?_;rintro e1 Rb ⟨kB,eD⟩;refine⟨_,_,_,_,_,_,_,_,_,_,kB,vB.kept eD hs6,λSw eQ sH=>?_⟩;have hK7:=(vB.Ss eD hs6).step eQ;have aT:=QA hK7.own (G1 sfE (I2 _)).1.w (by simp only[Qh];decide) (by simp only[Qh];decide) hK7.base;rw[FG sfE (I2 _)] at aT;refine I3 aT ?_;rintro e2 RI ⟨m2,bH,iD⟩;exact⟨_,_,_,_,_,_,_,_,_,_,bH,hK7.kept iD sH,λSZ sV=>QX.ok hW hb ((hK7.Ss iD sH).step sV)⟩
end
noncomputable def MX(W:Q7)(t:Int):Int:=if Yn W t=false then 2 else if (Q8 W t).state≠2 then 6 else if QO W=false then 10 else 0
def PO(W:Q7)(t:Int):Int:=if zor W (Q8 W t).R1>0 then K4 W (QD W (Q8 W t).II (Q8 W t).mask) else (Q8 W t).R1
def T7(W:Q7)(t c:Int):PS:={ M2 W t (Q8 W t).II c with state:=1 }
def BB(W:Q7)(t:Int):Q7:=Qb (Rc (J' W t (T7 W t (PO W t))) (PO W t))
def UU(W:Q7)(t:Int)(x:PS):(J' W t x).IJ.length=W.IJ.length:=by simp[J']
def ztb{W:Q7}{t:Int}(h:(Q8 W t).state=2)(c:Int):Uj W t (Q8 W t).II c=J' W t (M2 W t (Q8 W t).II c):=by
 unfold Uj;rw[B' (by rw[h];decide)]
def zmw{W:Q7}{t c:Int}(sf:SF Ql (Ql+Qh) W)(t0:0<=t)(t1:t<(W.IJ.length:Int))(n:(Q8 W t).state≠0)(c0:0<=c)(c1:c<(W.IF.length:Int)):SF Ql (Ql+Qh) (J' W t (T7 W t c)):=by
 have hl:=sf.w.a.t;have hu:=(sf.w.t t t0 Qo n).1;have hv:=zmd sf (I2 _) (t:=t) hu c0 c1;exact sf.J' t0 Qo (x:=T7 W t c) (λ_=>⟨hu,c0,c1⟩) hv.1 hv.2
def zmx{W:Q7}{t:Int}(hW:Qr W)(hb:MX W t=0):Yn W t/\(Q8 W t).state=2/\QO W/\SF Ql (Ql+Qh) W/\0<=PO W t/\PO W t<(W.IF.length:Int):=by
 have wp:=Qm.1 hW;unfold MX at hb
 split at hb
 ·cases hb
 ·rename_i h1
  split at hb
  ·cases hb
  ·rename_i h2
   split at hb
   ·cases hb
   ·rename_i h3;have h1:Yn W t:=by simpa using h1
    have h2:(Q8 W t).state=2:=by simpa using h2
    have h3:QO W:=by simpa using h3
    have sw:=MS wp (Qm.1 h3);obtain⟨t0,t1,n⟩:=Y7 h1;have hl:=wp.a.t;have hc:=sw.t t t0 Qo n;refine⟨h1,h2,h3,Lo sw,?_⟩;unfold PO;split
    ·have:=HW wp.a (Q8 W t).II (Q8 W t).mask;exact⟨this.1,this.2.1⟩
    ·exact hc.2
section
variable {base pb:Nat}{W W':Q7}{m:MW}{w:Wo}
def y7{t:Int}(h:XV [] w W m)(hl:VB W) :
  Cz OB #[.agg (Qc W m).toArray,I t] w λe w'=>∃v,e=.returned v/\QX (Yz W (MX W t) (BB W t)) w v w':=by
 refine CN _ _ _ _ _ _ _ _ _ _ t (R:=λv w'=>QX (Yz W (MX W t) (BB W t)) w v w') ?_;intro y hy y1 cW wr Rk V';refine I3 (Zn (h.ext Rk) hl) ?_;rintro e wv (⟨hW,he,SQ⟩|⟨hW,m',he,hM,SQ⟩)
 ·exact⟨_,_,_,_,_,_,_,_,_,_,_,he,Qi SQ V',λ_ R5 Rl=>QX.bad hW ((Rk.trans SQ).fresh Rl λz hm=>.inl (YM hy cW z hm)),λg=>by simp at g⟩
 have hK:=Wk.begin hy cW Rk V' hM SQ;have hr:=hK.rd;have wp:=Qm.1 hW;refine⟨_,_,_,_,_,_,_,_,_,_,_,he,Qi SQ V',λg=>by split at g <;> simp at g,λ_=>⟨_,JU hr hl.t,λg R6 Rl=>?_,λg=>?_⟩⟩
 ·have g:Yn W t=false:=by simpa using g
  have hb:MX W t=2:=by unfold MX;rw[C' g]
  exact QX.no hW (by rw[hb];decide) (hK.step Rl) hb
 have g:Yn W t:=by simpa using g
 obtain⟨t0,t1,tn⟩:=Y7 g;have jF:=wp.a.t;have Wn:=hr.t.ix QT t0 t1;refine⟨Wn,_,hr.t.f t0 t1 (j:=0) rfl,λg2 RD Rl=>?_,λg2=>⟨λg3 RE Rl=>?_,λg3=>?_⟩⟩
 ·have g2:(Q8 W t).state≠2:=by simpa[Q8] using g2
  have hb:MX W t=6:=by unfold MX;rw[B' (by rw[g];decide),C' g2]
  exact QX.no hW (by rw[hb];decide) (hK.step Rl) hb
 ·have g2:¬(Q8 W t).state≠2:=by simpa[Q8] using g2
  have bM:¬QO W:=λhr=>by rw[C' hr] at g3;simp at g3
  have hb:MX W t=10:=by unfold MX;rw[B' (by rw[g];decide),B' g2,C' (by simpa using bM)]
  rw[B' bM];exact QX.no hW (by rw[hb];decide) (hK.step Rl) hb
 have g2:¬(Q8 W t).state≠2:=by simpa[Q8] using g2
 have bM:QO W:=Iq λhr=>by rw[B' hr] at g3;simp at g3
 have hb:MX W t=0:=by unfold MX;rw[B' (by rw[g];decide),B' g2,B' (by rw[bM];decide)]
 have Ca6:(Q8 W t).state=2:=by simpa using g2
 obtain⟨_,_,_,sf,_,_⟩:=zmx hW hb;obtain⟨hu,c0,c1⟩:=sf.w.t t t0 Qo tn;refine⟨Wn,_,hr.t.f t0 t1 (j:=2) rfl,_,PA hr jF,λg4=>?_,λg4=>?_⟩
 ·have g4:zor W (Q8 W t).R1>0:=Ot g4;have hC:PO W t=K4 W (QD W (Q8 W t).II (Q8 W t).mask):=C' g4;obtain⟨d0,d1,_⟩:=HW wp.a (Q8 W t).II (Q8 W t).mask;refine⟨Wn,_,hr.t.f t0 t1 (j:=1) rfl,Wn,_,hr.t.f t0 t1 (j:=4) rfl,_,Jl hr wp.a.c2 wp.a.tree hu,_,Gm hr wp.a (zyk wp),Wn,_,hr.t.f t0 t1 (j:=1) rfl,λRQ Su fK=>?_⟩;have cM:=hK.step Su;have RA:=Vi cM.own sf (I2 _) (by simp only[Qh];decide) (t:=t) (g:=(Q8 W t).II) (c:=K4 W (QD W (Q8 W t).II (Q8 W t).mask)) t0 Qo tn hu d0 d1;refine I3 RA ?_;rintro e1 Rb ⟨kB,eD⟩;rw[ztb Ca6 (K4 W (QD W (Q8 W t).II (Q8 W t).mask))] at eD;have dZ:=cM.Ss eD fK
  have SS:Wk 8 [y,y1] w (Rw Rb m'.tO (Int.toNat t*9+0) [I 1]) (J' W t (T7 W t (K4 W (QD W (Q8 W t).II (Q8 W t).mask)))) m':=by
   have:Wk 8 [y,y1] w (Rw Rb m'.tO (Int.toNat t*9+0) [I 1]) (J' (J' W t (M2 W t (Q8 W t).II (K4 W (QD W (Q8 W t).II (Q8 W t).mask)))) t (T7 W t (K4 W (QD W (Q8 W t).II (Q8 W t).mask)))) m':=dZ.Rw (dZ.own.AF3 t0 (by rw[UU];exact t1) (j:=0) (vs:=[I 1]) (x:=T7 W t (K4 W (QD W (Q8 W t).II (Q8 W t).mask))) (by rw[show gi (J' W t (M2 W t (Q8 W t).II (K4 W (QD W (Q8 W t).II (Q8 W t).mask)))).IJ t=_ from HB t0 t1];rfl) Qs) Hx
   rwa[set_set] at this
  have CH1:Ix m'.tO W.IJ.length t:=by
   have:=dZ.rd.t.ix QT t0 (by rw[UU];exact t1)
   rwa[UU] at this
  refine⟨_,_,_,_,_,_,_,_,_,_,kB,cM.kept eD fK,CH1,ztu dZ.own dZ.nb t0 (by rw[UU];exact t1) (j:=0) Qd,λSj bE hs6=>?_⟩;have e5:Qc (J' W t (T7 W t (K4 W (QD W (Q8 W t).II (Q8 W t).mask)))) m'=Qc W m':=K9 _ _ _ _;have hE:BB W t=Qb (Rc (J' W t (T7 W t (K4 W (QD W (Q8 W t).II (Q8 W t).mask)))) (K4 W (QD W (Q8 W t).II (Q8 W t).mask))):=by unfold BB;rw[hC]
  have sfV:=zmw sf t0 t1 tn d0 d1;rw[hE];have hlV:(J' W t (T7 W t (K4 W (QD W (Q8 W t).II (Q8 W t).mask)))).IF.length=W.IF.length:=rfl;generalize J' W t (T7 W t (K4 W (QD W (Q8 W t).II (Q8 W t).mask)))=V at SS e5 sfV hlV;have vB:=SS.step bE;have aT:=ZS vB.own d0 (by rw[hlV];exact d1);rw[e5] at aT;refine I3 aT ?_;rintro e2 RI ⟨bH,iD⟩;refine⟨_,_,_,_,_,_,_,_,_,_,bH,vB.kept iD hs6,λSw eQ sH=>?_⟩;have hK7:=(vB.Ss iD hs6).step eQ;have tF:=QA hK7.own (sfV.Rc d0 (by rw[hlV];exact d1)).w (by simp only[Qh];decide) (by simp only[Qh];decide) hK7.base;refine I3 tF ?_;rintro e3 S3 ⟨m2,gD,hy5⟩;exact⟨_,_,_,_,_,_,_,_,_,_,gD,hK7.kept hy5 sH,λSZ sV=>QX.ok hW hb ((hK7.Ss hy5 sH).step sV)⟩
 ·have g4:¬zor W (Q8 W t).R1>0:=Ou g4;have hC:PO W t=(Q8 W t).R1:=B' g4;have d0:=c0;have d1:=c1;refine⟨Wn,_,hr.t.f t0 t1 (j:=1) rfl,λRQ Su fK=>?_⟩;have cM:=hK.step Su;have RA:=Vi cM.own sf (I2 _) (by simp only[Qh];decide) (t:=t) (g:=(Q8 W t).II) (c:=(Q8 W t).R1) t0 Qo tn hu d0 d1;refine I3 RA ?_;rintro e1 Rb ⟨kB,eD⟩;rw[ztb Ca6 ((Q8 W t).R1)] at eD;have dZ:=cM.Ss eD fK
  have SS:Wk 8 [y,y1] w (Rw Rb m'.tO (Int.toNat t*9+0) [I 1]) (J' W t (T7 W t ((Q8 W t).R1))) m':=by
   have:Wk 8 [y,y1] w (Rw Rb m'.tO (Int.toNat t*9+0) [I 1]) (J' (J' W t (M2 W t (Q8 W t).II ((Q8 W t).R1))) t (T7 W t ((Q8 W t).R1))) m':=dZ.Rw (dZ.own.AF3 t0 (by rw[UU];exact t1) (j:=0) (vs:=[I 1]) (x:=T7 W t ((Q8 W t).R1)) (by rw[show gi (J' W t (M2 W t (Q8 W t).II ((Q8 W t).R1))).IJ t=_ from HB t0 t1];rfl) Qs) Hx
   rwa[set_set] at this
  have CH1:Ix m'.tO W.IJ.length t:=by
   have:=dZ.rd.t.ix QT t0 (by rw[UU];exact t1)
   rwa[UU] at this
  refine⟨_,_,_,_,_,_,_,_,_,_,kB,cM.kept eD fK,CH1,ztu dZ.own dZ.nb t0 (by rw[UU];exact t1) (j:=0) Qd,λSj bE hs6=>?_⟩;have e5:Qc (J' W t (T7 W t ((Q8 W t).R1))) m'=Qc W m':=K9 _ _ _ _;have hE:BB W t=Qb (Rc (J' W t (T7 W t ((Q8 W t).R1))) ((Q8 W t).R1)):=by unfold BB;rw[hC]
  have sfV:=zmw sf t0 t1 tn d0 d1;rw[hE];have hlV:(J' W t (T7 W t ((Q8 W t).R1))).IF.length=W.IF.length:=rfl;generalize J' W t (T7 W t ((Q8 W t).R1))=V at SS e5 sfV hlV;have vB:=SS.step bE;have aT:=ZS vB.own d0 (by rw[hlV];exact d1);rw[e5] at aT;refine I3 aT ?_;rintro e2 RI ⟨bH,iD⟩;refine⟨_,_,_,_,_,_,_,_,_,_,bH,vB.kept iD hs6,λSw eQ sH=>?_⟩;have hK7:=(vB.Ss iD hs6).step eQ;have tF:=QA hK7.own (sfV.Rc d0 (by rw[hlV];exact d1)).w (by simp only[Qh];decide) (by simp only[Qh];decide) hK7.base;refine I3 tF ?_;rintro e3 S3 ⟨m2,gD,hy5⟩;exact⟨_,_,_,_,_,_,_,_,_,_,gD,hK7.kept hy5 sH,λSZ sV=>QX.ok hW hb ((hK7.Ss hy5 sH).step sV)⟩
end
def Lt{a b w:Int}(ha:0<=a)(hb:0<=b)(h:a+b<=100000000)(w1:1<=w)(w2:w<=20):QS (a+b) w=QS a w+QS b w:=by
 rw[Pk Qo h w1 w2,Pk ha Qo w1 w2,Pk hb Qo w1 w2,Int.add_mul]
def zuy{l w:Int}(h0:0<=l)(h1:l<=ZT w):Yg l w=l:=by
 unfold Yg;rw[B' (show ¬ZT w<l by omega)]
 split <;> omega
def KP{p q:Nat->Bool}:∀{n:Nat},(∀j,j<n->p j=q j)->O1 p n=O1 q n
 |0,_=>rfl
 |n+1,h=>by simp only[O1];rw[KP λj hj=>h j Qo,h n Qo]
def Pb{p q:Nat->Bool}{v u:Nat->Int}:∀{n:Nat},(∀j,j<n->p j=q j)->(∀j,j<n->p j->v j=u j)->QU p v n=QU q u n
 |0,_,_=>rfl
 |n+1,h,hv=>by
  have ih:=Pb (p:=p) (q:=q) (v:=v) (u:=u) (n:=n) (λj hj=>h j Qo) λj hj=>hv j Qo
  simp only[QU];rw[ih,<-h n Qo]
  cases hp:p n with
  |false=>simp
  |true=>
   rw[hv n Qo hp];rcases Zg q u n with ⟨e,_⟩|⟨e0,e1,e2,_⟩
   ·rw[e];simp
   ·rw[hv _ Qo (by rw[h _ Qo];exact e2)]
def Yv{gs:List ZD}(ht:Yr gs):∀g:Int,Q6 gs g->∀x∈QR gs g,Q6 gs x/\x≠0:=
 MK ht (λx hx=>by rw[show QR gs 0=[] from Zh _ _] at hx;cases hx) λh hu hz ih x hx=>by
  rw[Yq ht hu hz] at hx;rcases Ii.1 hx with e|e
  ·subst e;exact⟨hu,hz⟩
  ·exact ih x e
def VY(W:Q7)(k c:Int):Prop:=(Qa W (gi W.IE k).IG c).IM<=(Qa W k c).v/\(Qa W k c).v-(Qa W (gi W.IE k).IG c).IM<=ZT (Qa W k c).w
structure EU (W:Q7) (x:PS):Prop where
 st:x.state=1\/x.state=2
 g:Q6 W.IE x.II=true
 n:Qf x.nice≠0
 m:M1 x.mask=true
 m0:x.mask≠0
 s:Ya x.sum=true
 u:Ya x.IV=true
 l1:0<=x.load
 l2:x.load<=8000000
 f:x.state=1->(Qa W x.II x.R1).IM<=x.v/\x.v-(Qa W x.II x.R1).IM<=ZT (Qf x.nice)
structure zpr (W:Q7) (k c:Int):Prop where
 s:Ya (Qa W k c).sum=true
 root:k=0->(Qa W k c).on=false/\(Qa W k c).v=0/\(Qa W k c).w=10
 st:k≠0->(Qa W k c).on->VY W k c
structure z30 (W:Q7) (c:Int):Prop where
 b:Ya (gi W.IF c).busy=true
 i:Ya (gi W.IF c).idle=true
 c1 : -1<=(gi W.IF c).cur
 c2:(gi W.IF c).cur<12
 no:(gi W.IF c).cur<0->(gi W.IF c).SX=0
 yes:0<=(gi W.IF c).cur->(gi W.IF c).up/\1<=(gi W.IF c).SX/\(gi W.IF c).SX<=149
 q:0<=(gi W.IF c).cur->(Q8 W (gi W.IF c).cur).state=1->(Q8 W (gi W.IF c).cur).R1=c->
  (Q8 W (gi W.IF c).cur).v-(Qa W (Q8 W (gi W.IF c).cur).II c).IM<=QS (gi W.IF c).SX (Qf (Q8 W (gi W.IF c).cur).nice)/\
  ∀x∈QR W.IE (Q8 W (gi W.IF c).cur).II,VY W x c/\(Qa W x c).v-(Qa W (gi W.IE x).IG c).IM<=QS (gi W.IF c).SX (Qa W x c).w
structure PreA (W:Q7):Prop where
 a:WA W
 t:∀t:Int,0<=t->t<12->(Q8 W t).state=0/\Q8 W t=T8\/(Q8 W t).state≠0/\EU W (Q8 W t)
 l:∀t:Int,0<=t->t<12->(Q8 W t).state≠0->0<=(Q8 W t).R1/\(Q8 W t).R1<(W.IF.length:Int)
 s:∀k c:Int,Q6 W.IE k->0<=c->c<(W.IF.length:Int)->zpr W k c
structure TX (W:Q7):Prop extends PreA W where
 c:∀c:Int,0<=c->c<(W.IF.length:Int)->z30 W c
def zbm(W:Q7):Prop:=∀t:Int,0<=t->t<12->(Q8 W t).state≠0->Zq (QD W (Q8 W t).II (Q8 W t).mask) (Q8 W t).R1=true
def z67(W:Q7):Prop:=∀k c:Int,Q6 W.IE k->0<=c->c<(W.IF.length:Int)->Za W k c 20->QZ W k c 20<=(Qa W k c).IM
def Bq{v f k:Int}(hv:Ya v)(hf:Ya f):KJ v f k=true↔f<=v/\v-f<=ZT k:=by
 have h1:=Xj.1 hv;have h2:=Xj.1 hf;have hw:IntKind.i64.wrap (v-f)=v-f:=Qp.wrap (k:=.i64) ⟨by show _<=v-f;omega,by show v-f<=_;omega⟩;unfold KJ;rw[hw];simp
def Vd{W:Q7}(wp:XQ W):zbm W:=λt t0 t1 n=>by
 rcases wp.t t t0 t1 with h|h
 ·exact Ir h.1 n
 ·exact h.2.c
def EJ{W:Q7}(wp:XQ W){k c:Int}(hu:Q6 W.IE k)(c0:0<=c)(c1:c<(W.IF.length:Int)):Ko W k c:=by
 obtain⟨u0,u1,_⟩:=wp.a.u hu;have hl:=wp.a.sl hu;exact wp.s k c u0 u1 c0 Qo
def XJ{W:Q7}(wp:XQ W):TX W:=by
 have kE:∀k c:Int,Q6 W.IE k->k≠0->0<=c->c<(W.IF.length:Int)->(Qa W k c).on->VY W k c:=λk c hu hz c0 c1 ho=>by
  have h1:=EJ wp hu c0 c1;have h2:=EJ wp (wp.a.up hu hz) c0 c1;exact(Bq h1.v h2.f).1 (h1.st hz ho)
 refine⟨⟨wp.a,λt t0 t1=>?_,λt t0 t1 n=>?_,λk c hu c0 c1=>?_⟩,λc c0 c1=>?_⟩
 ·rcases wp.t t t0 t1 with h|⟨n,h⟩
  ·exact .inl h
  ·refine .inr ⟨n,h.st,h.g,h.n,h.m,h.m0,h.s,h.u,h.l1,h.l2,λh1=>?_⟩;obtain⟨d0,d1⟩:=GY wp.a h.c;exact(Bq h.v (EJ wp h.g d0 d1).f).1 (h.f h1)
 ·rcases wp.t t t0 t1 with h|⟨_,h⟩
  ·exact Ir h.1 n
  ·exact GY wp.a h.c
 ·have h:=EJ wp hu c0 c1;exact⟨h.s,h.root,λhz ho=>kE k c hu hz c0 c1 ho⟩
 ·have h:=wp.c c c0 c1;have hl:=wp.a.t;refine⟨h.b,h.i,h.c1,by have:=h.c2;omega,h.no,λh0=>⟨(h.yes h0).1,(h.yes h0).2.1,(h.yes h0).2.2.1⟩,λh0 h1 h2=>?_⟩;obtain⟨_,_,_,_,kK,BS1⟩:=h.yes h0;unfold MR at BS1;rw[A',Ij] at BS1;refine⟨BS1.1,λx hx=>?_⟩
  have hu:Q6 W.IE (Q8 W (gi W.IF c).cur).II:=by
   rcases wp.t _ h0 (by have:=h.c2;omega) with hz|⟨_,hz⟩
   ·rw[hz.1] at h1;cases h1
   ·exact hz.g
  obtain⟨xu,xz⟩:=Yv wp.a.tree _ hu x hx;unfold Zf JR at kK;rw[A',h2,List.all_eq_true] at kK;have hs:=BS1.2;unfold Oi at hs;rw[List.all_eq_true] at hs;exact⟨kE x c xu xz c0 c1 (kK.2 x hx),Ot (hs x hx)⟩
structure HG (c:Int) (W W':Q7):Prop where
 n:W'.now=W.now
 t:W'.IJ=W.IJ
 g:QH W.IE W'.IE
 len:W'.IF.length=W.IF.length
 b:∀i:Int,0<=i->(gi W'.IE i).IL=(gi W.IE i).IL
 e:∀k d:Int,0<=k->0<=d->d≠c->Qa W' k d=Qa W k d
 cp:∀d:Int,0<=d->d≠c->gi W'.IF d=gi W.IF d
def HG.refl(c:Int)(W:Q7):HG c W W:=⟨rfl,rfl,QH.refl _,rfl,λ_ _=>rfl,λ_ _ _ _ _=>rfl,λ_ _ _=>rfl⟩
def HG.trans{c:Int}{A B C:Q7}(h:HG c A B)(k:HG c B C):HG c A C:=⟨k.n.trans h.n,k.t.trans h.t,h.g.trans k.g,k.len.trans h.len,λi hi=>(k.b i hi).trans (h.b i hi),λi d hi hd hn=>(k.e i d hi hd hn).trans (h.e i d hi hd hn),λd hd hn=>(k.cp d hd hn).trans (h.cp d hd hn)⟩
def NP{W:Q7}{g c:Int}{s:KM}(h0:0<=g)(h1:g<(W.IE.length:Int))(c0:0<=c)(c1:c<((gi W.IE g).IH.length:Int)):HG c W (RC W g c s):=
 ⟨rfl,rfl,J5 h0 h1,rfl,λi hi=>zir h0 h1 hi,λk d hk hd hn=>by
  rw[UV h0 h1 c0 c1 hk hd,B' λh=>hn h.2.symm],λ_ _ _=>rfl⟩
def zof{W:Q7}{c:Int}(c0:0<=c)(c1:c<(W.IF.length:Int)):HG c W (Rc W c):=
 ⟨rfl,rfl,QH.refl _,E',λ_ _=>rfl,λ_ _ _ _ _=>rfl,λd d0 hn=>by
  show gi (W.IF.set c.toNat (XA (gi W.IF c))) d=_;rw[Qx _ _ c0 c1 d0,B' λh=>hn h.symm]⟩
section
variable {c d:Int}{W W':Q7}
def T0(ht:W'.IJ=W.IJ)(hT:QH W.IE W'.IE){g:Int}(h:∀j:Nat,j<W.IE.length->1<=j->(gi W.IE (j:Int)).IV->(gi W.IE (j:Int)).IG=g->(Qa W' (j:Int) d).on=(Qa W (j:Int) d).on):Qv W' g d=Qv W g d:=by
 unfold Qv;rw[ht,hT.len]
 congr 1
 ·refine KP λj _=>?_
  unfold Ug;rw[ht]
 ·refine KP λj hj=>?_
  unfold Xb;rw[hT.u,hT.p]
  by_cases h1:1<=j
  ·cases hu:(gi W.IE (j:Int)).IV with
   |false=>simp
   |true=>
    by_cases hp:(gi W.IE (j:Int)).IG=g
    ·rw[h j hj h1 hu hp]
    ·rw[show ((gi W.IE (j:Int)).IG==g)=false from beq_false_of_ne hp];simp
  ·simp[h1]
def zu4(ht:W'.IJ=W.IJ)(hT:QH W.IE W'.IE)(hl:W.IE.length=8)(h:∀k:Int,0<=k->(Qa W' k d).on=(Qa W k d).on)(g:Int){j:Nat}(hj:j<20):Z3 W' g d j=Z3 W g d j:=by
 unfold Z3;split
 ·unfold Ug;rw[ht]
 ·unfold Xb;rw[hT.u,hT.p,h _ Qo]
def zjf(ht:W'.IJ=W.IJ)(h:∀k:Int,0<=k->(Qa W' k d).v=(Qa W k d).v)(j:Nat):Z1 W' d j=Z1 W d j:=by
 unfold Z1;split
 ·unfold Q8;rw[ht]
 ·rw[h _ Qo]
def HI(ht:W'.IJ=W.IJ)(hT:QH W.IE W'.IE)(hl:W.IE.length=8)(h:∀k:Int,0<=k->(Qa W' k d).on=(Qa W k d).on)(hv:∀k:Int,0<=k->(Qa W' k d).v=(Qa W k d).v)(g:Int):Za W' g d 20=Za W g d 20/\QZ W' g d 20=QZ W g d 20:=by
 have e:QU (Z3 W' g d) (Z1 W' d) 20=QU (Z3 W g d) (Z1 W d) 20:=Pb (λj hj=>zu4 ht hT hl h g hj) λj _ _=>zjf ht hv j
 unfold Za QZ;rw[e];refine⟨rfl,?_⟩;split
 ·rfl
 ·exact zjf ht hv _
def YE(ht:W'.IJ=W.IJ)(t:Int):Q8 W' t=Q8 W t:=by unfold Q8;rw[ht]
def Jc(hT:QH W.IE W'.IE)(g:Int):QR W'.IE g=QR W.IE g:=hT.path 3 g
def zcy{g:Int}(hb:(gi W'.IE g).IL=(gi W.IE g).IL):Xu W' g d=Xu W g d:=by unfold Xu;rw[hb]
end
def za3{W:Q7}{g c:Int}{j:Nat}(hj:j<20)(h:Z3 W g c j):Za W g c 20/\QZ W g c 20<=Z1 W c j:=by
 unfold Za QZ;rcases Zg (Z3 W g c) (Z1 W c) 20 with ⟨_,h2⟩|⟨h1,_,_,h4,_⟩
 ·rw[h2 j hj] at h;cases h
 ·rw[B' Qo];exact⟨Ih h1,h4 j hj h⟩
def zt4{W:Q7}(ha:WA W){t:Int}(t0:0<=t)(t1:t<12)(hs:(Q8 W t).state=1):Za W (Q8 W t).II (Q8 W t).R1 20/\QZ W (Q8 W t).II (Q8 W t).R1 20<=(Q8 W t).v:=by
 have e:((t.toNat:Nat):Int)=t:=Qo
 have h:Z3 W (Q8 W t).II (Q8 W t).R1 t.toNat:=by
  rw[Jn Qo];unfold Ug;rw[e];show (((Q8 W t).state==1)&&((Q8 W t).II==_)&&((Q8 W t).R1==_))=true;rw[hs];simp
 have:=za3 Qo h
 rwa[Hh Qo,e] at this
def zpy{W:Q7}(ha:WA W){k c:Int}(hu:Q6 W.IE k)(hz:k≠0)(ho:(Qa W k c).on):Za W (gi W.IE k).IG c 20/\QZ W (gi W.IE k).IG c 20<=(Qa W k c).v:=by
 obtain⟨k0,k1,ku⟩:=Q2.1 hu;have hl:=ha.gl;have e:((k.toNat:Nat):Int)=k:=Qo
 have h:Z3 W (gi W.IE k).IG c (12+k.toNat):=by
  rw[J7];unfold Xb;rw[e,ku,ho];simp;omega
 have:=za3 Qo h
 rwa[Hg,e] at this
structure LC (c:Int) (W W':Q7):Prop where
 o:HG c W W'
 cs:W'.IF=W.IF
 f:∀k d:Int,0<=k->0<=d->(Qa W' k d).IM=(Qa W k d).IM
 w:∀k d:Int,0<=k->0<=d->(Qa W' k d).w=(Qa W k d).w
 s:∀k d:Int,0<=k->0<=d->(Qa W' k d).sum=(Qa W k d).sum
 r:∀d:Int,0<=d->Qa W' 0 d=Qa W 0 d
 v:∀k d:Int,Q6 W.IE k->k≠0->0<=d->VY W k d->(Qa W' k d).v=(Qa W k d).v
def LC.refl(c:Int)(W:Q7):LC c W W:=⟨HG.refl _ _,rfl,λ_ _ _ _=>rfl,λ_ _ _ _=>rfl,λ_ _ _ _=>rfl,λ_ _=>rfl,λ_ _ _ _ _ _=>rfl⟩
def LC.st{c:Int}{W W':Q7}(ht:Yr W.IE)(h:LC c W W'){k d:Int}(hu:Q6 W.IE k)(hz:k≠0)(d0:0<=d)(hs:VY W k d):VY W' k d:=by
 have hp:=(Q2.1 (Y0 ht hu hz).1).1;have k0:=(Q2.1 hu).1;unfold VY;rw[h.o.g.p,h.f _ d hp d0,h.v k d hu hz d0 hs,h.w k d k0 d0];exact hs
def LC.trans{c:Int}{A B C:Q7}(ht:Yr A.IE)(h:LC c A B)(k:LC c B C):LC c A C:=
 ⟨h.o.trans k.o,k.cs.trans h.cs,λi d a b=>(k.f i d a b).trans (h.f i d a b),λi d a b=>(k.w i d a b).trans (h.w i d a b),λi d a b=>(k.s i d a b).trans (h.s i d a b),λd a=>(k.r d a).trans (h.r d a),λi d hu hz d0 hs=>by
  rw[k.v i d (by rw[h.o.g.aO];exact hu) hz d0 (h.st ht hu hz d0 hs),h.v i d hu hz d0 hs]⟩
def TX.lc{c:Int}{W W':Q7}(p:TX W)(h:LC c W W')(ha:WA W')(hon:∀k d:Int,Q6 W.IE k->k≠0->0<=d->d<(W.IF.length:Int)->(Qa W' k d).on->VY W' k d):TX W':=by
 have et:∀t,Q8 W' t=Q8 W t:=YE h.o.t;refine⟨⟨ha,λt t0 t1=>?_,λt t0 t1 n=>?_,λk d hu d0 d1=>?_⟩,λd d0 d1=>?_⟩
 ·rw[et];rcases p.t t t0 t1 with hz|⟨n,hx⟩
  ·exact .inl hz
  ·refine .inr ⟨n,hx.st,by rw[h.o.g.aO];exact hx.g,hx.n,hx.m,hx.m0,hx.s,hx.u,hx.l1,hx.l2,λh1=>?_⟩;rw[h.f _ _ (Q2.1 hx.g).1 (p.l t t0 t1 n).1];exact hx.f h1
 ·rw[et] at n ⊢;rw[h.o.len];exact p.l t t0 t1 n
 ·rw[h.o.g.aO] at hu;rw[h.cs] at d1;have hs:=p.s k d hu d0 d1;have k0:=(Q2.1 hu).1;refine⟨by rw[h.s k d k0 d0];exact hs.s,λhz=>?_,λhz ho=>hon k d hu hz d0 d1 ho⟩;subst hz;rw[h.r d d0];exact hs.root rfl
 ·rw[h.cs] at d1;have hc:=p.c d d0 d1;refine⟨by rw[h.cs];exact hc.b,by rw[h.cs];exact hc.i,by rw[h.cs];exact hc.c1,by rw[h.cs];exact hc.c2,by rw[h.cs];exact hc.no,by rw[h.cs];exact hc.yes,?_⟩;rw[h.cs];simp only[et];intro h0 h1 h2;obtain⟨q1,q2⟩:=hc.q h0 h1 h2
  have hu:Q6 W.IE (Q8 W (gi W.IF d).cur).II:=by
   rcases p.t _ h0 hc.c2 with hz|⟨_,hx⟩
   ·rw[hz.1] at h1;cases h1
   ·exact hx.g
  refine⟨by rw[h.f _ d (Q2.1 hu).1 d0];exact q1,λx hx=>?_⟩;rw[Jc h.o.g] at hx;obtain⟨xu,xz⟩:=Yv p.a.tree _ hu x hx;obtain⟨s1,s2⟩:=q2 x hx;refine⟨h.st p.a.tree xu xz d0 s1,?_⟩;rw[h.o.g.p,h.v x d xu xz d0 s1,h.f _ d (Q2.1 (p.a.up xu xz)).1 d0,h.w x d (Q2.1 xu).1 d0];exact s2
def aK(W:Q7)(c k:Int):Prop:=(Qa W k c).on=(Qv W k c && !Xu W k c)
def zyn{W:Q7}(p:TX W){k c d:Int}(hu:Q6 W.IE k)(hd:dep 3 W.IE k=d)(d1:1<=d)(c0:0<=c)(c1:c<(W.IF.length:Int)) :
  LC c W (RC W k c (ZH W k c))/\TX (RC W k c (ZH W k c))/\aK (RC W k c (ZH W k c)) c k/\∀g:Int,Q6 W.IE g->g≠k->(gi W.IE k).IG≠g->aK W c g->aK (RC W k c (ZH W k c)) c g:=by
 have hz:k≠0:=λe=>by subst e;rw[ZR] at hd;omega
 obtain⟨u0,u1,_⟩:=Q2.1 hu;have hl:=p.a.gl;have hsl:=p.a.sl hu;have oM:c<((gi W.IE k).IH.length:Int):=Qo;have hpu:=p.a.up hu hz
 have hpk:(gi W.IE k).IG≠k:=λe=>by
  obtain⟨_,_,_,n,e1,e2,_⟩:=Y0 p.a.tree hu hz;rw[e] at e2;omega
 have e:∀{i j:Int},0<=i->0<=j->Qa (RC W k c (ZH W k c)) i j=if k=i/\c=j then ZH W k c else Qa W i j:=λhi hj=>UV u0 u1 c0 oM hi hj
 have ev:VY W k c->(ZH W k c).v=(Qa W k c).v:=λhs=>by
  simp only[ZH];split
  ·rw[zuy (by have:=hs.1;omega) hs.2];omega
  ·rfl
 have eq0:∀{i j:Int},k=i/\c=j->(ZH W k c).IM=(Qa W i j).IM/\(ZH W k c).w=(Qa W i j).w/\(ZH W k c).sum=(Qa W i j).sum:=λh=>by
  obtain⟨rfl,rfl⟩:=h;exact⟨rfl,rfl,rfl⟩
 have hT:=J5 (W:=W) (g:=k) (c:=c) (s:=ZH W k c) u0 u1
 have lc:LC c W (RC W k c (ZH W k c)):=by
  refine⟨NP u0 u1 c0 oM,rfl,λi j hi hj=>?_,λi j hi hj=>?_,λi j hi hj=>?_,λj hj=>?_,λi j iu iz hj hs=>?_⟩
  ·rw[e hi hj];split
   ·rename_i h;exact(eq0 h).1
   ·rfl
  ·rw[e hi hj];split
   ·rename_i h;exact(eq0 h).2.1
   ·rfl
  ·rw[e hi hj];split
   ·rename_i h;exact(eq0 h).2.2
   ·rfl
  ·rw[e (I2 0) hj,B' λh=>hz h.1]
  ·rw[e (Q2.1 iu).1 hj];split
   ·rename_i h;obtain⟨rfl,rfl⟩:=h;exact ev hs
   ·rfl
 have act:∀g:Int,(gi W.IE k).IG≠g->Qv (RC W k c (ZH W k c)) g c=Qv W g c:=λg hg=>by
  refine T0 (W:=W) (W':=RC W k c (ZH W k c)) rfl hT λj hj _ _ hp=>?_
  rw[e Qo c0,B'];rintro⟨h,_⟩;exact hg (by rw[h];exact hp)
 have hoe:aK (RC W k c (ZH W k c)) c k:=by
  unfold aK;rw[e u0 c0,C' ⟨rfl,rfl⟩,act k hpk,HM u0 u1 u0];rfl
 refine⟨lc,p.lc lc (p.a.RC u0 Qo) λi j iu iz j0 j1 ho=>?_,hoe,λg gu gk hg h=>?_⟩
 ·by_cases h:k=i/\c=j
  ·obtain⟨rfl,rfl⟩:=h
   by_cases hs:VY W k c
   ·exact lc.st p.a.tree hu hz c0 hs
   ·have C01:(Qa W k c).on=false:=by
     cases hb:(Qa W k c).on with
     |false=>rfl
     |true=>exact Ir ((p.s k c hu c0 c1).st hz hb) hs
    rw[e u0 c0,C' ⟨rfl,rfl⟩] at ho;have ho:(Qv W k c && !Xu W k c):=ho;unfold VY;rw[hT.p,e u0 c0,C' ⟨rfl,rfl⟩,lc.f _ c (Q2.1 hpu).1 c0];simp only[ZH];rw[C' ⟨ho,C01⟩];have:=ZF ((Qa W k c).v-(Qa W (gi W.IE k).IG c).IM) (Qa W k c).w;omega
  ·rw[e (Q2.1 iu).1 j0,B' h] at ho;exact lc.st p.a.tree iu iz j0 ((p.s i j iu j0 j1).st iz ho)
 ·unfold aK;have g0:=(Q2.1 gu).1;rw[e g0 c0,B' λh=>gk h.1.symm,act g hg,HM u0 u1 g0];exact h
def zn6{W:Q7}(p:TX W){c d:Int}(d1:1<=d)(c0:0<=c)(c1:c<(W.IF.length:Int))(hI:∀g:Int,Q6 W.IE g->d<dep 3 W.IE g->aK W c g):∀k:Nat,k<=8->
  LC c W (Z9 W c d k)/\TX (Z9 W c d k)/\∀g:Int,Q6 W.IE g->d<dep 3 W.IE g\/dep 3 W.IE g=d/\g<(k:Int)->aK (Z9 W c d k) c g
 |0,_=>⟨LC.refl _ _,p,λg gu h=>hI g gu (by
   rcases h with h|h
   ·exact h
   ·have:=(Q2.1 gu).1;have:=h.2;omega)⟩
 |k+1,hk=>by
  obtain⟨a,b,ih⟩:=zn6 p d1 c0 c1 hI k Qo;have hl:=b.a.gl;have hT:=a.o.g;simp only[Z9];split
  ·rename_i hc;have hu:Q6 (Z9 W c d k).IE (k:Int):=Q2.2 ⟨Qo,Qo,hc.1⟩;obtain⟨l1,l2,l3,l4⟩:=zyn b hu hc.2 d1 c0 (c:=c) (by rw[a.cs];exact c1);refine⟨a.trans p.a.tree l1,l2,λg gu h=>?_⟩
   by_cases e:g=(k:Int)
   ·subst e;exact l3
   ·have hkz:(k:Int)≠0:=λe=>by have:=hc.2;rw[e,ZR] at this;omega
    obtain⟨_,_,_,n,e1,e2,_⟩:=Y0 b.a.tree hu hkz;refine l4 g (by rw[hT.aO];exact gu) e (λhp=>?_) (ih g gu ?_)
    ·rw[hp,hT.dep] at e2;have:=hc.2;omega
    ·rcases h with h|h
     ·exact .inl h
     ·exact .inr ⟨h.1,by have:=h.2;omega⟩
  ·rename_i hc;refine⟨a,b,λg gu h=>ih g gu ?_⟩;rcases h with h|h
   ·exact .inl h
   ·refine .inr ⟨h.1,?_⟩
    by_cases e:g=(k:Int)
    ·subst e;exact Ir ⟨by rw[hT.u];exact(Q2.1 gu).2.2,by rw[hT.dep];exact h.1⟩ hc
    ·have:=h.2;omega
def zja{W:Q7}(p:TX W){c:Int}(c0:0<=c)(c1:c<(W.IF.length:Int)):LC c W (QF W c)/\TX (QF W c)/\∀g:Int,Q6 W.IE g->g≠0->aK (QF W c) c g:=by
 have key:∀j:Nat,j<=3->LC c W (Yh W c j)/\TX (Yh W c j)/\∀g:Int,Q6 W.IE g->3-(j:Int)<dep 3 W.IE g->aK (Yh W c j) c g:=by
  intro j
  induction j with
  |zero=>exact λ_=>⟨LC.refl _ _,p,λg gu h=>by have:=(Kr p.a gu).2;omega⟩
  |succ j ih=>
   intro hj;obtain⟨a,b,h⟩:=ih Qo;have hT:=a.o.g;obtain⟨a2,b2,h2⟩:=zn6 b (c:=c) (d:=3-(j:Int)) Qo c0 (by rw[a.cs];exact c1) (λg gu hd=>h g (by rwa[hT.aO] at gu) (by rwa[hT.dep] at hd)) 8 (I7 _);refine⟨a.trans p.a.tree a2,b2,λg gu hd=>h2 g (by rw[hT.aO];exact gu) ?_⟩;rw[hT.dep];have:=(Q2.1 gu).2.1;have:=p.a.gl
   by_cases e:dep 3 W.IE g=3-(j:Int)
   ·exact .inr ⟨e,Qo⟩
   ·exact .inl Qo
 obtain⟨a,b,h⟩:=key 3 (I7 _);refine⟨a,b,λg gu gz=>h g gu ?_⟩;obtain⟨_,_,_,n,e1,_⟩:=Y0 p.a.tree gu gz;omega
def zee{W:Q7}(p:TX W):∀c:Nat,c<=W.IF.length->TX (Z2 W c)/\(Z2 W c).IF=W.IF
 |0,_=>⟨p,rfl⟩
 |c+1,hc=>by
  obtain⟨a,e⟩:=zee p c Qo;obtain⟨l,b,_⟩:=zja a (c:=(c:Int)) Qo (by rw[e];omega);exact⟨b,l.cs.trans e⟩
def TX.A96{W W':Q7}(p:TX W)(ho:UY W W')(ha:WA W'):TX W':=by
 have et:∀t,Q8 W' t=Q8 W t:=YE ho.t;have es:∀k d:Int,0<=k->Qa W' k d=Qa W k d:=λk d hk=>by unfold Qa;rw[ho.s k hk]
 have est:∀k d:Int,Q6 W.IE k->k≠0->(VY W' k d↔VY W k d):=λk d hu hz=>by
  unfold VY;rw[ho.g.p,es _ _ (Q2.1 (p.a.up hu hz)).1,es _ _ (Q2.1 hu).1]
 refine⟨⟨ha,λt t0 t1=>?_,λt t0 t1 n=>?_,λk d hu d0 d1=>?_⟩,λd d0 d1=>?_⟩
 ·rw[et];rcases p.t t t0 t1 with hz|⟨n,hx⟩
  ·exact .inl hz
  ·refine .inr ⟨n,hx.st,by rw[ho.g.aO];exact hx.g,hx.n,hx.m,hx.m0,hx.s,hx.u,hx.l1,hx.l2,λh1=>?_⟩;rw[es _ _ (Q2.1 hx.g).1];exact hx.f h1
 ·rw[et] at n ⊢;rw[ho.c];exact p.l t t0 t1 n
 ·rw[ho.g.aO] at hu;rw[ho.c] at d1;have hs:=p.s k d hu d0 d1;have k0:=(Q2.1 hu).1;exact⟨by rw[es k d k0];exact hs.s,by rw[es k d k0];exact hs.root,λhz h=>(est k d hu hz).2 (hs.st hz (by rwa[es k d k0] at h))⟩
 ·rw[ho.c] at d1;have hc:=p.c d d0 d1;refine⟨by rw[ho.c];exact hc.b,by rw[ho.c];exact hc.i,by rw[ho.c];exact hc.c1,by rw[ho.c];exact hc.c2,by rw[ho.c];exact hc.no,by rw[ho.c];exact hc.yes,?_⟩;rw[ho.c];simp only[et];intro h0 h1 h2;obtain⟨q1,q2⟩:=hc.q h0 h1 h2
  have hu:Q6 W.IE (Q8 W (gi W.IF d).cur).II:=by
   rcases p.t _ h0 hc.c2 with hz|⟨_,hx⟩
   ·rw[hz.1] at h1;cases h1
   ·exact hx.g
  refine⟨by rw[es _ d (Q2.1 hu).1];exact q1,λx hx=>?_⟩;rw[Jc ho.g] at hx;obtain⟨xu,xz⟩:=Yv p.a.tree _ hu x hx;obtain⟨s1,s2⟩:=q2 x hx;refine⟨(est x d xu xz).2 s1,?_⟩;rw[ho.g.p,es x d (Q2.1 xu).1,es _ d (Q2.1 (p.a.up xu xz)).1];exact s2
structure FC (c:Int) (W W':Q7):Prop where
 o:HG c W W'
 cs:W'.IF=W.IF
 on:∀k d:Int,0<=k->0<=d->(Qa W' k d).on=(Qa W k d).on
 v:∀k d:Int,0<=k->0<=d->(Qa W' k d).v=(Qa W k d).v
 w:∀k d:Int,0<=k->0<=d->(Qa W' k d).w=(Qa W k d).w
 s:∀k d:Int,0<=k->0<=d->(Qa W' k d).sum=(Qa W k d).sum
 up:∀k d:Int,0<=k->0<=d->(Qa W k d).IM<=(Qa W' k d).IM
 fl:∀k:Int,0<=k->(Qa W' k c).IM=(Qa W k c).IM\/Za W k c 20/\(Qa W' k c).IM=QZ W k c 20
def KU{W:Q7}(ha:WA W){c:Int}(c0:0<=c)(c1:c<(W.IF.length:Int)):∀k:Nat,k<=8->FC c W (QI W c k)/\WA (QI W c k)/\∀g:Int,Q6 W.IE g->g<(k:Int)->Za W g c 20->QZ W g c 20<=(Qa (QI W c k) g c).IM
 |0,_=>⟨⟨HG.refl _ _,rfl,λ_ _ _ _=>rfl,λ_ _ _ _=>rfl,λ_ _ _ _=>rfl,λ_ _ _ _=>rfl,λ_ _ _ _=>I2 _,λ_ _=>.inl rfl⟩,ha,λg gu h=>by have:=(Q2.1 gu).1;omega⟩
 |k+1,hk=>by
  obtain⟨f,hA,ih⟩:=KU ha c0 c1 k Qo;have hl:=hA.gl;have hT:=f.o.g;have hb:=HI f.o.t hT ha.gl (λi hi=>f.on i c hi c0) (λi hi=>f.v i c hi c0);simp only[QI];split
  ·rename_i hc;have hu:Q6 (QI W c k).IE (k:Int):=Q2.2 ⟨Qo,Qo,hc.1⟩;have hsl:=hA.sl hu;have oM:c<((gi (QI W c k).IE (k:Int)).IH.length:Int):=by rw[hsl,f.cs];exact c1
   have e:∀{i j:Int},0<=i->0<=j->Qa (RC (QI W c k) (k:Int) c (Eo (QI W c k) (k:Int) c)) i j=if (k:Int)=i/\c=j then Eo (QI W c k) (k:Int) c else Qa (QI W c k) i j:=λhi hj=>UV Qo Qo c0 oM hi hj
   refine⟨⟨f.o.trans (NP Qo Qo c0 oM),f.cs,λi j hi hj=>?_,λi j hi hj=>?_,λi j hi hj=>?_,λi j hi hj=>?_,λi j hi hj=>?_,λi hi=>?_⟩,hA.RC Qo Qo,λg gu hg hB=>?_⟩
   ·rw[e hi hj];split
    ·rename_i h;obtain⟨rfl,rfl⟩:=h;exact f.on _ _ hi hj
    ·exact f.on i j hi hj
   ·rw[e hi hj];split
    ·rename_i h;obtain⟨rfl,rfl⟩:=h;exact f.v _ _ hi hj
    ·exact f.v i j hi hj
   ·rw[e hi hj];split
    ·rename_i h;obtain⟨rfl,rfl⟩:=h;exact f.w _ _ hi hj
    ·exact f.w i j hi hj
   ·rw[e hi hj];split
    ·rename_i h;obtain⟨rfl,rfl⟩:=h;exact f.s _ _ hi hj
    ·exact f.s i j hi hj
   ·rw[e hi hj];split
    ·rename_i h;obtain⟨rfl,rfl⟩:=h;have h1:=f.up (k:Int) c hi hj;have h2:=hc.2.2;show _<=QZ (QI W c k) (k:Int) c 20;omega
    ·exact f.up i j hi hj
   ·rw[e hi c0];split
    ·rename_i h;obtain⟨rfl,_⟩:=h;refine .inr ⟨(hb _).1▸hc.2.1,?_⟩;show QZ (QI W c k) (k:Int) c 20=_;exact(hb _).2
    ·exact f.fl i hi
   ·have g0:=(Q2.1 gu).1;rw[e g0 c0];split
    ·rename_i h;obtain⟨rfl,_⟩:=h;show _<=QZ (QI W c k) (k:Int) c 20;rw[(hb _).2];exact I2 _
    ·rename_i h;exact ih g gu (by have:g≠(k:Int):=λe=>h ⟨e.symm,rfl⟩;omega) hB
  ·rename_i hc;refine⟨f,hA,λg gu hg hB=>?_⟩
   by_cases e:g=(k:Int)
   ·subst e;rw[hT.u,(hb _).1,(hb _).2] at hc
    by_cases h:QZ W (k:Int) c 20>(Qa (QI W c k) (k:Int) c).IM
    ·exact Ir ⟨(Q2.1 gu).2.2,hB,h⟩ hc
    ·omega
   ·exact ih g gu Qo hB
def HG.SY{c d:Int}{W W':Q7}(h:HG c W W')(d0:0<=d)(hd:d≠c)(g:Int):Qv W' g d=Qv W g d:=
 T0 h.t h.g λj _ _ _ _=>by rw[h.e _ d Qo d0 hd]
def HG.line{c:Int}{W W':Q7}(h:HG c W W')(ht:Yr W.IE){t:Int}(hu:Q6 W.IE (Q8 W t).II)(d0:0<=(Q8 W t).R1)(hd:(Q8 W t).R1≠c):Zf W' t=Zf W t:=by
 unfold Zf JR;rw[YE h.t,Jc h.g]
 congr 1
 rw[Bool.eq_iff_iff,List.all_eq_true,List.all_eq_true];refine forall_congr' λx=>forall_congr' λhx=>?_
 rw[h.e x _ (Q2.1 (Yv ht _ hu x hx).1).1 d0 hd]
structure Dn (W:Q7) (c:Int):Prop where
 on:∀k:Int,Q6 W.IE k->k≠0->aK W c k
 cu:0<=(gi W.IF c).cur->(Q8 W (gi W.IF c).cur).R1=c/\Zf W (gi W.IF c).cur=true
 fl:∀k:Int,Q6 W.IE k->Za W k c 20->QZ W k c 20<=(Qa W k c).IM
def Dn.oth{c d:Int}{W W':Q7}(h:Dn W d)(p:TX W)(o:HG c W W')(d0:0<=d)(d1:d<(W.IF.length:Int))(hd:d≠c):Dn W' d:=by
 refine⟨λk hu hz=>?_,λh0=>?_,λk hu hB=>?_⟩
 ·rw[o.g.aO] at hu;have k0:=(Q2.1 hu).1;have:=h.on k hu hz;unfold aK at this ⊢;rw[o.e k d k0 d0 hd,o.SY d0 hd,zcy (o.b k k0)];exact this
 ·rw[o.cp d d0 hd] at h0 ⊢;rw[YE o.t];obtain⟨h1,h2⟩:=h.cu h0;refine⟨h1,?_⟩
  have hs:(Q8 W (gi W.IF d).cur).state=1:=by
   unfold Zf at h2;rw[A'] at h2;exact Iz h2.1
  have hu:Q6 W.IE (Q8 W (gi W.IF d).cur).II:=by
   rcases p.t _ h0 (p.c d d0 d1).c2 with hz|⟨_,hx⟩
   ·rw[hz.1] at hs;cases hs
   ·exact hx.g
  rw[o.line p.a.tree hu (by rw[h1];exact d0) (by rw[h1];exact hd)];exact h2
 ·rw[o.g.aO] at hu;have hb:=HI (d:=d) o.t o.g p.a.gl (λi hi=>by rw[o.e i d hi d0 hd]) (λi hi=>by rw[o.e i d hi d0 hd]) k;rw[hb.1] at hB;rw[hb.2,o.e k d (Q2.1 hu).1 d0 hd];exact h.fl k hu hB
def EU.cp{W:Q7}{x:PS}(h:EU W x)(cs:List PP):EU { W with IF:=cs } x:=⟨h.st,h.g,h.n,h.m,h.m0,h.s,h.u,h.l1,h.l2,h.f⟩
def zpr.cp{W:Q7}{k c:Int}(h:zpr W k c)(cs:List PP):zpr { W with IF:=cs } k c:=⟨h.s,h.root,h.st⟩
def PreA.Rc{W:Q7}(p:PreA W){c:Int}(c0:0<=c)(c1:c<(W.IF.length:Int)):PreA (Rc W c):=by
 have hlen:(YtjinkcmkgnofjaaGreatDoor.Rc W c).IF.length=W.IF.length:=E';refine⟨?_,λt t0 t1=>?_,λt t0 t1 n=>?_,λk d hu d0 d1=>?_⟩
 ·refine p.a.cp E' ?_;rw[zmt E' λj hj=>?_]
  ·exact p.a.ups
  ·rw[Qx _ _ c0 c1 Qo];split
   ·rename_i e;rw[<-e];rfl
   ·rfl
 ·rcases p.t t t0 t1 with h|h
  ·exact .inl h
  ·exact .inr ⟨h.1,h.2.cp _⟩
 ·rw[hlen];exact p.l t t0 t1 n
 ·rw[hlen] at d1;exact(p.s k d hu d0 d1).cp _
def TX.Rc{W:Q7}(p:TX W){c:Int}(c0:0<=c)(c1:c<(W.IF.length:Int)):TX (Rc W c):=by
 refine⟨p.toPreA.Rc c0 c1,λd d0 d1=>?_⟩;have hlen:(YtjinkcmkgnofjaaGreatDoor.Rc W c).IF.length=W.IF.length:=E';have kH:gi (YtjinkcmkgnofjaaGreatDoor.Rc W c).IF d=if c=d then XA (gi W.IF c) else gi W.IF d:=Qx _ _ c0 c1 d0;rw[hlen] at d1;have hc:=p.c d d0 d1
 by_cases e:c=d
 ·subst e;rw[C' rfl] at kH;have n1:(XA (gi W.IF c)).cur = -1:=rfl;exact⟨by rw[kH];exact hc.b,by rw[kH];exact hc.i,by rw[kH,n1];exact I2 _,by rw[kH,n1];decide,λ_=>by rw[kH];rfl,λh=>by rw[kH,n1] at h;omega,λh=>by rw[kH,n1] at h;omega⟩
 ·rw[B' e] at kH;exact⟨by rw[kH];exact hc.b,by rw[kH];exact hc.i,by rw[kH];exact hc.c1,by rw[kH];exact hc.c2,by rw[kH];exact hc.no,by rw[kH];exact hc.yes,by rw[kH];exact hc.q⟩
def zzu{W:Q7}(p:TX W){c:Int}(c0:0<=c)(c1:c<(W.IF.length:Int)):TX (Xs W c)/\HG c W (Xs W c)/\Dn (Xs W c) c:=by
 obtain⟨l,p1,hon⟩:=zja p c0 c1;obtain⟨f,hA,qV⟩:=KU p1.a c0 (c:=c) (by rw[l.cs];exact c1) 8 (I7 _);have f:FC c (QF W c) (Z4 (QF W c) c):=f;have hA:WA (Z4 (QF W c) c):=hA;have qV:∀g:Int,Q6 (QF W c).IE g->g<((8:Nat):Int)->Za (QF W c) g c 20->QZ (QF W c) g c 20<=(Qa (Z4 (QF W c) c) g c).IM:=qV;have hon:∀g:Int,Q6 (QF W c).IE g->g≠0->aK (QF W c) c g:=λg gu gz=>hon g (by rwa[l.o.g.aO] at gu) gz
 have bU:=p1.a.gl;have hlc:(QF W c).IF.length=W.IF.length:=by rw[l.cs]
 have W8:Xs W c=if P9 (Z4 (QF W c) c) c=true then Rc (Z4 (QF W c) c) c else Z4 (QF W c) c:=rfl;have hO:HG c W (Z4 (QF W c) c):=l.o.trans f.o;rw[W8];clear W8;have oM:c<((QF W c).IF.length:Int):=by rw[hlc];exact c1
 generalize QF W c=V at p1 hon f hA qV bU hlc hO oM;generalize Z4 V c=F at f hA qV hO;have et:∀t,Q8 F t=Q8 V t:=YE f.o.t;have hT:=f.o.g;have aJ:=HI (d:=c) f.o.t hT bU (λi hi=>f.on i c hi c0) (λi hi=>f.v i c hi c0)
 have low:∀k:Int,Q6 V.IE k->∀v:Int,(Za V k c 20/\QZ V k c 20<=v)->(Qa V k c).IM<=v->(Qa F k c).IM<=v:=λk hu v hv hf=>by
  rcases f.fl k (Q2.1 hu).1 with e|⟨_,e⟩
  ·rw[e];exact hf
  ·rw[e];exact hv.2
 have st:∀k d:Int,Q6 V.IE k->k≠0->0<=d->(Qa V k d).on->VY V k d->VY F k d:=λk d hu hz d0 ho hs=>by
  have pu:=p1.a.up hu hz;have k0:=(Q2.1 hu).1;have q0:=(Q2.1 pu).1;unfold VY;rw[hT.p,f.v k d k0 d0,f.w k d k0 d0];have hup:=f.up _ d q0 d0;refine⟨?_,by have:=hs.2;omega⟩
  by_cases hd:d=c
  ·subst hd;exact low _ pu _ (zpy p1.a hu hz ho) hs.1
  ·rw[f.o.e _ d q0 d0 hd];exact hs.1
 have pa:PreA F:=by
  refine⟨hA,λt t0 t1=>?_,λt t0 t1 n=>?_,λk d hu d0 d1=>?_⟩
  ·rw[et];rcases p1.t t t0 t1 with hz|⟨n,hx⟩
   ·exact .inl hz
   ·refine .inr ⟨n,hx.st,by rw[hT.aO];exact hx.g,hx.n,hx.m,hx.m0,hx.s,hx.u,hx.l1,hx.l2,λh1=>?_⟩;obtain⟨d0,d1⟩:=p1.l t t0 t1 n;have g0:=(Q2.1 hx.g).1;have hup:=f.up _ _ g0 d0;have hs:=hx.f h1;refine⟨?_,Qo⟩
    by_cases hd:(Q8 V t).R1=c
    ·have hb:=zt4 p1.a t0 t1 h1;rw[hd] at hb hs ⊢;exact low _ hx.g _ hb hs.1
    ·rw[f.o.e _ _ g0 d0 hd];exact hs.1
  ·rw[et] at n ⊢;rw[f.cs];exact p1.l t t0 t1 n
  ·rw[hT.aO] at hu;rw[f.cs] at d1;have hs:=p1.s k d hu d0 d1;have k0:=(Q2.1 hu).1;refine⟨by rw[f.s k d k0 d0];exact hs.s,λhz=>?_,λhz h=>?_⟩
   ·rw[f.on k d k0 d0,f.v k d k0 d0,f.w k d k0 d0];exact hs.root hz
   ·rw[f.on k d k0 d0] at h;exact st k d hu hz d0 h (hs.st hz h)
 have ptu:∀t:Int,0<=t->t<12->(Q8 V t).state=1->Q6 V.IE (Q8 V t).II:=λt t0 t1 h=>by
  rcases p1.t t t0 t1 with hz|⟨_,hx⟩
  ·rw[hz.1] at h;cases h
  ·exact hx.g
 have pc:∀d:Int,0<=d->d<(V.IF.length:Int)->(d=c->P9 F c=false)->z30 F d:=λd d0 d1 hg=>by
  have hc:=p1.c d d0 d1;refine⟨by rw[f.cs];exact hc.b,by rw[f.cs];exact hc.i,by rw[f.cs];exact hc.c1,by rw[f.cs];exact hc.c2,by rw[f.cs];exact hc.no,by rw[f.cs];exact hc.yes,?_⟩;rw[f.cs];simp only[et];intro h0 h1 h2;obtain⟨q1,q2⟩:=hc.q h0 h1 h2;have hu:=ptu _ h0 hc.c2 h1;have hup:=f.up _ d (Q2.1 hu).1 d0;refine⟨Qo,λx hx=>?_⟩;rw[Jc hT] at hx;obtain⟨xu,xz⟩:=Yv p1.a.tree _ hu x hx;obtain⟨s1,s2⟩:=q2 x hx;have x0:=(Q2.1 xu).1;have q0:=(Q2.1 (p1.a.up xu xz)).1;have DY3:=f.up _ d q0 d0;refine⟨?_,by rw[hT.p,f.v x d x0 d0,f.w x d x0 d0];omega⟩
  by_cases hd:d=c
  ·subst hd
   have hl:Zf F (gi V.IF d).cur:=by
    have:=hg rfl;unfold P9 at this;rw[f.cs,et,Ih h0,h2] at this
    simpa using this
   unfold Zf JR at hl;rw[et,h2,Jc hT,A',List.all_eq_true] at hl;have ho:=hl.2 x hx;rw[f.on x d x0 d0] at ho;exact st x d xu xz d0 ho s1
  ·unfold VY;rw[hT.p,f.o.e x d x0 d0 hd,f.o.e _ d q0 d0 hd];exact s1
 have Bd3:∀k:Int,Q6 F.IE k->k≠0->aK F c k:=λk hu hz=>by
  rw[hT.aO] at hu;have k0:=(Q2.1 hu).1;have:=hon k hu hz;unfold aK at this ⊢;rw[f.on k c k0 c0,T0 f.o.t hT λj _ _ _ _=>f.on _ c Qo c0,zcy (f.o.b k k0)];exact this
 have CV6:∀k:Int,Q6 F.IE k->Za F k c 20->QZ F k c 20<=(Qa F k c).IM:=λk hu hB=>by
  rw[hT.aO] at hu;rw[(aJ k).1] at hB;rw[(aJ k).2];exact qV k hu (by have:=(Q2.1 hu).2.1;omega) hB
 split
 ·rename_i hg;have cF:c<(F.IF.length:Int):=by rw[f.cs];exact oM
  have kH:∀d:Int,0<=d->gi (Rc F c).IF d=if c=d then XA (gi F.IF c) else gi F.IF d:=λd d0=>Qx _ _ c0 cF d0
  have hlen:(Rc F c).IF.length=F.IF.length:=E';refine⟨⟨pa.Rc c0 cF,λd d0 d1=>?_⟩,hO.trans (zof c0 cF),Bd3,λh0=>?_,CV6⟩
  ·rw[hlen] at d1
   by_cases e:c=d
   ·subst e;have hc:=p1.c c c0 oM;have e1:gi (Rc F c).IF c=XA (gi V.IF c):=by rw[kH c c0,C' rfl,f.cs]
    have n1:(XA (gi V.IF c)).cur = -1:=rfl;exact⟨by rw[e1];exact hc.b,by rw[e1];exact hc.i,by rw[e1,n1];exact I2 _,by rw[e1,n1];decide,λ_=>by rw[e1];rfl,λh=>by rw[e1,n1] at h;omega,λh=>by rw[e1,n1] at h;omega⟩
   ·have hc:=pc d d0 (by rw[<-f.cs];exact d1) λh=>Ir h.symm e
    have e1:gi (Rc F c).IF d=gi F.IF d:=by rw[kH d d0,B' e]
    exact⟨by rw[e1];exact hc.b,by rw[e1];exact hc.i,by rw[e1];exact hc.c1,by rw[e1];exact hc.c2,by rw[e1];exact hc.no,by rw[e1];exact hc.yes,by rw[e1];exact hc.q⟩
  ·rw[kH c c0,C' rfl] at h0;have h0:(0:Int)<=-1:=h0;omega
 ·rename_i hg;have hg:P9 F c=false:=by simpa using hg
  refine⟨⟨pa,λd d0 d1=>pc d d0 (by rw[<-f.cs];exact d1) λ_=>hg⟩,hO,Bd3,λh0=>?_,CV6⟩;unfold P9 at hg;rw[Ih h0,Bool.true_and,H'] at hg;exact⟨by simpa using hg.1,by simpa using hg.2⟩
def zo5{W:Q7}(p:TX W):∀c:Nat,c<=W.IF.length->TX (YB W c)/\(YB W c).IF.length=W.IF.length/\(YB W c).IJ=W.IJ/\QH W.IE (YB W c).IE/\∀d:Int,0<=d->d<(c:Int)->Dn (YB W c) d
 |0,_=>⟨p,rfl,rfl,QH.refl _,λd a b=>by omega⟩
 |c+1,hc=>by
  obtain⟨a,e,et,eg,ih⟩:=zo5 p c Qo;obtain⟨p1,o,dn⟩:=zzu a (c:=(c:Int)) Qo (by rw[e];omega);refine⟨p1,o.len.trans e,o.t.trans et,eg.trans o.g,λd d0 d1=>?_⟩
  by_cases h:d=(c:Int)
  ·subst h;exact dn
  ·exact(ih d d0 Qo).oth a o d0 (by rw[e];omega) h
def zvp{K:Int}{W:Q7}(sw:SW K W)(p:TX W)(hK:0<=K):TX (Qb W)/\Fr W (Qb W)/\∀d:Int,0<=d->d<(W.IF.length:Int)->Dn (Qb W) d:=by
 obtain⟨a,e⟩:=zee p W.IF.length (I7 _);obtain⟨s1,_⟩:=T3 (F:=K) (K:=K+Qh) (sw.sf.mono (I2 _) (by simp only[Qh];omega)) (I2 _) W.IF.length (I7 _);obtain⟨s2,b2⟩:=JP s1 8 (I7 _);have p2:=a.A96 b2 s2.w.a;have e2:(Zv (Z2 W W.IF.length) 8).IF.length=W.IF.length:=by rw[b2.c,e]
 obtain⟨p3,e3,_,_,dn⟩:=zo5 p2 W.IF.length (by rw[e2];exact I7 _);exact⟨p3,(JF sw hK).2,dn⟩
def z5r{K:Int}{W:Q7}(sw:SW K W)(hK:K<=100000000000000000)(p:TX W)(hl:zbm W)(dn:∀d:Int,0<=d->d<(W.IF.length:Int)->Dn W d):XQ W/\z67 W:=by
 have tm:∀k c:Int,Q6 W.IE k->0<=c->c<(W.IF.length:Int)->Ya (Qa W k c).IM/\Ya (Qa W k c).v:=λk c hu c0 c1=>by
  have:=sw.s k c hu c0 c1;exact⟨Xj.2 Qo,Xj.2 Qo⟩
 have tv:∀t:Int,0<=t->t<12->Ya (Q8 W t).v:=λt t0 t1=>by
  have:=sw.tv t t0 t1;exact Xj.2 Qo
 refine⟨⟨p.a,λt t0 t1=>?_,λk c k0 k1 c0 c1=>?_,λc c0 c1=>?_⟩,λk c hu c0 c1 hB=>(dn c c0 c1).fl k hu hB⟩
 ·rcases p.t t t0 t1 with hz|⟨n,hx⟩
  ·exact .inl hz
  ·obtain⟨d0,d1⟩:=p.l t t0 t1 n;exact .inr ⟨n,hx.st,hx.g,hx.n,hx.m,hx.m0,tv t t0 t1,hx.s,hx.u,hx.l1,hx.l2,hl t t0 t1 n,λh1=>(Bq (tv t t0 t1) (tm _ _ hx.g d0 d1).1).2 (hx.f h1)⟩
 ·have bU:=p.a.gl
  have hu:Q6 W.IE k:=by
   cases hb:(gi W.IE k).IV with
   |true=>exact Q2.2 ⟨k0,Qo,hb⟩
   |false=>
    have:=((p.a.grp k k0 k1).1 hb).l;omega
  have hsl:=p.a.sl hu;have c1:c<(W.IF.length:Int):=Qo;have hs:=p.s k c hu c0 c1;have ht:=tm k c hu c0 c1;have hw:=sw.s k c hu c0 c1;exact⟨ht.1,ht.2,hs.s,hw.2.2.2.2.1,hw.2.2.2.2.2,hs.root,λhz=>(dn c c0 c1).on k hu hz,λhz ho=>(Bq ht.2 (tm _ c (p.a.up hu hz) c0 c1).1).2 (hs.st hz ho)⟩
 ·have hc:=p.c c c0 c1;have jF:=p.a.t;refine⟨hc.b,hc.i,hc.c1,by have:=hc.c2;omega,hc.no,λh0=>?_⟩;obtain⟨y1,y2,y3⟩:=hc.yes h0;obtain⟨z1,z2⟩:=(dn c c0 c1).cu h0
  have hs:(Q8 W (gi W.IF c).cur).state=1:=by
   unfold Zf at z2;rw[A'] at z2;exact Iz z2.1
  obtain⟨q1,q2⟩:=hc.q h0 hs z1;refine⟨y1,y2,y3,z1,z2,?_⟩;unfold MR Oi;rw[A',List.all_eq_true];exact⟨Ih q1,λx hx=>Ih (q2 x hx).2⟩
def Z7{α β:Type}[Inhabited α]{f:α->β}(l:List α)(k:Int){x:α}(h:f x=f (gi l k))(i:Int):f (gi (l.set k.toNat x) i)=f (gi l i):=by
 unfold gi at *;simp only[List.getD_eq_getElem?_getD,List.getElem?_set] at *
 by_cases e:k.toNat=i.toNat
 ·rw[C' e];split
  ·rw[<-e];simpa using h
  ·rename_i hl;have:l[i.toNat]? = none:=List.getElem?_eq_none_iff.2 Qo;rw[this]
 ·rw[B' e]
structure O0 (W W':Q7):Prop where
 g:QH W.IE W'.IE
 m:∀i:Int,(gi W'.IE i).IF=(gi W.IE i).IF
 w:∀i:Int,(gi W'.IE i).R2=(gi W.IE i).R2
 len:W'.IF.length=W.IF.length
 u:∀i:Int,(gi W'.IF i).up=(gi W.IF i).up
def O0.refl(W:Q7):O0 W W:=⟨QH.refl _,λ_=>rfl,λ_=>rfl,rfl,λ_=>rfl⟩
def O0.trans{A B C:Q7}(h:O0 A B)(k:O0 B C):O0 A C:=⟨h.g.trans k.g,λi=>(k.m i).trans (h.m i),λi=>(k.w i).trans (h.w i),k.len.trans h.len,λi=>(k.u i).trans (h.u i)⟩
def zrj{W:Q7}{g:Int}{x:ZD}(u:x.IV=(gi W.IE g).IV)(p:x.IG=(gi W.IE g).IG)(n:x.name=(gi W.IE g).name)(m:x.IF=(gi W.IE g).IF)(w:x.R2=(gi W.IE g).R2):O0 W (R3 W g x):=
 ⟨⟨E',λi=>Z7 (f:=ZD.IV) _ _ u i,λi=>Z7 (f:=ZD.IG) _ _ p i,λi=>Z7 (f:=ZD.name) _ _ n i⟩,λi=>Z7 (f:=ZD.IF) _ _ m i,λi=>Z7 (f:=ZD.R2) _ _ w i,rfl,λ_=>rfl⟩
def zfp(W:Q7)(g c:Int)(s:KM):O0 W (RC W g c s):=zrj rfl rfl rfl rfl rfl
def zri(W:Q7)(g:Int)(b:Um):O0 W (RF W g b):=zrj rfl rfl rfl rfl rfl
def zrl(W:Q7)(t:Int)(x:PS):O0 W (J' W t x):=⟨QH.refl _,λ_=>rfl,λ_=>rfl,rfl,λ_=>rfl⟩
def zmj{W:Q7}{c:Int}{x:PP}(u:x.up=(gi W.IF c).up):O0 W (RO W c x):=⟨QH.refl _,λ_=>rfl,λ_=>rfl,E',λi=>Z7 (f:=PP.up) _ _ u i⟩
def D1(W:Q7)(c:Int):O0 W (Rc W c):=zmj rfl
def Af(W:Q7)(c d:Int):∀k:Nat,O0 W (Z9 W c d k)
 |0=>O0.refl _
 |k+1=>by
  simp only[Z9];split
  ·exact(Af W c d k).trans (zfp _ _ _ _)
  ·exact Af W c d k
def EL(W:Q7)(c:Int):∀j:Nat,O0 W (Yh W c j)
 |0=>O0.refl _
 |j+1=>(EL W c j).trans (Af _ _ _ _)
def zfo(W:Q7):∀c:Nat,O0 W (Z2 W c)
 |0=>O0.refl _
 |c+1=>(zfo W c).trans (EL (Z2 W c) (c:Int) 3)
def Ad(W:Q7)(k:Int):∀c:Nat,O0 W (Ze W k c)
 |0=>O0.refl _
 |c+1=>by
  simp only[Ze];split
  ·exact(Ad W k c).trans (zri _ _ _)
  ·exact Ad W k c
def Ae(W:Q7):∀k:Nat,O0 W (Zv W k)
 |0=>O0.refl _
 |k+1=>by
  simp only[Zv];split
  ·exact(Ae W k).trans (Ad _ _ _)
  ·exact Ae W k
def EK(W:Q7)(c:Int):∀k:Nat,O0 W (QI W c k)
 |0=>O0.refl _
 |k+1=>by
  simp only[QI];split
  ·exact(EK W c k).trans (zfp _ _ _ _)
  ·exact EK W c k
def zvw(W:Q7)(c:Int):O0 W (Xs W c):=by
 have h:=(EL W c 3).trans (EK (QF W c) c 8);unfold Xs;split
 ·exact h.trans (D1 _ _)
 ·exact h
def zj0(W:Q7):∀c:Nat,O0 W (YB W c)
 |0=>O0.refl _
 |c+1=>(zj0 W c).trans (zvw (YB W c) (c:Int))
def zrk(W:Q7):O0 W (Qb W):=((zfo W W.IF.length).trans (Ae (Z2 W W.IF.length) 8)).trans (zj0 (PK (Z2 W W.IF.length)) W.IF.length)
def O0.ups{W W':Q7}(h:O0 W W'):JG W'.IF=JG W.IF:=zmt h.len λj _=>h.u j
def O0.pin{W W':Q7}(h:O0 W W')(g u:Int):Ta W'.IE g u=Ta W.IE g u:=by
 unfold Ta;rw[show QR W'.IE g=QR W.IE g from h.g.path 3 g]
 congr 1
 funext s x
 rw[h.m]
def O0.wh{W W':Q7}(h:O0 W W')(g m:Int):QD W' g m=QD W g m:=by
 unfold QD;rw[h.ups,h.pin]
def O0.loc{W W':Q7}(h:O0 W W')(ht:W'.IJ=W.IJ)(hl:zbm W):zbm W':=λt t0 t1 n=>by
 rw[YE ht] at n ⊢;rw[h.wh];exact hl t t0 t1 n
def zfl{K:Int}{W:Q7}(sw:SW K W)(hK:0<=K)(fZ:K+UW<=100000000000000000)(p:TX W)(hl:zbm W):XQ (Qb W)/\z67 (Qb W):=by
 obtain⟨p1,hf,dn⟩:=zvp sw p hK;exact z5r (JF sw hK).1 fZ p1 ((zrk W).loc hf.t hl) λd d0 d1=>dn d d0 (by rw[<-hf.c];exact d1)
def zpr.Bm7{W W':Q7}{k c:Int}(h:zpr W k c)(e:Qa W' k c=Qa W k c)(ep:k≠0->(Qa W' (gi W'.IE k).IG c).IM=(Qa W (gi W.IE k).IG c).IM):zpr W' k c:=
 ⟨by rw[e];exact h.s,by rw[e];exact h.root,λhz ho=>by
  rw[e] at ho;have:=h.st hz ho;unfold VY at this ⊢;rw[e,ep hz];exact this⟩
def TX.J'{W:Q7}(p:TX W){t:Int}(t0:0<=t)(t1:t<12){x:PS}(hx:x.state=0/\x=T8\/x.state≠0/\EU W x/\0<=x.R1/\x.R1<(W.IF.length:Int))(hc:∀c:Int,0<=c->c<(W.IF.length:Int)->(gi W.IF c).cur=t->x.state=1->x.R1=c->x.v-(Qa W x.II c).IM<=QS (gi W.IF c).SX (Qf x.nice)/\∀y∈QR W.IE x.II,VY W y c/\(Qa W y c).v-(Qa W (gi W.IE y).IG c).IM<=QS (gi W.IF c).SX (Qa W y c).w):TX (J' W t x):=by
 have hl:=p.a.t;have e:∀i:Int,0<=i->Q8 (YtjinkcmkgnofjaaGreatDoor.J' W t x) i=if t=i then x else Q8 W i:=λi i0=>Qx _ _ t0 Qo i0
 refine⟨⟨p.a.tk E',λi a b=>?_,λi a b n=>?_,λk c hu c0 c1=>?_⟩,λc c0 c1=>?_⟩
 ·rw[e i a];split
  ·rcases hx with h|⟨h1,h2,_⟩
   ·exact .inl h
   ·exact .inr ⟨h1,h2.st,h2.g,h2.n,h2.m,h2.m0,h2.s,h2.u,h2.l1,h2.l2,h2.f⟩
  ·rcases p.t i a b with h|⟨h1,h2⟩
   ·exact .inl h
   ·exact .inr ⟨h1,h2.st,h2.g,h2.n,h2.m,h2.m0,h2.s,h2.u,h2.l1,h2.l2,h2.f⟩
 ·rw[e i a] at n ⊢;split
  ·rename_i h;rw[C' h] at n;rcases hx with h|⟨_,_,h2⟩
   ·exact Ir h.1 n
   ·exact h2
  ·rename_i h;rw[B' h] at n;exact p.l i a b n
 ·exact(p.s k c hu c0 c1).Bm7 rfl λ_=>rfl
 ·have h:=p.c c c0 c1;refine⟨h.b,h.i,h.c1,h.c2,h.no,h.yes,λh0=>?_⟩;rw[e _ h0];split
  ·rename_i he;exact λh1 h2=>hc c c0 c1 he.symm h1 h2
  ·exact h.q h0
def Ep(p:Nat->Bool):Nat->Int
 |0 => -1
 |k+1=>if (decide (Ep p k<0)&&p k)=true then (k:Int) else Ep p k
def KY(p:Nat->Bool):∀k:Nat,(Ep p k = -1/\∀j,j<k->p j=false)\/(0<=Ep p k/\Ep p k<(k:Int)/\p (Ep p k).toNat/\∀j:Nat,(j:Int)<Ep p k->p j=false)
 |0=>.inl ⟨rfl,λj hj=>Ir hj (Nat.not_lt_zero j)⟩
 |k+1=>by
  simp only[Ep];rcases KY p k with ⟨h1,h2⟩|⟨h1,h2,h3,h4⟩
  ·cases hp:p k with
   |true=>
    rw[h1,C' (by rfl)];exact .inr ⟨Qo,Qo,by simpa using hp,λj hj=>h2 j Qo⟩
   |false=>
    rw[B' Qs,h1];refine .inl ⟨rfl,λj hj=>?_⟩
    by_cases e:j=k
    ·rw[e];exact hp
    ·exact h2 j Qo
  ·rw[B' (by rw[decide_eq_false (by omega:¬Ep p k<0)];simp)];exact .inr ⟨h1,Qo,h3,h4⟩
def zsg{p:Nat->Bool}{n:Nat}(h:∀j,j<n->p j=false):Ep p n = -1:=by
 rcases KY p n with ⟨h1,_⟩|⟨h1,h2,h3,_⟩
 ·exact h1
 ·rw[h _ Qo] at h3;cases h3
def zsf{p:Nat->Bool}{n:Nat}{a:Int}(a0:0<=a)(a1:a<(n:Int))(hp:p a.toNat)(hn:∀j:Nat,(j:Int)<a->p j=false):Ep p n=a:=by
 rcases KY p n with ⟨_,h2⟩|⟨h1,h2,h3,h4⟩
 ·rw[h2 _ Qo] at hp;cases hp
 ·by_cases l:Ep p n<a
  ·rw[hn _ Qo] at h3;cases h3
  ·by_cases g:a<Ep p n
   ·rw[h4 _ Qo] at hp;cases hp
   ·omega
def MB(W:Q7)(j:Nat):Bool:=(Q8 W (j:Int)).state==0
def TG(W:Q7):Int:=Ep (MB W) 12
noncomputable def T2(W:Q7)(g n x:Int):Int:=if Qf n=0\/M1 x=false\/x=0 then 1 else if Q6 W.IE g=false then 2 else if TG W<0 then 3 else if QO W=false then 10 else 0
def KW(W:Q7)(g x:Int):Int:=K4 W (QD W g x)
def KX(W:Q7)(g n x:Int):PS:=⟨1,g,KW W g x,n,x,(Qa W g (KW W g x)).IM,0,0,0⟩
def FJ(W:Q7)(g n x:Int):Q7:=Qb (Rc (J' W (TG W) (KX W g n x)) (KW W g x))
noncomputable def Tf(W:Q7)(bar:Int)(W':Q7)(a:Int):Q7×Int×Int:=if Qr W=false then (Lu,-1,1) else if bar≠0 then (W,-1,bar) else (W',a,0)
def P1(r:Q7×Int×Int)(w:Wo)(v:Va)(w':Wo):Prop:=∃n m',v=.tuple #[.agg (Qc r.1 m').toArray,.int .i64 r.2.1,.int .i64 r.2.2]/\Zp n w.heap.size w' r.1 m'/\Q0 [] w w'
structure z52 (W:Q7) (g n x:Int):Prop where
 w:Qf n≠0
 m:M1 x=true
 m0:x≠0
 u:Q6 W.IE g=true
 f0:0<=TG W
 f1:TG W<12
 f2:(Q8 W (TG W)).state=0
 r:QO W=true
 sw:SW Ql W
 c0:0<=KW W g x
 c1:KW W g x<(W.IF.length:Int)
 ch:Zq (QD W g x) (KW W g x)=true
 sw2:SW Ql (J' W (TG W) (KX W g n x))
def zlc{W:Q7}{g n x:Int}(hW:Qr W)(hb:T2 W g n x=0):z52 W g n x:=by
 have wp:=Qm.1 hW;unfold T2 at hb
 split at hb
 ·cases hb
 ·rename_i h1
  split at hb
  ·cases hb
  ·rename_i h2
   split at hb
   ·cases hb
   ·rename_i h3
    split at hb
    ·cases hb
    ·rename_i h4;have h4:QO W:=by simpa using h4
     have h2:Q6 W.IE g:=by simpa using h2
     have sw:=MS wp (Qm.1 h4)
     have hf:0<=TG W/\TG W<12/\MB W (TG W).toNat:=by
      rcases KY (MB W) 12 with ⟨a,_⟩|⟨a,b,c,_⟩
      ·unfold TG at h3;omega
      ·exact⟨a,b,c⟩
     obtain⟨c0,c1,ch⟩:=HW wp.a g x;have hs:=sw.s g _ h2 c0 c1;have e:(((TG W).toNat:Nat):Int)=TG W:=Qo;refine⟨λh=>h1 (.inl h),?_,λh=>h1 (.inr (.inr h)),h2,hf.1,hf.2.1,?_,h4,sw,c0,c1,ch,sw.J' hf.1 hf.2.1 (x:=KX W g n x) (λ_=>⟨h2,c0,c1⟩) hs.1 hs.2.1⟩
     ·cases hm:M1 x with
      |true=>rfl
      |false=>exact Ir (.inr (.inl hm)) h1
     ·have:=hf.2.2;unfold MB at this;rw[e] at this;exact Iz this
section
variable {W W':Q7}{m:MW}{w:Wo}{bar a:Int}
def P1.bad{w':Wo}(hW:Qr W=false)(hx:Q0 [] w w'):P1 (Tf W bar W' a) w (.tuple #[.agg (Qc Lu z0h).toArray,.int .i64 (-1),.int .i64 1]) w':=by
 rw[show Tf W bar W' a=(Lu,-1,1) from C' hW];exact⟨0,z0h,rfl,Zp.zero _ _,hx⟩
def P1.no{n:Nat}{bs:List Nat}{w':Wo}{m':MW}(hW:Qr W)(hb:bar≠0)(hk:Wk n bs w w' W m'){c:Int}(hc:bar=c):P1 (Tf W bar W' a) w (.tuple #[.agg (Qc W m').toArray,.int .i64 (-1),.int .i64 c]) w':=by
 rw[show Tf W bar W' a=(W,-1,c) by unfold Tf;rw[B' (by rw[hW];decide),C' hb,hc]];exact⟨n,m',rfl,hk.fin⟩
def P1.ok{n:Nat}{bs:List Nat}{w':Wo}{m':MW}(hW:Qr W)(hb:bar=0)(hk:Wk n bs w w' W' m'):P1 (Tf W bar W' a) w (.tuple #[.agg (Qc W' m').toArray,.int .i64 a,.int .i64 0]) w':=by
 rw[show Tf W bar W' a=(W',a,0) by unfold Tf;rw[B' (by rw[hW];decide),B' (by simpa using hb)]];exact⟨n,m',rfl,hk.fin⟩
def Gk{g n x:Int}(h:XV [] w W m)(hl:VB W) :
  Cz Xv #[.agg (Qc W m).toArray,.int .i64 g,.int .i64 n,.int .i64 x] w λe w'=>∃v,e=.returned v/\P1 (Tf W (T2 W g n x) (FJ W g n x) (TG W)) w v w':=by
 refine CJ W.now m.cO W.IF.length m.cC m.tO W.IJ.length m.tC m.gO W.IE.length m.gC g n x (R:=λv w'=>P1 (Tf W (T2 W g n x) (FJ W g n x) (TG W)) w v w') ?_;intro y hy y1 cW wr Rk V';refine I3 (Zn (h.ext Rk) hl) ?_;rintro e wv (⟨hW,he,SQ⟩|⟨hW,m',he,hM,SQ⟩)
 ·exact⟨_,_,_,_,_,_,_,_,_,_,_,he,Qi SQ V',λ_ R5 Rl=>P1.bad hW ((Rk.trans SQ).fresh Rl λz hm=>.inl (YM hy cW z hm)),λg=>by simp at g⟩
 have hK:=Wk.begin hy cW Rk V' hM SQ;have hr:=hK.rd;have wp:=Qm.1 hW;have jF:=wp.a.t;refine⟨_,_,_,_,_,_,_,_,_,_,_,he,Qi SQ V',λg=>by split at g <;> simp at g,λ_=>⟨_,Yc,_,λ_=>Xq,λg1 R6 Rl=>?_,λg1=>⟨_,Xr hr.g,λg2 RD Rl=>?_,λg2=>⟨⟨Qo,Qo⟩,?_⟩⟩⟩⟩
 ·have hb:T2 W g n x=1:=by
   unfold T2;rw[C'];simp only[Iu,Is,ID] at g1;rcases g1 with (g1|g1)|g1
   ·exact .inl g1
   ·exact .inr (.inl g1)
   ·exact .inr (.inr g1)
  exact P1.no hW (by rw[hb];decide) (hK.step Rl) hb
 ·have n1:¬(Qf n=0\/M1 x=false\/x=0):=by
   simp only[H',beq_eq_false_iff_ne,I6,ne_eq] at g1;rintro (h|h|h)
   ·exact g1.1.1 h
   ·rw[g1.1.2] at h;cases h
   ·exact g1.2 h
  have hb:T2 W g n x=2:=by unfold T2;rw[B' n1,C' (by simpa using g2)]
  exact P1.no hW (by rw[hb];decide) (hK.step Rl) hb
 have n1:¬(Qf n=0\/M1 x=false\/x=0):=by
  simp only[H',beq_eq_false_iff_ne,I6,ne_eq] at g1;rintro (h|h|h)
  ·exact g1.1.1 h
  ·rw[g1.1.2] at h;cases h
  ·exact g1.2 h
 have hu:Q6 W.IE g:=by simpa using g2
 have n2:¬Q6 W.IE g=false:=by rw[hu];decide
 refine⟨λvs w1=>∃a t:Int,vs=[.int .i64 a,.int .i64 t]/\-1<=t/\t<12/\(a = -1/\(∀j:Nat,t<(j:Int)->j<12->MB W j=false)\/t<a/\a<12/\MB W a.toNat/\∀j:Nat,t<(j:Int)->(j:Int)<a->MB W j=false)/\Q0 [y,y1] wv w1,
  λvs _=>(Ye 1 vs+1).toNat,λw1 sJ _=>⟨-1,_,rfl,Qo,Qo,.inl ⟨rfl,λj h1 h2=>by omega⟩,sJ⟩,?_⟩
 rintro av tv Rb fY ⟨a,t,bH,ht0,ht1,tG,hxw⟩;simp only[I4,I5,true_and,and_true] at bH;obtain⟨rfl,rfl⟩:=bH;have hK1:=hK.step hxw;have vL:=hK1.rd;refine⟨λIW=>?_,λRM=>?_⟩
 ·have IW:=Ot IW;have e:((tv.toNat:Nat):Int)=tv:=Qo;have kE:MB W tv.toNat=((Q8 W tv).state==0):=by unfold MB;rw[e]
  refine⟨vL.t.ix QT IW Qo,_,vL.t.f IW Qo (j:=0) rfl,λg3=>⟨⟨Qo,Qo⟩,λRQ Su _=>⟨⟨tv,tv-1,rfl,Qo,Qo,.inr ⟨Qo,ht1,by rw[kE];exact g3,λj h1 h2=>by omega⟩,hxw.trans Su⟩,?_⟩⟩,λg3=>⟨⟨Qo,Qo⟩,λSj bE _=>⟨⟨av,tv-1,rfl,Qo,Qo,?_,hxw.trans bE⟩,?_⟩⟩⟩
  ·simp only[Ye,Ie,List.getElem?_cons_succ];omega
  ·have g3:MB W tv.toNat=false:=by rw[kE];exact g3
   have one:∀j:Nat,tv-1<(j:Int)->¬tv<(j:Int)->MB W j=false:=λj h1 h2=>by
    have:j=tv.toNat:=Qo;rw[this];exact g3
   rcases tG with ⟨h1,h2⟩|⟨h1,h2,h3,h4⟩
   ·exact .inl ⟨h1,λj j1 j2=>if h:tv<(j:Int) then h2 j h j2 else one j j1 h⟩
   ·exact .inr ⟨Qo,h2,h3,λj j1 j2=>if h:tv<(j:Int) then h4 j h j2 else one j j1 h⟩
  ·simp only[Ye,Ie,List.getElem?_cons_succ];omega
 ·have RM:=Ou RM;have ht:tv = -1:=Qo;subst ht
  have tH:av=TG W:=by
   rcases tG with ⟨h1,h2⟩|⟨h1,h2,h3,h4⟩
   ·rw[h1];exact(zsg λj hj=>h2 j Qo hj).symm
   ·exact(zsf Qo h2 h3 λj hj=>h4 j Qo hj).symm
  subst tH;refine⟨λg4 Sw eQ=>?_,λg4=>⟨λg5 SZ sV=>?_,λg5=>?_⟩⟩
  ·have g4:=Ot g4;have hb:T2 W g n x=3:=by unfold T2;rw[B' n1,B' n2,C' g4]
   exact P1.no hW (by rw[hb];decide) (hK1.step eQ) hb
  ·have g4:=Ou g4;have bM:¬QO W:=λhr=>by rw[C' hr] at g5;simp at g5
   have hb:T2 W g n x=10:=by unfold T2;rw[B' n1,B' n2,B' g4,C' (by simpa using bM)]
   rw[B' bM];exact P1.no hW (by rw[hb];decide) (hK1.step sV) hb
  have g4:=Ou g4;have bM:QO W:=Iq λhr=>by rw[B' hr] at g5;simp at g5
  have hb:T2 W g n x=0:=by unfold T2;rw[B' n1,B' n2,B' g4,B' (by rw[bM];decide)]
  have hf:=zlc hW hb;obtain⟨u0,u1,_⟩:=Q2.1 hu;have hsl:=wp.a.sl hu;have c0:=hf.c0;have c1:=hf.c1;have f0:=hf.f0;have f1:=hf.f1;have SS:Wk 8 [y,y1] w (Rw Rb m'.tO (Int.toNat (TG W)*9) (Xc (KX W g n x))) (J' W (TG W) (KX W g n x)) m':=hK1.Rw (hK1.own.AF3 f0 (by rw[jF];exact f1) (j:=0) (vs:=Xc (KX W g n x)) (x:=KX W g n x) (by simp[Xc]) (by simp[Xc])) Hx;refine⟨_,Jl vL wp.a.c2 wp.a.tree hu,_,Gm vL wp.a (zyk wp),vL.g.ix u0 u1,_,_,_,vL.g.Rn u0 u1,(vL.g.IH g u0 u1).ix YT c0 (by rw[hsl];exact c1),(Qa W g (KW W g x)).IM,zm2.f (vL.g.IH g u0 u1) c0 (by rw[hsl];exact c1) (j:=0) rfl,vL.t.ix QT f0 (by rw[jF];exact f1),ztu hK1.own hK1.nb f0 (by rw[jF];exact f1) (j:=0) (k:=9) Qd,λWL kL hs9=>?_⟩;have e5:Qc (J' W (TG W) (KX W g n x)) m'=Qc W m':=K9 _ _ _ _;have eH:=SS.step kL;have aT:=ZS eH.own c0 (show KW W g x<((J' W (TG W) (KX W g n x)).IF.length:Int) from c1);rw[e5] at aT;refine I3 aT ?_;rintro e2 RI ⟨bH,iD⟩;refine⟨_,_,_,_,_,_,_,_,_,_,bH,eH.kept iD hs9,λSq AC2 oP=>?_⟩;have hK7:=(eH.Ss iD hs9).step AC2;have tF:=QA hK7.own (hf.sw2.Rc c0 c1) Qd Qd hK7.base;refine I3 tF ?_;rintro e3 S3 ⟨m2,gD,hy5⟩;exact⟨_,_,_,_,_,_,_,_,_,_,gD,hK7.kept hy5 oP,λSZ sV=>P1.ok hW hb ((hK7.Ss hy5 oP).step sV)⟩
end
section
variable {base pb:Nat}{W W':Q7}{m:MW}{w:Wo}
end
structure Xo (W:Q7):Prop where
 wp:XQ W
 fl:z67 W
def ZQ{K:Int}{W:Q7}(sw:SW K W)(hK:0<=K)(fZ:K+UW<=100000000000000000)(p:TX W)(hl:zbm W):Xo (Qb W):=by
 obtain⟨a,b⟩:=zfl sw hK fZ p hl;exact⟨a,b⟩
def zbm.Rc{W:Q7}(h:zbm W)(c:Int):zbm (Rc W c):=(D1 W c).loc rfl h
def zbm.J'{W:Q7}(h:zbm W)(ha:WA W){t:Int}(t0:0<=t)(t1:t<12){x:PS}(hx:x.state≠0->Zq (QD W x.II x.mask) x.R1):zbm (J' W t x):=λi i0 i1 n=>by
 have hl:=ha.t;have e:Q8 (YtjinkcmkgnofjaaGreatDoor.J' W t x) i=if t=i then x else Q8 W i:=Qx _ _ t0 Qo i0;rw[e] at n ⊢;rw[(zrl W t x).wh]
 split at n
 ·rename_i he;rw[C' he];exact hx n
 ·rename_i he;rw[B' he];exact h i i0 i1 n
def z1c(W:Q7)(t c:Int)(x:PS):Rc (J' W t x) c=J' (Rc W c) t x:=rfl
def OY{W:Q7}(p:TX W){t:Int}(t0:0<=t)(t1:t<12)(n:(Q8 W t).state≠0):EU W (Q8 W t):=by
 rcases p.t t t0 t1 with h|h
 ·exact Ir h.1 n
 ·exact h.2
def zur{W:Q7}{t:Int}(hW:Qr W)(hb:VD W t=0):Xo (zck W t):=by
 have wp:=Qm.1 hW;obtain⟨h1,h2,sw,sw2⟩:=zcl hW hb;obtain⟨t0,t1,n⟩:=Y7 h1;have hl:=wp.a.t;have p:=XJ wp;have h:=OY p t0 Qo n;have lU:=Vd wp;refine ZQ sw2 Qd Qd (p.J' t0 Qo (.inr ⟨by show (2:Int)≠0;decide,⟨.inr rfl,h.g,h.n,h.m,h.m0,h.s,h.u,h.l1,h.l2,λh=>by cases h⟩,p.l t t0 Qo n⟩) λc c0 c1 _ hs _=>by cases hs) (lU.J' wp.a t0 Qo λ_=>lU t t0 Qo n)
def zx9{W:Q7}{t:Int}(hW:Qr W)(hb:Oh W t=0):Xo (FH W t):=by
 have wp:=Qm.1 hW;obtain⟨h1,_,sw,_,sw2⟩:=za5 hW hb;obtain⟨t0,t1,n⟩:=Y7 h1;have hl:=wp.a.t;have p:=XJ wp;obtain⟨c0,c1⟩:=p.l t t0 Qo n
 have key:TX (Z6 W t)/\zbm (Z6 W t):=by
  unfold Z6;split
  ·exact⟨p.Rc c0 c1,(Vd wp).Rc _⟩
  ·exact⟨p,Vd wp⟩
 exact ZQ sw2 Qd Qd (key.1.J' t0 Qo (.inl ⟨rfl,rfl⟩) λc c0 c1 _ hs _=>by cases hs) (key.2.J' key.1.a t0 Qo λh=>Ir rfl h)
def zbe{W:Q7}(p:TX W){t c:Int}(t0:0<=t)(t1:t<12){x:PS}(n:x.state≠0)(hx:EU W x)(hc:x.R1=c)(c0:0<=c)(c1:c<(W.IF.length:Int)):TX (Rc (J' W t x) c):=by
 rw[z1c];have hl:(Rc W c).IF.length=W.IF.length:=E';refine(p.Rc c0 c1).J' t0 t1 (.inr ⟨n,⟨hx.st,hx.g,hx.n,hx.m,hx.m0,hx.s,hx.u,hx.l1,hx.l2,hx.f⟩,by rw[hl,hc];exact⟨c0,c1⟩⟩) λd d0 d1 qU _ hd=>?_
 rw[hc] at hd;subst hd;have e1:gi (Rc W c).IF c=XA (gi W.IF c):=(Qx _ _ c0 c1 c0).trans (C' rfl);rw[e1] at qU;have qU:(-1:Int)=t:=qU;omega
def z4w(f v w:Int):f<=f+Yg (v-f) w/\f+Yg (v-f) w-f<=ZT w:=by
 have:=ZF (v-f) w;omega
def zya{W:Q7}{t n:Int}(hW:Qr W)(hb:Pg W t n=0):Xo (Lg W t n):=by
 have wp:=Qm.1 hW;have hq:=zl5 hW hb;obtain⟨t0,t1,tn⟩:=Y7 hq.th;have hl:=wp.a.t;have p:=XJ wp;have hw:Qf n≠0:=λh=>by unfold Pg at hb;rw[C' h] at hb;cases hb
 have h:=OY p t0 Qo tn;obtain⟨c0,c1⟩:=p.l t t0 Qo tn;have lU:=Vd wp;have hL:zbm (J' W t (XI W t n)):=lU.J' wp.a t0 Qo λ_=>lU t t0 Qo tn
 have hT:EU W (XI W t n):=⟨h.st,h.g,hw,h.m,h.m0,h.s,h.u,h.l1,h.l2,λhs=>by
  have hs:(Q8 W t).state=1:=hs;rw[zs1 hs];exact z4w _ _ _⟩
 have hK:K1+UW<=100000000000000000:=by simp only[K1,Qh,UW];decide
 have hK0:0<=K1:=by simp only[K1,Qh];decide
 unfold Lg;split
 ·rename_i hs
  have hlv:Z6 (J' W t (XI W t n)) t=if (gi W.IF (Q8 W t).R1).cur=t then Rc (J' W t (XI W t n)) (Q8 W t).R1 else J' W t (XI W t n):=by
   unfold Z6;rw[HB t0 t1];rfl
  have s2:=hq.s2;rw[hlv] at s2 ⊢;split
  ·rename_i qU;rw[C' qU] at s2;exact ZQ s2 hK0 hK (zbe p t0 Qo tn hT rfl c0 c1) (hL.Rc _)
  ·rename_i qU;rw[B' qU] at s2;refine ZQ s2 hK0 hK (p.J' t0 Qo (.inr ⟨tn,hT,c0,c1⟩) λd d0 d1 hd _ hx=>?_) hL;have hx:(Q8 W t).R1=d:=hx;rw[hx] at qU;exact Ir hd qU
 ·rename_i hs;exact ZQ hq.s1 hK0 hK (p.J' t0 Qo (.inr ⟨tn,hT,c0,c1⟩) λd d0 d1 hd hx _=>Ir hx hs) hL
def zyc{W:Q7}{t:Int}(hW:Qr W)(hb:MX W t=0):Xo (BB W t):=by
 have wp:=Qm.1 hW;obtain⟨h1,h2,_,sf,c0,c1⟩:=zmx hW hb;obtain⟨t0,t1,tn⟩:=Y7 h1;have hl:=wp.a.t;have p:=XJ wp;have h:=OY p t0 Qo tn;have lU:=Vd wp
 have hT:EU W (T7 W t (PO W t)):=⟨.inl rfl,h.g,h.n,h.m,h.m0,h.s,h.u,h.l1,h.l2,λ_=>by
  have:=ZF ((Q8 W t).v-(Qa W (Q8 W t).II (Q8 W t).R1).IM) (Qf (Q8 W t).nice);show (Qa W (Q8 W t).II (PO W t)).IM<=(Qa W (Q8 W t).II (PO W t)).IM+NI W t/\(Qa W (Q8 W t).II (PO W t)).IM+NI W t-(Qa W (Q8 W t).II (PO W t)).IM<=ZT (Qf (Q8 W t).nice);unfold NI;exact⟨Qo,Qo⟩⟩
 have hwh:Zq (QD W (Q8 W t).II (Q8 W t).mask) (PO W t):=by
  unfold PO;split
  ·exact(HW wp.a _ _).2.2
  ·exact lU t t0 Qo tn
 exact ZQ ((zmw sf t0 t1 tn c0 c1).Rc c0 c1).w (by simp only[Qh];decide) (by simp only[Qh,UW];decide) (zbe p t0 Qo (show (1:Int)≠0 by decide) hT rfl c0 c1) ((lU.J' wp.a t0 Qo (x:=T7 W t (PO W t)) λ_=>hwh).Rc _)
def Fl(l u:Int):Int:=if YY l 0 8000000=true/\YY u 0 1000000 then l-Int.tdiv l 8+u else 0
def zct(x:PS):PS:={ x with IV:=0,load:=Zr (Fl x.load (Zr x.IV 1000000)) 8000000 }
def O3(W:Q7):Nat->Q7
 |0=>W
 |t+1=>J' (O3 W t) (t:Int) (zct (Q8 (O3 W t) (t:Int)))
def Hl(next p now:Int):Nat->Int
 |0=>next
 |i+1=>if Hl next p now i<=now+((i:Int)+1) then Hl next p now i+p else Hl next p now i
structure zwh (next p now v:Int):Prop where
 gt:now<v
 nJ:∃j:Nat,v=next+p*(j:Int)/\(j=0\/v-p<=now)
def Ex{next p now:Int}(hp:1<=p)(hn:now<next):∀i:Nat,zwh next p (now+(i:Int)) (Hl next p now i)
 |0=>⟨by simp only[Hl];omega,0,by simp only[Hl];omega,.inl rfl⟩
 |i+1=>by
  obtain⟨h1,j,h2,h3⟩:=Ex hp hn i;simp only[Hl]
  push_cast
  split
  ·refine⟨Qo,j+1,?_,.inr Qo⟩;rw[h2];push_cast;rw[Int.mul_add,Int.mul_one,Int.add_assoc]
  ·exact⟨Qo,j,h2,h3.imp id λh=>by omega⟩
def z1w{next p now v v':Int}(hp:1<=p)(h:zwh next p now v)(h':zwh next p now v'):v=v':=by
 obtain⟨h1,j,h2,h3⟩:=h;obtain⟨k1,k,k2,k3⟩:=h'
 have key:∀a b:Nat,a<b->p*(a:Int)+p<=p*(b:Int):=λa b hab=>by
  have:p*((a:Int)+1)<=p*(b:Int):=Int.mul_le_mul_of_nonneg_left Qo Qo;rw[Int.mul_add,Int.mul_one] at this;exact this
 rcases Nat.lt_trichotomy j k with h|h|h
 ·have:=key j k h;omega
 ·subst h;omega
 ·have:=key k j h;omega
def XR(now:Int)(n:Nat)(G:ZD):ZD:=if (G.IV&&(G.IL.I' != 0))=true/\G.next<=now+(n:Int) then { G with next:=Hl G.next G.period now n,IL:=Jt G.IL } else G
def zq0{now:Int}{G:ZD}(h:G.IL.I'≠0->now<G.next):XR now 0 G=G:=by
 unfold XR;rw[B'];rintro⟨h1,h2⟩;simp only[A',It,ne_eq] at h1;have:=h h1.2;simp at h2;omega
def TN(W:Q7)(n:Nat):Nat->Q7
 |0=>{ W with now:=W.now+(n:Int) }
 |k+1=>R3 (TN W n k) (k:Int) (XR W.now n (gi W.IE (k:Int)))
def Zw(W:Q7)(n:Nat):Q7:=TN W n 8
noncomputable def Lp(W:Q7)(n:Int):Int:=if YY n 1 1000=false then 1 else if QO W=false then 10 else 0
def zfv(W:Q7)(n:Int):Q7:=Qb (O3 (Zw W n.toNat) 12)
def Kf(now:Int)(n:Nat)(G:ZD):(XR now n G).IV=G.IV/\(XR now n G).IG=G.IG/\(XR now n G).name=G.name/\(XR now n G).IH=G.IH/\(XR now n G).R2=G.R2/\(XR now n G).IF=G.IF/\(XR now n G).sum=G.sum/\(XR now n G).period=G.period/\(XR now n G).IL.I'=G.IL.I':=by
 unfold XR;split <;> exact⟨rfl,rfl,rfl,rfl,rfl,rfl,rfl,rfl,rfl⟩
def T4(W:Q7)(n:Nat):∀k:Nat,(TN W n k).IE.length=W.IE.length/\(TN W n k).now=W.now+(n:Int)/\(TN W n k).IF=W.IF/\(TN W n k).IJ=W.IJ
 |0=>⟨rfl,rfl,rfl,rfl⟩
 |k+1=>by
  obtain⟨a,b,c,d⟩:=T4 W n k;exact⟨by show (List.set _ _ _).length=_;rw[E'];exact a,b,c,d⟩
def MJ(W:Q7)(n:Nat):∀k:Nat,k<=W.IE.length->∀i:Int,0<=i->gi (TN W n k).IE i=if i<(k:Int) then XR W.now n (gi W.IE i) else gi W.IE i
 |0,_,i,i0=>by rw[B' Qo];rfl
 |k+1,hk,i,i0=>by
  have ih:=MJ W n k Qo i i0;have hl:=(T4 W n k).1;show gi (R3 (TN W n k) (k:Int) _).IE i=_;rw[Ym Qo Qo i0]
  by_cases e:(k:Int)=i
  ·subst e;rw[C' rfl,C' Qo]
  ·rw[B' e,ih]
   by_cases h:i<(k:Int)
   ·rw[C' h,C' Qo]
   ·rw[B' h,B' Qo]
def za4(W:Q7):∀k:Nat,(O3 W k).IE=W.IE/\(O3 W k).now=W.now/\(O3 W k).IF=W.IF/\(O3 W k).IJ.length=W.IJ.length
 |0=>⟨rfl,rfl,rfl,rfl⟩
 |k+1=>by
  obtain⟨a,b,c,d⟩:=za4 W k;exact⟨a,b,c,by show (List.set _ _ _).length=_;rw[E'];exact d⟩
def zkz{K:Int}{W:Q7}(h:SW K W):∀k:Nat,k<=12->SW K (O3 W k)
 |0,_=>h
 |k+1,hk=>by
  have ih:=zkz h k Qo;have hv:=ih.tv (k:Int) Qo Qo;exact ih.J' Qo Qo (x:=zct (Q8 (O3 W k) (k:Int))) (λhs=>ih.t (k:Int) Qo Qo hs) hv.1 hv.2
def zxv{b:Um}(h:P2 b):P2 (Jt b)/\(Jt b).locals.length=b.locals.length:=by
 have hd:=h.dl;refine⟨⟨h.q1,h.q2,by simp only[Jt,List.length_replicate];have:=h.l1;omega,by simp only[Jt,List.length_replicate];have:=h.l2;omega,by simp[Jt],by simp only[Jt];have:=h.q1;omega,I2 _,by simp[Jt],by simp only[Jt];have:=h.q1;omega,λc c0 c1=>?_,?_⟩,by simp[Jt,hd]⟩
 ·simp only[Jt,List.length_replicate] at c1 ⊢;rw[My _ _ c0 c1,My _ _ c0 c1];have:=h.q1;exact⟨I2 _,Qo,λh=>by cases h⟩
 ·simp only[Jt,List.length_replicate];rw[Ah _ _ (I7 _)];omega
def zy6{W W':Q7}{n:Nat}{k:Int}{G:ZD}(hg:zpn W k G)(hu:G.IV)(hn:W'.now=W.now+(n:Int))(hc:W'.IF.length=W.IF.length):zpn W' k (XR W.now n G):=by
 obtain⟨_,_,_,u4,u5,u6,u7,u8,u9⟩:=Kf W.now n G;refine⟨by rw[u5];exact hg.w1,by rw[u5];exact hg.w2,by rw[u6];exact hg.m,by rw[u6];exact hg.m0,by rw[u7];exact hg.s,by rw[u4,hc];exact hg.len,λh=>by rw[u5,u6,u9];exact hg.root h,λhq=>?_,λhq=>?_⟩
 ·rw[u9] at hq
  have:XR W.now n G=G:=by
   unfold XR;rw[B'];rintro⟨h1,_⟩;simp only[A',It,ne_eq] at h1;exact h1.2 hq
  rw[this];exact hg.none hq
 ·rw[u9] at hq;obtain⟨b1,b2,b3,b4,b5,b6⟩:=hg.IL hq;rw[hn,hc];unfold XR;split
  ·obtain⟨f1,f2⟩:=zxv b1;have hj:=Ex b3 b5 n;refine⟨f1,by show (Jt G.IL).locals.length=_;rw[f2];exact b2,b3,b4,hj.gt,?_⟩;obtain⟨h1,j,h2,h3⟩:=hj;show Hl G.next G.period W.now n-(W.now+(n:Int))<=G.period;rcases h3 with rfl|h3
   ·simp at h2;omega
   ·omega
  ·rename_i hcnd;have IW:W.now+(n:Int)<G.next:=Int.not_le.1 λhle=>hcnd ⟨by rw[hu];simpa using hq,hle⟩
   exact⟨b1,b2,b3,b4,IW,Qo⟩
def LY(W:Q7)(n:Nat):∀k:Nat,k<=W.IE.length->QH W.IE (TN W n k).IE
 |0,_=>QH.refl _
 |k+1,hk=>by
  have ih:=LY W n k Qo;have hl:=(T4 W n k).1;have e:=MJ W n k Qo (k:Int) Qo;rw[B' Qo] at e;obtain⟨u1,u2,u3,_⟩:=Kf W.now n (gi W.IE (k:Int));exact ih.trans (XZ (W:=TN W n k) (g:=(k:Int)) (x:=XR W.now n (gi W.IE (k:Int))) Qo Qo (by rw[u1,e]) (by rw[u2,e]) (by rw[u3,e]))
def zoh{K:Int}{W:Q7}{n:Nat}(h:SW K W)(h1:W.now+(n:Int)<=100000000000000000):SW K (Zw W n):=by
 have hl:=h.a.gl;have hT:=LY W n 8 Qo;obtain⟨l1,l2,l3,l4⟩:=T4 W n 8
 have e:∀i:Int,0<=i->i<8->gi (Zw W n).IE i=XR W.now n (gi W.IE i):=λi a b=>by
  have:=MJ W n 8 Qo i a
  rwa[C' (show i<((8:Nat):Int) by omega)] at this
 have n1:=h.a.n1;have et:∀t:Int,Q8 (Zw W n) t=Q8 W t:=λt=>by unfold Q8;rw[show (Zw W n).IJ=W.IJ from l4]
 have ec:(Zw W n).IF=W.IF:=l3;have hT:QH W.IE (Zw W n).IE:=hT;refine⟨⟨by rw[show (Zw W n).now=_ from l2];omega,by rw[show (Zw W n).now=_ from l2];exact h1,by rw[ec];exact h.a.c1,by rw[ec];exact h.a.c2,by rw[show (Zw W n).IJ=W.IJ from l4];exact h.a.t,hT.tree h.a.tree,by rw[ec];exact h.a.ups,λk a b=>?_⟩,λt a b hs=>?_,λt a b=>?_,λk c u a b=>?_,λc a b=>?_⟩
 ·have hg:=h.a.grp k a b;obtain⟨u1,u2,u3,u4,u5,u6,u7,u8,u9⟩:=Kf W.now n (gi W.IE k);unfold Kn;rw[e k a b];refine⟨λhu=>?_,λhu=>?_⟩
  ·rw[u1] at hu
   have:XR W.now n (gi W.IE k)=gi W.IE k:=by
    unfold XR;rw[B'];rintro⟨h1,_⟩;rw[hu] at h1;cases h1
   rw[this];exact hg.1 hu
  ·rw[u1] at hu;exact zy6 (hg.2 hu) hu l2 (by rw[ec])
 ·rw[et] at hs ⊢;rw[hT.aO,ec];exact h.t t a b hs
 ·rw[et];exact h.tv t a b
 ·rw[hT.aO] at u;rw[ec] at b;have hk:=Q2.1 u
  have:Qa (Zw W n) k c=Qa W k c:=by
   unfold Qa;rw[e k hk.1 Qo,(Kf W.now n (gi W.IE k)).2.2.2.1]
  rw[this];exact h.s k c u a b
 ·rw[ec] at b ⊢;exact h.cu c a b
def z49{W:Q7}(ha:WA W):Zw W 0=W:=by
 have hl:=ha.gl;obtain⟨l1,l2,l3,l4⟩:=T4 W 0 8
 have hg:(Zw W 0).IE=W.IE:=zqc l1 λk hk=>by
  have hk8:k<8:=by have:(Zw W 0).IE.length=W.IE.length:=l1;omega
  have:=MJ W 0 8 Qo (k:Int) Qo;rw[C' Qo] at this;refine this.trans (zq0 λhq=>?_);have hgp:=ha.grp (k:Int) Qo Qo
  cases hu:(gi W.IE (k:Int)).IV with
  |true=>exact((hgp.2 hu).IL hq).2.2.2.2.1
  |false=>
   have:=(hgp.1 hu).b;exact Ir (by unfold ON at this;simp only[A',Is] at this;exact this.1.1.1.1) hq
 have h2:(Zw W 0).now=W.now:=by rw[show (Zw W 0).now=_ from l2];simp
 have h3:(Zw W 0).IF=W.IF:=l3;have h4:(Zw W 0).IJ=W.IJ:=l4;generalize Zw W 0=V at hg h2 h3 h4;cases V;cases W;simp only at hg h2 h3 h4;subst hg;subst h2;subst h3;subst h4;rfl
def zmq{W:Q7}{n:Int}(hW:Qr W)(hb:Lp W n=0):YY n 1 1000/\QO W/\SW Ql W/\W.now<=Ql/\SW Ql (Zw W n.toNat)/\SW Ql (O3 (Zw W n.toNat) 12):=by
 have wp:=Qm.1 hW;unfold Lp at hb
 split at hb
 ·cases hb
 ·rename_i h1
  split at hb
  ·cases hb
  ·rename_i h3;have h1:YY n 1 1000:=by simpa using h1
   have h3:QO W:=by simpa using h3
   have hr:=Qm.1 h3;have sw:=MS wp hr;have hn:=hr.n;have hi:=Qu.1 h1;have hh:Ql=50000000000000000:=rfl;have s1:=zoh (n:=n.toNat) sw Qo;exact⟨h1,h3,sw,hn,s1,zkz s1 12 (I7 _)⟩
section
variable {W W':Q7}{m:MW}{w:Wo}{bar:Int}
def z0w{l u:Int}(h1:YY l 0 8000000)(h2:YY u 0 1000000):0<=Int.tdiv l 8/\Int.tdiv l 8<=l:=by
 have:=Qu.1 h1;rw[Int.tdiv_eq_ediv_of_nonneg this.1];omega
def Ny{bs:List Nat}{l u:Int}:PX bs Tt #[I l,I u] w (I (Fl l u)):=
 NT l u λwr hx=>⟨_,Qq,_,λ_=>Qq,λg=>(by
  unfold Fl;rw[B'];rintro⟨h1,h2⟩;rw[h1,h2] at g
  cases g),λg=>by
  have h1:YY l 0 8000000:=by cases h:YY l 0 8000000 <;> simp_all
  have h2:YY u 0 1000000:=by cases h:YY u 0 1000000 <;> simp_all
  have hb:=z0w h1 h2;have i1:=Qu.1 h1;have i2:=Qu.1 h2;refine⟨⟨Qd,Qo,Qo⟩,⟨Qo,Qo⟩,⟨Qo,Qo⟩,?_⟩;unfold Fl;rw[C' ⟨h1,h2⟩]⟩
def zre{W:Q7}{k:Int}(h0:0<=k)(h1:k<(W.IE.length:Int)):R3 W k (gi W.IE k)=W:=by
 unfold R3;rw[Ln h0 h1]
def y8{n:Int}(h:XV [] w W m)(hl:VB W) :
  Cz OC #[.agg (Qc W m).toArray,I n] w λe w'=>∃v,e=.returned v/\QX (Yz W (Lp W n) (zfv W n)) w v w':=by
 refine CO _ _ _ _ _ _ _ _ _ _ n (R:=λv w'=>QX (Yz W (Lp W n) (zfv W n)) w v w') ?_;intro x hx x1 S9 wr Rk V';refine I3 (Zn (h.ext Rk) hl) ?_;rintro e wv (⟨hW,he,hy⟩|⟨hW,m',he,hM,hy⟩)
 ·exact⟨_,_,_,_,_,_,_,_,_,_,_,he,Qi hy V',false,λg=>by simp at g,λ_ R5 Rl=>QX.bad hW ((Rk.trans hy).fresh Rl λy hm=>.inl (YM hx S9 y hm)),λg=>by simp at g⟩
 have hK:=Wk.begin hx S9 Rk V' hM hy;have sR:((if QO W=true then 0 else 10:Int)==1)=false:=by split <;> rfl
 refine⟨_,_,_,_,_,_,_,_,_,_,_,he,Qi hy V',_,λ_=>Qq,λg R5 Rl=>?_,λg=>⟨λg3 R6 Rl=>?_,λg3=>?_⟩⟩
 ·rw[sR] at g;have g:YY n 1 1000=false:=by simpa using g
  have hb:Lp W n=1:=by unfold Lp;rw[C' g]
  exact QX.no hW (by rw[hb];decide) (hK.step Rl) hb
 ·rw[sR] at g;have g:YY n 1 1000:=by simpa using g
  have bM:¬QO W:=λhr=>by rw[C' hr] at g3;simp at g3
  have hb:Lp W n=10:=by unfold Lp;rw[B' (by rw[g];decide),C' (by simpa using bM)]
  rw[B' bM];exact QX.no hW (by rw[hb];decide) (hK.step Rl) hb
 rw[sR] at g;have g:YY n 1 1000:=by simpa using g
 have bM:QO W:=Iq λhr=>by rw[B' hr] at g3;simp at g3
 have hb:Lp W n=0:=by unfold Lp;rw[B' (by rw[g];decide),B' (by rw[bM];decide)]
 obtain⟨_,_,sw,CY8,sp,sd⟩:=zmq hW hb;have hn:=Qu.1 g;obtain⟨N,rfl⟩:=Int.eq_ofNat_of_zero_le (show 0<=n by omega);have hE:zfv W (N:Int)=Qb (O3 (Zw W N) 12):=by unfold zfv;rw[Ig]
 rw[Ig] at sp sd;rw[hE];have bU:=sw.a.gl;have jF:=sw.a.t;have hn1:=sw.a.n1;have hh:Ql=50000000000000000:=rfl;refine⟨⟨Qo,Qo⟩,?_⟩;refine Jm W.IE.length 0 rfl (λk w2=>k<=8/\∃m2,Wk 8 [x,x1] w w2 (TN W N k) m2/\m2={ m' with ms:=m2.ms }) (λw2 Rl _=>⟨Qd,m',(show Wk 8 [x,x1] w wv (TN W N 0) m' from ⟨hK.s,⟨⟨hK.own.c,hK.own.t,hK.own.g,hK.own.len⟩,hK.nb⟩⟩).step Rl,rfl⟩) λk w2 fY ⟨hk8,m2,fZ,hd2⟩=>?_
 obtain⟨l1,l2,l3,l4⟩:=T4 W N k;have eG:=MJ W N k Qo (k:Int) Qo;rw[B' Qo] at eG;have W8:TN W N (k+1)=R3 (TN W N k) (k:Int) (XR W.now N (gi W.IE (k:Int))):=rfl;have sF:k=8->Zw W N=TN W N k:=λe=>by rw[e];rfl
 have B99:(k:Int)<(W.IE.length:Int)->R3 (TN W N k) (k:Int) (gi W.IE (k:Int))=TN W N k:=λIW=>by
  have:=zre (W:=TN W N k) (k:=(k:Int)) Qo Qo
  rwa[eG] at this
 have emg:m2.gO=m'.gO:=by rw[hd2]
 have emc:m2.gC=m'.gC:=by rw[hd2]
 refine⟨λIW=>?_,λRM=>?_⟩
 ·have IW:=Ot IW;generalize TN W N k=V at fZ l1 l2 l3 l4 eG W8 sF B99;have hr:=fZ.rd;have B17:(k:Int)<(V.IE.length:Int):=Qo;have Wn:Ix m'.gO W.IE.length (k:Int):=by have:=hr.g.ix (i:=(k:Int)) Qo B17;rwa[l1,emg] at this
  have hcs:=hr.g.cells (k:Int) Qo B17;rw[eG,emg] at hcs;refine⟨Wn,_,_,_,_,_,_,_,_,_,_,_,_,_,_,_,_,_,_,_,_,hcs,λb2 cD=>⟨λg4=>⟨⟨Qo,Qo⟩,λw3 Rl _=>Qw Qo ⟨Qo,m2,?_,hd2⟩⟩,λg4 RQ Su fK=>?_⟩⟩
  ·have:XR W.now N (gi W.IE (k:Int))=gi W.IE (k:Int):=by
    unfold XR;rw[B'];rintro⟨a,b⟩;simp only[Iu,ID,Is,Ij] at g4;simp only[A',It,ne_eq] at a;rcases g4 with (h1|h1)|h1
    ·rw[a.1] at h1;cases h1
    ·exact a.2 h1
    ·omega
   rw[W8,this,B99 IW];exact fZ.step Rl
  ·simp only[H',I6,beq_eq_false_iff_ne,ne_eq,decide_eq_false_iff_not] at g4;obtain⟨⟨hu,hq⟩,DT5⟩:=g4;have kJ:=(sw.a.grp (k:Int) Qo Qo).2 hu;obtain⟨eI,vI,hp1,dD,hnx,hnp⟩:=kJ.IL hq
   have hP:XR W.now N (gi W.IE (k:Int))={ gi W.IE (k:Int) with next:=Hl (gi W.IE (k:Int)).next (gi W.IE (k:Int)).period W.now N,IL:=Jt (gi W.IE (k:Int)).IL }:=by
    unfold XR;rw[C' ⟨by rw[hu];simpa using hq,Qo⟩]
   have hJ:=Ex hp1 hnx N;have qR:=(fZ.add cD).step (Su.mono λy hy=>Ia _ hy);have hr5:=qR.o.rd0;have hLo:=hr5.g.locals (k:Int) Qo B17;have hDo:=hr5.g.Ry (k:Int) Qo B17;rw[eG] at hLo hDo;refine I3 (Vh (op:=⟨4,0,0⟩) eI hLo hDo) ?_;rintro e RI ⟨pb,he,hO,SQ⟩;have Cv5:ZP (gi W.IE (k:Int)).IL ⟨4,0,0⟩=(Jt (gi W.IE (k:Int)).IL,0):=by unfold ZP;rw[C' rfl]
   rw[Cv5] at he hO
   dsimp only at he hO
   refine⟨_,_,_,_,_,_,_,_,_,_,he,Qi SQ fK,λb3 qS=>?_⟩;have eH:=(qR.R7 SQ).add qS
   have hOb:∀y∈YK pb,y∉QM 8 m2/\y∉[x,x1]++[b2]++[b3]:=λy hy=>by
    have:=hO.lt y hy;refine⟨λhm=>by have:=(qR.own.lt y hm).2;omega,λhm=>?_⟩;rcases Im.1 hm with h1|h1
    ·have:=fK y h1;omega
    ·have:y=b3:=by simpa using h1
     omega
   have hO4:Zz w.heap.size RI (Jt (gi W.IE (k:Int)).IL) pb:=hO.mono qR.base;refine⟨λvs w'=>∃v:Int,vs=YA { gi W.IE (k:Int) with next:=v,IL:=Jt (gi W.IE (k:Int)).IL } (KH (m2.ms k) pb)/\(∃j:Nat,v=(gi W.IE (k:Int)).next+(gi W.IE (k:Int)).period*(j:Int)/\(j=0\/v-(gi W.IE (k:Int)).period<=W.now+(N:Int)))/\0<=v/\Wk 8 ([x,x1]++[b2]++[b3]) w w' V m2/\Zz w.heap.size w' (Jt (gi W.IE (k:Int)).IL) pb,λvs _=>(W.now+(N:Int)+1-Ye 6 vs).toNat,λSw eQ sH=>⟨(gi W.IE (k:Int)).next,by simp[YA,KH],⟨0,Qs,.inl rfl⟩,Qo,eH.step (eQ.mono λy hy=>Ia _ hy),hO4.ext eQ λy hy hm=>(hOb y hy).2 (Ia _ hm)⟩,?_⟩;rintro l0 a1 a2 a3 a4 a5 a6 a7 a8 a9 a10 CQ0 CP9 CP8 CQ3 CQ2 CQ1 CD2 Ba9 Co7 bG dT ⟨v,hv,hj,hv0,dZ,hO5⟩;simp only[YA,ZI,List.cons_append,List.nil_append,I4,Value.bool.injEq,I5,Value.string.injEq,Iv,true_and,and_true] at hv;obtain⟨rfl,rfl,rfl,rfl,rfl,rfl,rfl,rfl,rfl,rfl,rfl,⟨rfl,rfl,rfl⟩,⟨rfl,rfl,rfl⟩,rfl,rfl,rfl⟩:=hv;refine⟨λhle=>?_,λhgt=>?_⟩
   ·have hle:=Ot hle;refine⟨⟨Qo,Qo⟩,λSZ sV hs8=>⟨⟨a6+(gi W.IE (k:Int)).period,rfl,?_,Qo,dZ.step sV,hO5.ext sV λy hy=>(hOb y hy).2⟩,?_⟩⟩
    ·obtain⟨j,h1,_⟩:=hj;exact⟨j+1,by rw[h1];push_cast;rw[Int.mul_add,Int.mul_one,Int.add_assoc],.inr Qo⟩
    ·show (_-(a6+(gi W.IE (k:Int)).period)).toNat<(_-a6).toNat;omega
   ·have hgt:=Ou hgt;have hv6:a6=Hl (gi W.IE (k:Int)).next (gi W.IE (k:Int)).period W.now N:=z1w hp1 ⟨Qo,hj⟩ hJ;have vE:=zrw dZ.own dZ.nb (i:=(k:Int)) Qo Qo (j:=0) (k:=14) Qd;rw[emg] at vE;refine⟨Wn,vE,⟨Qo,Qo⟩,λWL kL hs9=>Qw Qo ⟨Qo,GK m2 k (KH (m2.ms k) pb),?_,by rw[hd2];rfl⟩⟩;rw[W8];have vB:=dZ.gr (g:=(k:Int)) Qo Qo (G:=XR W.now N (gi W.IE (k:Int))) (p:=pb) (j:=0) (vs:=YA (XR W.now N (gi W.IE (k:Int))) (KH (m2.ms k) pb)) (by rw[hP];exact hO5) hOb (by rw[eG];exact(Kf _ _ _).2.2.2.1) (by simp[YA]) (by simp[YA]);refine(vB.step (w':=WL) ?_).sub λy hy=>Ia _ (Ia _ hy)
    rw[hP,<-hv6,emg];exact kL
 ·have RM:=Ou RM;rw[<-sF Qo] at fZ l1 l2 l3 l4;have emt:m2.tO=m'.tO:=by rw[hd2]
  refine Jm W.IJ.length 0 rfl (λt w2=>t<=12/\Wk 8 [x,x1] w w2 (O3 (Zw W N) t) m2) (λw2 Rl _=>⟨Qd,fZ.step Rl⟩) λt w2 dT ⟨CJ4,qR⟩=>?_
  obtain⟨q1,q2,q3,q4⟩:=za4 (Zw W N) t;have AL2:O3 (Zw W N) (t+1)=J' (O3 (Zw W N) t) (t:Int) (zct (Q8 (O3 (Zw W N) t) (t:Int))):=rfl;have AR0:t=12->O3 (Zw W N) 12=O3 (Zw W N) t:=λe=>by rw[e]
  generalize hU:O3 (Zw W N) t=U at qR q1 q2 q3 q4 AL2 AR0;have hr:=qR.rd;refine⟨λIW=>?_,λaX SA wB AR9=>?_⟩
  ·have IW:=Ot IW;have t1:(t:Int)<(U.IJ.length:Int):=by rw[q4,l4];exact IW
   have Wn:Ix m'.tO W.IJ.length (t:Int):=by have:=hr.t.ix QT (i:=(t:Int)) Qo t1;rwa[q4,l4,emt] at this
   have hcs:=hr.t (t:Int) Qo t1;rw[emt] at hcs;have vE:=ztu qR.own qR.nb (i:=(t:Int)) Qo t1 (j:=0) (k:=9) Qd;rw[emt] at vE;refine⟨Wn,_,_,_,_,_,_,_,_,_,hcs,λb4 hb4=>⟨_,JE,_,Ny,_,JE,Wn,vE,⟨Qo,Qo⟩,λSr wA AC0=>Qw Qo ⟨Qo,?_⟩⟩⟩;rw[AL2];have SS:=qR.own.AF3 (i:=(t:Int)) Qo t1 (j:=0) (vs:=Xc (zct (Q8 U (t:Int)))) (x:=zct (Q8 U (t:Int))) (by simp[Xc]) (by simp[Xc]);have eH:=qR.Rw SS Hx;rw[emt] at eH;exact eH.step wA
  ·have aX:=Ou aX;rw[AR0 Qo] at sd ⊢;have eH:=qR.step wB;have RA:=QA eH.own sd Qd Qd eH.base
   have e5:Qc U m2=[I (W.now+(N:Int)),.slice m'.cO W.IF.length m'.cC,.slice m'.tO W.IJ.length m'.tC,.slice m'.gO W.IE.length m'.gC]:=by
    unfold Qc;rw[q2,q3,q4,q1,l1,l2,l3,l4,hd2]
   rw[e5] at RA;refine I3 RA ?_;rintro e2 RI ⟨m3,bH,SQ⟩;exact⟨_,_,_,_,_,_,_,_,_,_,bH,eH.kept SQ AR9,λWc Bq5=>QX.ok hW hb ((eH.Ss SQ AR9).step Bq5)⟩
structure Mn (base pb:Nat) (w0:Wo) (m0:MW) (w:Wo) (W:Q7) (m:MW):Prop where
 own:Zp 8 base w W m
 pt:w.heap[pb]? = some (.cells (Qc W m).toArray Q5 (0,0))
 pn:pb∉QM 8 m
 ext:Q0 (pb::QM 8 m0) w0 w
 sub:∀x∈QM 8 m,x∈QM 8 m0\/w0.heap.size<=x
section
variable {base pb:Nat}{w0 w':Wo}{m0 m':MW}
def Mn.start(h:PW base pb w W m):Mn base pb w m w W m:=⟨h.own,h.pt,h.pn,Q0.refl _ _,λ_ hx=>.inl hx⟩
end
end
def TX.same{W W':Q7}(p:TX W)(ha:WA W')(ht:W'.IJ=W.IJ)(hc:W'.IF=W.IF)(hT:QH W.IE W'.IE)(hs:∀k c:Int,Qa W' k c=Qa W k c):TX W':=by
 have est:∀k c:Int,VY W' k c↔VY W k c:=λk c=>by
  unfold VY;rw[hT.p,hs,hs]
 refine⟨⟨ha,λt t0 t1=>?_,λt t0 t1 n=>by rw[YE ht] at n ⊢;rw[hc];exact p.l t t0 t1 n,λk c hk c0 c1=>?_⟩,λc c0 c1=>?_⟩
 ·rw[YE ht];rcases p.t t t0 t1 with h|⟨h1,h2⟩
  ·exact .inl h
  ·exact .inr ⟨h1,h2.st,by rw[hT.aO];exact h2.g,h2.n,h2.m,h2.m0,h2.s,h2.u,h2.l1,h2.l2,λh=>by rw[hs];exact h2.f h⟩
 ·rw[hT.aO] at hk;rw[hc] at c1;exact(p.s k c hk c0 c1).Bm7 (hs _ _) λ_=>by rw[hT.p,hs]
 ·rw[hc] at c1;have h:=p.c c c0 c1;refine⟨by rw[hc];exact h.b,by rw[hc];exact h.i,by rw[hc];exact h.c1,by rw[hc];exact h.c2,by rw[hc];exact h.no,by rw[hc];exact h.yes,λh0 h1 h2=>?_⟩;rw[hc,YE ht] at *;obtain⟨q1,q2⟩:=h.q h0 h1 h2;refine⟨by rw[hs];exact q1,λy hy=>?_⟩;rw[Jc hT] at hy;rw[est,hT.p,hs,hs];exact q2 y hy
def z29{W W':Q7}(hT:QH W.IE W'.IE)(hm:∀i:Int,(gi W'.IE i).IF=(gi W.IE i).IF)(hu:JG W'.IF=JG W.IF)(g m:Int):QD W' g m=QD W g m:=by
 unfold QD
 have hp:Ta W'.IE g (JG W.IF)=Ta W.IE g (JG W.IF):=by
  unfold Ta;rw[show QR W'.IE g=QR W.IE g from hT.path 3 g]
  congr 1
  funext s x
  rw[hm]
 rw[hu,hp]
def zbm.same{W W':Q7}(h:zbm W)(ht:W'.IJ=W.IJ)(hT:QH W.IE W'.IE)(hm:∀i:Int,(gi W'.IE i).IF=(gi W.IE i).IF)(hu:JG W'.IF=JG W.IF):zbm W':=λt t0 t1 n=>by
 rw[YE ht] at n ⊢;rw[z29 hT hm hu];exact h t t0 t1 n
def zrh{W:Q7}{g:Int}{x:ZD}(s:x.IH=(gi W.IE g).IH)(k c:Int):Qa (R3 W g x) k c=Qa W k c:=by
 unfold Qa;rw[show (gi (R3 W g x).IE k).IH=(gi W.IE k).IH from Z7 (f:=ZD.IH) _ _ s k]
def z1r{W:Q7}{g q p:Int}(hW:Qr W)(hb:zlu W g q p=0):Xo (zym W g q p):=by
 have wp:=Qm.1 hW;obtain⟨hu,hz,_,_,sw,sw2⟩:=zqq hW hb;obtain⟨u0,u1,_⟩:=Q2.1 hu;have h:=zec (W:=W) (g:=g) (q:=q) (p:=p);have hT:=XZ (W:=W) (x:=PC W g q p) u0 u1 h.1 h.2.1 h.2.2.1;exact ZQ sw2 Qd Qd ((XJ wp).same sw2.a rfl rfl hT (zrh h.2.2.2.1)) ((Vd wp).same rfl hT (λi=>Z7 (f:=ZD.IF) _ _ h.2.2.2.2.2.1 i) rfl)
def zyb{W:Q7}{n:Int}(hW:Qr W)(hb:Lp W n=0):Xo (zfv W n):=by
 have wp:=Qm.1 hW;obtain⟨_,_,sw,_,sp,sd⟩:=zmq hW hb;have bU:=wp.a.gl;obtain⟨l1,l2,l3,l4⟩:=T4 W n.toNat 8;have hT:QH W.IE (Zw W n.toNat).IE:=LY W n.toNat 8 Qo
 have key:∀i:Int,(gi (Zw W n.toNat).IE i).IH=(gi W.IE i).IH/\(gi (Zw W n.toNat).IE i).IF=(gi W.IE i).IF:=λi=>by
  have hu:=Kf W.now n.toNat (gi W.IE ((i.toNat:Nat):Int));have e:=MJ W n.toNat 8 Qo ((i.toNat:Nat):Int) Qo;rw[Nq (Zw W n.toNat).IE i,Nq W.IE i];unfold Zw;rw[e];split
  ·exact⟨hu.2.2.2.1,hu.2.2.2.2.2.1⟩
  ·exact⟨rfl,rfl⟩
 have p1:TX (Zw W n.toNat):=(XJ wp).same sp.a l4 l3 hT λk c=>by unfold Qa;rw[(key k).1]
 have q1:zbm (Zw W n.toNat):=(Vd wp).same l4 hT (λi=>(key i).2) (by rw[show (Zw W n.toNat).IF=W.IF from l3])
 have all:∀k:Nat,k<=12->TX (O3 (Zw W n.toNat) k)/\zbm (O3 (Zw W n.toNat) k):=by
  intro k
  induction k with
  |zero=>exact λ_=>⟨p1,q1⟩
  |succ k ih=>
   intro hk;obtain⟨a,b⟩:=ih Qo;show TX (J' (O3 (Zw W n.toNat) k) (k:Int) (zct (Q8 (O3 (Zw W n.toNat) k) (k:Int))))/\zbm (J' (O3 (Zw W n.toNat) k) (k:Int) (zct (Q8 (O3 (Zw W n.toNat) k) (k:Int))));generalize O3 (Zw W n.toNat) k=V at a b
   by_cases hs:(Q8 V (k:Int)).state=0
   ·have hz:Q8 V (k:Int)=T8:=by
     rcases a.t (k:Int) Qo Qo with h|h
     ·exact h.2
     ·exact Ir hs h.1
    rw[hz];have hd:zct T8=T8:=Qd;rw[hd];exact⟨a.J' Qo Qo (.inl ⟨rfl,rfl⟩) λc _ _ _ h _=>(by cases h),b.J' a.a Qo Qo λh=>Ir rfl h⟩
   ·have h:=OY a (t:=(k:Int)) Qo Qo hs;have hlo:=a.l (k:Int) Qo Qo hs
    have hld:0<=(zct (Q8 V (k:Int))).load/\(zct (Q8 V (k:Int))).load<=8000000:=by
     have h1:=h.l1;have h2:=h.l2;have h3:=Xj.1 h.u
     have ht:0<=Int.tdiv (Q8 V (k:Int)).load 8/\Int.tdiv (Q8 V (k:Int)).load 8<=(Q8 V (k:Int)).load:=by
      rw[Int.tdiv_eq_ediv_of_nonneg h1];omega
     show 0<=Zr (Fl (Q8 V (k:Int)).load (Zr (Q8 V (k:Int)).IV 1000000)) 8000000/\Zr (Fl (Q8 V (k:Int)).load (Zr (Q8 V (k:Int)).IV 1000000)) 8000000<=8000000;have hm:0<=Zr (Q8 V (k:Int)).IV 1000000:=by unfold Zr;split <;> omega
     have hbt:0<=Fl (Q8 V (k:Int)).load (Zr (Q8 V (k:Int)).IV 1000000):=by unfold Fl;split <;> omega
     generalize Fl (Q8 V (k:Int)).load (Zr (Q8 V (k:Int)).IV 1000000)=y at hbt;unfold Zr
     split <;> omega
    refine⟨a.J' Qo Qo (.inr ⟨hs,⟨h.st,h.g,h.n,h.m,h.m0,h.s,by show Ya 0=true;decide,hld.1,hld.2,h.f⟩,hlo⟩) λc c0 c1 qU h1 h2=>?_,b.J' a.a Qo Qo λ_=>b (k:Int) Qo Qo hs⟩;have hc:=(a.c c c0 c1).q (by rw[qU];omega);rw[qU] at hc;exact hc h1 h2
 obtain⟨p2,q2⟩:=all 12 (I7 _);exact ZQ sd Qd Qd p2 q2
def zfe{W:Q7}(p:TX W){t g c:Int}(t0:0<=t)(t1:t<12)(n:(Q8 W t).state≠0)(hg:Q6 W.IE g)(c0:0<=c)(c1:c<(W.IF.length:Int)):TX (Uj W t g c):=by
 have h:=OY p t0 t1 n
 have hT:EU W (M2 W t g c):=⟨h.st,hg,h.n,h.m,h.m0,h.s,h.u,h.l1,h.l2,λ_=>by
  have:=ZF ((Q8 W t).v-(Qa W (Q8 W t).II (Q8 W t).R1).IM) (Qf (Q8 W t).nice);show (Qa W g c).IM<=(Qa W g c).IM+NI W t/\(Qa W g c).IM+NI W t-(Qa W g c).IM<=ZT (Qf (Q8 W t).nice);unfold NI;exact⟨Qo,Qo⟩⟩
 unfold Uj;split
 ·exact zbe p t0 t1 n hT rfl c0 c1
 ·rename_i hs;exact p.J' t0 t1 (.inr ⟨n,hT,c0,c1⟩) λd _ _ _ h _=>Ir h hs
def zbg(W:Q7)(t g c:Int):O0 W (Uj W t g c):=by
 unfold Uj;split
 ·exact(zrl _ _ _).trans (D1 _ _)
 ·exact zrl _ _ _
def zq8{W:Q7}(hl:W.IJ.length=12){t g c:Int}(t0:0<=t)(t1:t<12){i:Int}(i0:0<=i):Q8 (Uj W t g c) i=if t=i then M2 W t g c else Q8 W i:=by
 have e:Q8 (J' W t (M2 W t g c)) i=if t=i then M2 W t g c else Q8 W i:=Qx _ _ t0 Qo i0;unfold Uj;split
 ·exact e
 ·exact e
def ztc{W:Q7}(p:TX W):∀k:Nat,k<=12->TX (Jr W k)/\O0 W (Jr W k)/\(∀t:Int,0<=t->t<(k:Int)->(Q8 (Jr W k) t).state≠0->Zq (QD (Jr W k) (Q8 (Jr W k) t).II (Q8 (Jr W k) t).mask) (Q8 (Jr W k) t).R1)
 |0,_=>⟨p,O0.refl _,λt a b=>by omega⟩
 |k+1,hk=>by
  obtain⟨a,b,d⟩:=ztc p k Qo;simp only[Jr];generalize Jr W k=V at a b d;have hl:=a.a.t;split
  ·rename_i hm;unfold Hj at hm;simp only[A',It,ne_eq] at hm;have h:=OY a (t:=(k:Int)) Qo Qo hm.1;have hf:=D6 a.a (Q8 V (k:Int)).II (Q8 V (k:Int)).mask;have hw:=HE a.a (Q8 V (k:Int)).II (Q8 V (k:Int)).mask;refine⟨zfe a Qo Qo hm.1 h.g hf.1 hf.2,b.trans (zbg _ _ _ _),λt t0 t1 n=>?_⟩;rw[(zbg V _ _ _).wh];rw[zq8 hl Qo Qo t0] at n ⊢
   split at n
   ·rename_i he;rw[C' he];exact B2 hw.1 hw.2
   ·rename_i he;rw[B' he];exact d t t0 Qo n
  ·rename_i hm;refine⟨a,b,λt t0 t1 n=>?_⟩
   by_cases he:t=(k:Int)
   ·subst he;have hm:Hj V (k:Int)=false:=by simpa using hm
    unfold Hj at hm;rw[show ((Q8 V (k:Int)).state != 0)=true by simpa using n,Bool.true_and] at hm
    simpa using hm
   ·exact d t t0 Qo n
def zbf{W:Q7}(sf:SF Ql (Ql+Qh) W)(p:TX W):Xo (Qb (G0 W)):=by
 obtain⟨a,b,d⟩:=ztc p 12 (I7 _);exact ZQ (G1 sf (I2 _)).1.w (by simp only[Qh];decide) (by simp only[Qh,UW];decide) a d
def z1u{W:Q7}{t x:Int}(hW:Qr W)(hb:Dx W t x=0):Xo (zvj W t x):=by
 have wp:=Qm.1 hW;obtain⟨h1,_,sf⟩:=zq2 hW hb;obtain⟨t0,t1,tn⟩:=Y7 h1;have hl:=wp.a.t;have p:=XJ wp;have h:=OY p t0 Qo tn
 have hx:M1 x/\x≠0:=by
  unfold Dx at hb
  split at hb
  ·cases hb
  ·rename_i hn;exact⟨by cases hm:M1 x with|true=>rfl|false=>exact Ir (.inl hm) hn,λe=>hn (.inr e)⟩
 refine zbf sf (p.J' t0 Qo (.inr ⟨tn,⟨h.st,h.g,h.n,hx.1,hx.2,h.s,h.u,h.l1,h.l2,h.f⟩,p.l t t0 Qo tn⟩) λc c0 c1 qU h1 h2=>?_);have hc:=(p.c c c0 c1).q (by rw[qU];omega);rw[qU] at hc;exact hc h1 h2
def z1q{W:Q7}{g x:Int}(hW:Qr W)(hb:zlg W g x=0):Xo (zun W g x):=by
 have wp:=Qm.1 hW;obtain⟨hu,_,_,sf,hT⟩:=zx1 hW hb;exact zbf sf ((XJ wp).same sf.w.a rfl rfl hT (zrh rfl))
def EU.gr{W W':Q7}{x:PS}(h:EU W x)(e:W'.IE=W.IE):EU W' x:=
 ⟨h.st,by rw[e];exact h.g,h.n,h.m,h.m0,h.s,h.u,h.l1,h.l2,λhs=>by unfold Qa;rw[e];exact h.f hs⟩
def z4p{W:Q7}{c:Int}(hW:Qr W)(hb:V6 W c false 0=0):Xo (z5x W c):=by
 have wp:=Qm.1 hW;obtain⟨c0,c1,_,sf⟩:=zy4 hW hb;have p:=XJ wp;refine zbf sf ⟨⟨sf.w.a,λt t0 t1=>(p.t t t0 t1).imp id λh=>⟨h.1,h.2.gr rfl⟩,λt t0 t1 n=>?_,λk d hk d0 d1=>?_⟩,λd d0 d1=>?_⟩
 ·have:=p.l t t0 t1 n;show _/\_<(((W.IF.set c.toNat _).length:Nat):Int);rw[E'];exact this
 ·have d1:d<(((W.IF.set c.toNat (Lr (gi W.IF c) true)).length:Nat):Int):=d1;rw[E'] at d1;exact(p.s k d hk d0 d1).Bm7 rfl λ_=>rfl
 ·have d1:d<(((W.IF.set c.toNat (Lr (gi W.IF c) true)).length:Nat):Int):=d1;rw[E'] at d1;have h:=p.c d d0 d1;have e:gi (RO W c (Lr (gi W.IF c) true)).IF d=if c=d then Lr (gi W.IF c) true else gi W.IF d:=Qx _ _ c0 c1 d0
  have eb:(gi (RO W c (Lr (gi W.IF c) true)).IF d).cur=(gi W.IF d).cur/\(gi (RO W c (Lr (gi W.IF c) true)).IF d).SX=(gi W.IF d).SX/\(gi (RO W c (Lr (gi W.IF c) true)).IF d).busy=(gi W.IF d).busy/\(gi (RO W c (Lr (gi W.IF c) true)).IF d).idle=(gi W.IF d).idle/\((gi W.IF d).up->(gi (RO W c (Lr (gi W.IF c) true)).IF d).up):=by
   rw[e];split
   ·rename_i he;subst he;exact⟨rfl,rfl,rfl,rfl,λ_=>rfl⟩
   ·exact⟨rfl,rfl,rfl,rfl,id⟩
  obtain⟨e1,e2,e3,e4,e5⟩:=eb;refine⟨by rw[e3];exact h.b,by rw[e4];exact h.i,by rw[e1];exact h.c1,by rw[e1];exact h.c2,by rw[e1,e2];exact h.no,λh0=>?_,?_⟩
  ·rw[e1] at h0;have:=h.yes h0;exact⟨e5 this.1,by rw[e2];exact this.2⟩
  ·rw[e1,e2];exact h.q
def z1t{W:Q7}{c:Int}(hW:Qr W)(hb:V6 W c true (GC W)=0):Xo (zu9 W c):=by
 have wp:=Qm.1 hW;obtain⟨c0,c1,_,sf⟩:=zqx hW hb;have p:=XJ wp;have hl:(RO W c (Lr (gi W.IF c) false)).IF.length=W.IF.length:=E';have sfE:=sf.Rc c0 (by rw[hl];exact c1)
 have hcs:Rc (RO W c (Lr (gi W.IF c) false)) c=RO W c (XA (Lr (gi W.IF c) false)):=by
  have e:gi (RO W c (Lr (gi W.IF c) false)).IF c=Lr (gi W.IF c) false:=(Qx _ _ c0 c1 c0).trans (C' rfl);unfold Rc;rw[e];simp[RO,List.set_set]
 show Xo (Qb (G0 (Rc (RO W c (Lr (gi W.IF c) false)) c)));rw[hcs] at sfE ⊢;refine zbf sfE ⟨⟨sfE.w.a,λt t0 t1=>(p.t t t0 t1).imp id λh=>⟨h.1,h.2.gr rfl⟩,λt t0 t1 n=>?_,λk d hk d0 d1=>?_⟩,λd d0 d1=>?_⟩
 ·have:=p.l t t0 t1 n;show _/\_<(((W.IF.set c.toNat _).length:Nat):Int);rw[E'];exact this
 ·have d1:d<(((W.IF.set c.toNat (XA (Lr (gi W.IF c) false))).length:Nat):Int):=d1;rw[E'] at d1;exact(p.s k d hk d0 d1).Bm7 rfl λ_=>rfl
 ·have d1:d<(((W.IF.set c.toNat (XA (Lr (gi W.IF c) false))).length:Nat):Int):=d1;rw[E'] at d1;have h:=p.c d d0 d1;have e:gi (RO W c (XA (Lr (gi W.IF c) false))).IF d=if c=d then XA (Lr (gi W.IF c) false) else gi W.IF d:=Qx _ _ c0 c1 d0
  by_cases he:c=d
  ·subst he;have e:=e.trans (C' rfl);refine⟨by rw[e];exact h.b,by rw[e];exact h.i,by rw[e];show (-1:Int)<=-1;decide,by rw[e];show (-1:Int)<12;decide,λ_=>by rw[e];rfl,λh0=>?_,λh0=>?_⟩
   ·rw[e] at h0;have h0:(0:Int)<=-1:=h0;omega
   ·rw[e] at h0;have h0:(0:Int)<=-1:=h0;omega
  ·have e:=e.trans (B' he);exact⟨by rw[e];exact h.b,by rw[e];exact h.i,by rw[e];exact h.c1,by rw[e];exact h.c2,by rw[e];exact h.no,by rw[e];exact h.yes,by rw[e];exact h.q⟩
def An(W:Q7)(g c x:Int):KM:={ Qa W g c with v:=if (Qa W g c).on=true then (Qa W (gi W.IE g).IG c).IM+Yg ((Qa W g c).v-(Qa W (gi W.IE g).IG c).IM) x else (Qa W g c).v,w:=x }
def zmy(W:Q7)(g c:Int):Bool:=decide ((gi W.IF c).cur>=0)&&O4 3 W.IE g (Q8 W (gi W.IF c).cur).II
def Ul(W:Q7)(g c x:Int):Q7:=RC W g c (An W g c x)
def KL(W:Q7)(g c x:Int):Q7:=if (Qa W g c).w=x then W else if zmy (Ul W g c x) g c then Rc (Ul W g c x) c else Ul W g c x
def D8(W:Q7):Prop:=∀c:Int,0<=c->c<(W.IF.length:Int)->(gi W.IF c).cur>=0->Q6 W.IE (Q8 W (gi W.IF c).cur).II=true
def zky{W:Q7}(wp:XQ W):D8 W:=λc c0 c1 h=>by
 have hc:=wp.c c c0 c1;have hy:=hc.yes h;have hl:=hy.2.2.2.2.1;have c2:=hc.c2;have ht:=wp.a.t;unfold Zf at hl;simp only[A',Is] at hl;rcases wp.t (gi W.IF c).cur h Qo with h1|h1
 ·rw[h1.1] at hl;exact Ir hl.1 Qd
 ·exact h1.2.g
def D8.RC{W:Q7}(h:D8 W){g c:Int}{s:KM}(u0:0<=g)(u1:g<(W.IE.length:Int)):D8 (RC W g c s):=λd d0 d1 hc=>by
 rw[(J5 u0 u1).aO];exact h d d0 d1 hc
def D8.Rc{W:Q7}(h:D8 W){c:Int}(c0:0<=c)(c1:c<(W.IF.length:Int)):D8 (Rc W c):=λd d0 d1 hc=>by
 have d1:d<(((W.IF.set c.toNat (XA (gi W.IF c))).length:Nat):Int):=d1;rw[E'] at d1;have hg:gi (YtjinkcmkgnofjaaGreatDoor.Rc W c).IF d=if c=d then XA (gi W.IF c) else gi W.IF d:=Qx _ _ c0 c1 d0;rw[hg] at hc ⊢
 split at hc
 ·exact Ir hc (by show ¬(-1:Int)>=0;decide)
 ·rename_i hn;rw[B' hn];exact h d d0 d1 hc
def z28{F K:Int}{W:Q7}(h:SF F K W)(hk:F+Qh<=K){g c x:Int}(hu:Q6 W.IE g)(hz:g≠0)(c0:0<=c)(c1:c<(W.IF.length:Int))(x1:1<=x)(x2:x<=20):SF F K (Ul W g c x):=by
 have hp:=h.w.a.up hu hz;have s1:=h.w.s g c hu c0 c1;have s2:=h.w.s _ c hp c0 c1;have f1:=h.f g c hu c0 c1;have f2:=h.f _ c hp c0 c1;have lc:=ZF ((Qa W g c).v-(Qa W (gi W.IE g).IG c).IM) x;have lm:=ZN x;refine h.RC hu c0 c1 s1.1 f1 (by show (Qa W g c).IM<=K;omega) ?_ ?_ x1 x2
 ·simp only[An];split <;> omega
 ·simp only[An];simp only[Qh] at hk;split <;> omega
def zmz{F K:Int}{W:Q7}(h:SF F K W)(hk:F+Qh<=K)(hc:D8 W){g c x:Int}(hu:Q6 W.IE g)(hz:g≠0)(c0:0<=c)(c1:c<(W.IF.length:Int))(x1:1<=x)(x2:x<=20):SF F K (KL W g c x)/\Fr W (KL W g c x)/\D8 (KL W g c x):=by
 obtain⟨u0,u1,_⟩:=Q2.1 hu;have hv:=z28 h hk hu hz c0 c1 x1 x2;have hf:Fr W (Ul W g c x):=(US u0 u1).fr;have hc2:D8 (Ul W g c x):=hc.RC u0 u1;unfold KL;split
 ·exact⟨h,Fr.refl _,hc⟩
 ·split
  ·exact⟨hv.Rc c0 c1,hf.trans (Nn _ _),hc2.Rc c0 c1⟩
  ·exact⟨hv,hf,hc2⟩
def GP(W:Q7)(g x:Int):Nat->Q7
 |0=>W
 |c+1=>KL (GP W g x c) g (c:Int) x
def zbj{F K:Int}{W:Q7}(h:SF F K W)(hk:F+Qh<=K)(hc:D8 W){g x:Int}(hu:Q6 W.IE g)(hz:g≠0)(x1:1<=x)(x2:x<=20):∀c:Nat,c<=W.IF.length->SF F K (GP W g x c)/\Fr W (GP W g x c)/\D8 (GP W g x c)
 |0,_=>⟨h,Fr.refl _,hc⟩
 |c+1,hn=>by
  obtain⟨a,b,d⟩:=zbj h hk hc hu hz x1 x2 c Qo;obtain⟨a2,b2,d2⟩:=zmz a hk d (g:=g) (c:=(c:Int)) (x:=x) (by rw[b.g.aO];exact hu) hz Qo (by rw[b.c];omega) x1 x2;exact⟨a2,b.trans b2,d2⟩
def MY(W:Q7)(g x:Int):ZD:={ gi W.IE g with R2:=x }
noncomputable def zm0(W:Q7)(g x:Int):Int:=Kw W g (YY x 1 20)
def zv5(W:Q7)(g x:Int):Q7:=Qb (GP (R3 W g (MY W g x)) g x W.IF.length)
def zru{W:Q7}{g x:Int}(hW:Qr W)(hb:zm0 W g x=0):YY x 1 20/\g≠0/\Q6 W.IE g/\QO W/\SF Ql (Ql+Qh) W/\SF Ql (Ql+Qh) (R3 W g (MY W g x))/\D8 (R3 W g (MY W g x))/\QH W.IE (R3 W g (MY W g x)).IE:=by
 obtain⟨h1,h2,h3,h4⟩:=za7 hb;have wp:=Qm.1 hW;have sw:=MS wp (Qm.1 h4);obtain⟨u0,u1,hg⟩:=wp.a.u h3;have hx:=Qu.1 h1;have hl:=wp.a.gl;have s1:=sw.R3 (x:=MY W g x) h3 rfl rfl rfl rfl ⟨hx.1,hx.2,hg.m,hg.m0,hg.s,hg.len,λh=>Ir h h2,hg.none,hg.IL⟩;have hT:QH W.IE (R3 W g (MY W g x)).IE:=XZ u0 Qo rfl rfl rfl;refine⟨h1,h2,h3,h4,sw.sf.mono (I2 _) (by simp only[Qh];decide),s1.sf.mono (I2 _) (by simp only[Qh];decide),λd d0 d1 hc=>?_,hT⟩;rw[hT.aO];exact zky wp d d0 d1 hc
def zz8{gs:List ZD}(ht:Yr gs){g h:Int}(u1:Q6 gs g)(u2:Q6 gs h):PG gs g h=O4 3 gs g h:=by
 unfold PG;rw[u1,u2,show Kj gs=true from @Ih _ (Classical.propDecidable _) ht];rfl
section
variable {base:Nat}{W W':Q7}{m:MW}{w:Wo}{bar:Int}
def L9{F K:Int}(h:Zp 8 base w W m)(jJ:SF F K W)(hk:F+Qh<=K)(hK:K<=1000000000000000000)(vY:D8 W){g c x:Int}(hu:Q6 W.IE g)(hz:g≠0)(c0:0<=c)(c1:c<(W.IF.length:Int)) :
  Cz Ua #[.agg (Qc W m).toArray,I g,I c,I x] w λe w'=>e=.returned (.agg (Qc W m).toArray)/\Mv 8 base [] w m w' (KL W g c x) m:=by
 refine(Nh _ _ _ _ _ _ _ _ _ _ g c x (R:=λv w'=>v=.agg (Qc W m).toArray/\Mv 8 base [] w m w' (KL W g c x) m) ?_).mono λe w' ⟨v,he,hv,h3⟩=>⟨by rw[he,hv],h3⟩
 intro y hy y1 cW;obtain⟨u0,u1,_⟩:=Q2.1 hu;have bU:=jJ.w.a.gl;have jF:=jJ.w.a.t;have hsl:=jJ.w.a.sl hu;have hp:=jJ.w.a.up hu hz;obtain⟨p0,p1,_⟩:=Q2.1 hp;have hpl:=jJ.w.a.sl hp;have s1:=jJ.w.s g c hu c0 c1;have s2:=jJ.w.s _ c hp c0 c1;have lc:=ZF ((Qa W g c).v-(Qa W (gi W.IE g).IG c).IM) x;have lm:=ZN x;have hM:=Mv.two h hy cW;have hr:=(Mv.start h).rd;have Wn:=hr.g.ix (i:=g) u0 u1;have AM6:=(hr.g.IH g u0 u1).ix YT c0 Qo;have hcx:=hr.c.ix Y1 c0 c1;have vE:=z65 h Qs (i:=g) (bs:=[]) u0 Qo c0 Qo (j:=0) (k:=5) Qd;have hcr:=jJ.w.cu c c0 c1;have lQ:decide ((gi W.IF c).cur>=0)->(gi W.IF c).cur<(W.IJ.length:Int):=λ_=>by omega
 have hT:QH W.IE (Ul W g c x).IE:=J5 u0 u1
 have hE:(decide ((gi W.IF c).cur>=0)&&PG (Ul W g c x).IE g (gi W.IJ (gi W.IF c).cur).II)=zmy (Ul W g c x) g c:=by
  unfold zmy;show _=(decide ((gi W.IF c).cur>=0)&&O4 3 (Ul W g c x).IE g (Q8 W (gi W.IF c).cur).II)
  by_cases hc:(gi W.IF c).cur>=0
  ·rw[zz8 (hT.tree jJ.w.a.tree) (by rw[hT.aO];exact hu) (by rw[hT.aO];exact vY c c0 c1 hc)];rfl
  ·rw[decide_eq_false hc];rfl
 have hlen:(Ul W g c x).IE.length=W.IE.length:=hT.len;have vJ:Fr W (Ul W g c x):=(US u0 u1).fr;have eW:Qc (Ul W g c x) m=Qc W m:=U4 vJ;have eE:Qc (Rc (Ul W g c x) c) m=Qc W m:=U4 (vJ.trans (Nn _ _));refine⟨Wn,_,_,_,hr.g.Rn u0 u1,AM6,_,_,_,_,_,(hr.g.IH g u0 u1) c c0 Qo,λb2 cD=>⟨λg1 wr hx=>⟨rfl,?_⟩,λg1=>⟨λg2=>?_,λg2=>?_⟩⟩⟩
 ·have g1:(Qa W g c).w=x:=Iz g1;unfold KL;rw[C' g1];exact(Mv.start h).R7 hx
 ·have hss:An W g c x=⟨(Qa W g c).IM,(Qa W g c).on,(Qa W (gi W.IE g).IG c).IM+Yg ((Qa W g c).v-(Qa W (gi W.IE g).IG c).IM) x,x,(Qa W g c).sum⟩:=by
   unfold An;rw[C' (show (Qa W g c).on=true from g2)]
  have SS:=zed jJ h hk hu rfl c0 c1 (An W g c x);rw[hss] at SS;have Wz:=((hM.add cD).Ss SS (zml Qo));have hV:RC W g c ⟨(Qa W g c).IM,(Qa W g c).on,(Qa W (gi W.IE g).IG c).IM+Yg ((Qa W g c).v-(Qa W (gi W.IE g).IG c).IM) x,x,(Qa W g c).sum⟩=Ul W g c x:=by unfold Ul;rw[hss]
  rw[hV] at Wz;have uH:=Wz.rd;have CE9:=Wz.close;have bM:=CE9.rd;refine⟨Wn,_,hr.g.IG u0 u1,hr.g.ix p0 p1,_,_,_,hr.g.Rn p0 p1,(hr.g.IH _ p0 p1).ix YT c0 Qo,_,zm2.f (hr.g.IH _ p0 p1) c0 Qo (j:=0) rfl,⟨by show _<=(Qa W g c).v-(Qa W (gi W.IE g).IG c).IM;omega,by show (Qa W g c).v-(Qa W (gi W.IE g).IG c).IM<=_;omega⟩,_,KD,⟨by show _<=(Qa W (gi W.IE g).IG c).IM+Yg ((Qa W g c).v-(Qa W (gi W.IE g).IG c).IM) x;omega,by show (Qa W (gi W.IE g).IG c).IM+Yg ((Qa W g c).v-(Qa W (gi W.IE g).IG c).IM) x<=_;omega⟩,Wn,_,_,_,hr.g.Rn u0 u1,AM6,vE,hcx,(gi W.IF c).cur,?_⟩;refine⟨z56.f bM.c c0 c1 (j:=1) rfl,λgc=>bM.t.ix QT (Ot gc) (lQ gc),_,λgc=>z0d.f bM.t (Ot gc) (lQ gc) (j:=1) rfl,_,λgc=>by rw[<-hlen];exact OM bM.g (by have:=Y5;omega),λgc R5 Rl fY=>?_,λgc RD Rl=>?_⟩
  ·have he:zmy (Ul W g c x) g c:=by rw[<-hE];exact gc
   have fX:=Wz.step (Rl.of_nil);have RA:=ZS fX.own c0 c1;rw[eW,eE] at RA;refine I3 RA ?_;rintro e wv ⟨kB,SQ⟩;refine⟨_,_,_,_,_,_,_,_,_,_,kB,fX.kept SQ fY,λR6 T'=>⟨rfl,?_⟩⟩;unfold KL;rw[B' (show ¬(Qa W g c).w=x from ne_of_beq_false g1),C' he];exact((fX.call SQ fY).step T').close
  ·have he:zmy (Ul W g c x) g c=false:=by rw[<-hE];exact gc
   refine⟨rfl,?_⟩;unfold KL;rw[B' (show ¬(Qa W g c).w=x from ne_of_beq_false g1),B' (by rw[he];decide)];exact(Wz.step Rl.of_nil).close
 ·have hss:An W g c x=⟨(Qa W g c).IM,(Qa W g c).on,(Qa W g c).v,x,(Qa W g c).sum⟩:=by
   unfold An;rw[B' (by rw[show (Qa W g c).on=false from g2];decide)]
  have SS:=zed jJ h hk hu rfl c0 c1 (An W g c x);rw[hss] at SS;have Wz:=((hM.add cD).Ss SS (zml Qo));have hV:RC W g c ⟨(Qa W g c).IM,(Qa W g c).on,(Qa W g c).v,x,(Qa W g c).sum⟩=Ul W g c x:=by unfold Ul;rw[hss]
  rw[hV] at Wz;have uH:=Wz.rd;have CE9:=Wz.close;have bM:=CE9.rd;refine⟨Wn,_,_,_,hr.g.Rn u0 u1,AM6,vE,hcx,(gi W.IF c).cur,?_⟩;refine⟨z56.f bM.c c0 c1 (j:=1) rfl,λgc=>bM.t.ix QT (Ot gc) (lQ gc),_,λgc=>z0d.f bM.t (Ot gc) (lQ gc) (j:=1) rfl,_,λgc=>by rw[<-hlen];exact OM bM.g (by have:=Y5;omega),λgc R5 Rl fY=>?_,λgc RD Rl=>?_⟩
  ·have he:zmy (Ul W g c x) g c:=by rw[<-hE];exact gc
   have fX:=Wz.step (Rl.of_nil);have RA:=ZS fX.own c0 c1;rw[eW,eE] at RA;refine I3 RA ?_;rintro e wv ⟨kB,SQ⟩;refine⟨_,_,_,_,_,_,_,_,_,_,kB,fX.kept SQ fY,λR6 T'=>⟨rfl,?_⟩⟩;unfold KL;rw[B' (show ¬(Qa W g c).w=x from ne_of_beq_false g1),C' he];exact((fX.call SQ fY).step T').close
  ·have he:zmy (Ul W g c x) g c=false:=by rw[<-hE];exact gc
   refine⟨rfl,?_⟩;unfold KL;rw[B' (show ¬(Qa W g c).w=x from ne_of_beq_false g1),B' (by rw[he];decide)];exact(Wz.step Rl.of_nil).close
def FSx{g x:Int}(h:XV [] w W m)(hl:VB W) :
  Cz VP #[.agg (Qc W m).toArray,I g,I x] w λe w'=>∃v,e=.returned v/\QX (Yz W (zm0 W g x) (zv5 W g x)) w v w':=by
 refine Fy _ _ _ _ _ _ _ _ _ _ g x (R:=λv w'=>QX (Yz W (zm0 W g x) (zv5 W g x)) w v w') ?_;intro y hy y1 cW;refine⟨_,JQ,λwr Rk V'=>?_⟩;refine I3 (Vx (g:=g) (ok:=YY x 1 20) (h.ext Rk) hl) ?_;rintro e wv (⟨hW,he,SQ⟩|⟨hW,m',he,hM,SQ⟩)
 ·exact⟨_,_,_,_,_,_,_,_,_,_,_,he,Qi SQ V',λ_ R5 Rl=>QX.bad hW ((Rk.trans SQ).fresh Rl λz hm=>.inl (YM hy cW z hm)),λg=>by simp at g⟩
 have hK:=Wk.begin hy cW Rk V' hM SQ;refine⟨_,_,_,_,_,_,_,_,_,_,_,he,Qi SQ V',λg1 R5 Rl=>QX.no hW (by simpa[zm0] using g1) (hK.step Rl) rfl,λg1=>?_⟩;have hb:zm0 W g x=0:=by simpa[zm0] using g1
 have hr:=hK.rd;obtain⟨Cy1,hz,hu,AB9,_,sf,vY,hT⟩:=zru hW hb;have hxr:=Qu.1 Cy1;obtain⟨u0,u1,_⟩:=Q2.1 hu;have bU:W.IE.length=8:=by have:=sf.w.a.gl;rwa[hT.len] at this
 have Wn:=hr.g.ix (i:=g) u0 u1;have SS:Wk 8 [y,y1] w (Rw wv m'.gO (Int.toNat g*14+3) [I x]) (R3 W g (MY W g x)) m':=hK.Rw (hK.own.Ae8 u0 Qo (g:=MY W g x) rfl rfl rfl (j:=3) (vs:=[I x]) rfl Qs) Ag;have vE:=zrw hK.own hK.nb (i:=g) u0 Qo (j:=3) (k:=1) Qd;have e0:Qc (R3 W g (MY W g x)) m'=Qc W m':=by simp[Qc,R3]
 have huV:Q6 (R3 W g (MY W g x)).IE g:=by rw[hT.aO];exact hu
 have qT:(R3 W g (MY W g x)).IF.length=W.IF.length:=rfl;have hE:zv5 W g x=Qb (GP (R3 W g (MY W g x)) g x W.IF.length):=rfl;rw[hE];have hc4:=sf.w.a.c2;generalize R3 W g (MY W g x)=V at SS sf vY hT e0 huV qT hc4;refine⟨Wn,vE,λvs w1=>∃(k:Nat),vs=I (k:Int)::Qc W m'/\k<=W.IF.length/\Wk 8 [y,y1] w w1 (GP V g x k) m',ZG W.IF.length 0,λw1 sJ _=>⟨0,rfl,Ic _,SS.step sJ⟩,?_⟩;rintro c1 l S8 Si Sp Se Sk Sn Sf Sg Sh RI fY ⟨k,bH,hk,fZ⟩;obtain⟨hS,hf,hc2⟩:=zbj sf (I2 _) vY huV hz hxr.1 hxr.2 k Qo;have W8:GP V g x (k+1)=KL (GP V g x k) g (k:Int) x:=rfl;have sF:k=W.IF.length->GP V g x W.IF.length=GP V g x k:=λe=>by rw[e]
 have eU:Qc (GP V g x k) m'=Qc W m':=(U4 hf).trans e0;have hcU:=hf.c;have huU:Q6 (GP V g x k).IE g:=by rw[hf.g.aO];exact huV
 simp only[Qc,I4,I5,Iv,true_and,and_true] at bH;obtain⟨rfl,rfl,⟨rfl,rfl,rfl⟩,⟨rfl,rfl,rfl⟩,rfl,rfl,rfl⟩:=bH;generalize GP V g x k=U at fZ hS hf hc2 W8 sF eU hcU huU;refine⟨λIW RD Rl dT=>?_,λRM RQ Su fK=>?_⟩
 ·have IW:=Ot IW;have qR:=fZ.step Rl;have RA:=L9 qR.own hS (I2 _) (by simp only[Qh];decide) hc2 (g:=g) (c:=(k:Int)) (x:=x) huU hz Qo Qo;rw[eU] at RA;refine I3 RA ?_;rintro e S3 ⟨gD,eD⟩;refine⟨_,_,_,_,_,_,_,_,_,_,gD,qR.kept eD dT,⟨Qo,Qo⟩,λRE T' _=>⟨⟨k+1,rfl,Qo,?_⟩,?_⟩⟩
  ·rw[W8];exact(qR.Ss eD dT).step T'
  ·simp only[ZG,Xt,Ye,Ie];omega
 ·have RM:=Ou RM;rw[sF Qo];have dZ:=fZ.step Su;have RA:=QA dZ.own hS.w (by simp only[Qh];decide) (by simp only[Qh];decide) dZ.base;rw[eU] at RA;refine I3 RA ?_;rintro e2 RI ⟨m2,bH,SQ⟩;exact⟨_,_,_,_,_,_,_,_,_,_,bH,dZ.kept SQ fK,λRE Su=>QX.ok hW hb ((dZ.Ss SQ fK).step Su)⟩
section
variable {pb:Nat}
end
end
def z6h(W:Q7)(t b c:Int):Bool:=(B1 W c==0)||decide (B1 W c+Qf (Q8 W t).nice<=B1 W b-Qf (Q8 W t).nice)
def zil(W:Q7)(b c:Int)(t:Nat):Bool:=(((Q8 W (t:Int)).R1==b)&&V4 W (t:Int) c)&&z6h W (t:Int) b c
def P8(W:Q7)(b c:Int):Nat->Nat->Int
 |0,_ => -1
 |f+1,j=>if zil W b c j=true then (j:Int) else P8 W b c f (j+1)
def zuk{W:Q7}{b c:Int}{f j:Nat}(h:zil W b c j):P8 W b c (f+1) j=(j:Int):=C' h
def zp8{W:Q7}{b c:Int}{f j:Nat}(h:zil W b c j=false):P8 W b c (f+1) j=P8 W b c f (j+1):=B' (by rw[h];decide)
noncomputable def zok(W:Q7)(c:Int):Nat->Nat->Int
 |0,_ => -1
 |f+1,k=>if P5 W c (k:Int)<0 then zok W c f (k+1) else if P8 W (P5 W c (k:Int)) c 12 0<0 then zok W c f (k+1) else P8 W (P5 W c (k:Int)) c 12 0
noncomputable def Lj(W:Q7)(c:Int):Int:=zok W c (zba (W.IF.length:Int)).toNat 0
def zom{W:Q7}{c:Int}{f k:Nat}(h:P5 W c (k:Int)<0):zok W c (f+1) k=zok W c f (k+1):=C' h
def zol{W:Q7}{c:Int}{f k:Nat}(h:P8 W (P5 W c (k:Int)) c 12 0<0):zok W c (f+1) k=zok W c f (k+1):=by
 simp only[zok]
 by_cases h0:P5 W c (k:Int)<0
 ·rw[C' h0]
 ·rw[B' h0,C' h]
def zon{W:Q7}{c:Int}{f k:Nat}(h0:¬P5 W c (k:Int)<0)(h:¬P8 W (P5 W c (k:Int)) c 12 0<0):zok W c (f+1) k=P8 W (P5 W c (k:Int)) c 12 0:=by
 simp only[zok];rw[B' h0,B' h]
def zef{W:Q7}(wp:XQ W)(c:Int):0<=B1 W c/\B1 W c<=240:=by
 have:=VZ (Ay W c) W.IJ.length;have ht:=wp.a.t;unfold B1;omega
section
variable {W:Q7}{m:MW}{w:Wo}{bs:List Nat}{p:OA}
def zd6{t b c:Int}(h:XV bs w W m)(wp:XQ W)(t0:0<=t)(t1:t<(W.IJ.length:Int)):PX bs Pu #[.agg (Qc W m).toArray,I t,I b,I c] w (.bool (z6h W t b c)):=
 ze2 _ _ _ _ _ _ _ _ _ _ t b c λwr hx=>by
  have h:=(h.ext hx).less (cs:=[]) Qs;have r1:=zef wp c;have r2:=zef wp b;have r3:0<=Qf (gi W.IJ t).nice/\Qf (gi W.IJ t).nice<=20:=Xa _;exact λ_ _=>⟨_,TI h wp,h.t.ix QT t0 t1,_,h.t.f t0 t1 (j:=3) rfl,_,Yc,λ_=>⟨Qo,Qo⟩,_,λ_=>TI h wp,λ_=>⟨Qo,Qo⟩,rfl⟩
def zd7{c:Int}(h:XV bs w W m)(wp:XQ W)(c0:0<=c)(c1:c<(W.IF.length:Int)):PX bs Pv #[.agg (Qc W m).toArray,I c] w (I (Lj W c)):=
 ze4 _ _ _ _ _ _ _ _ _ _ c λwr hx=>by
  have h:=(h.ext hx).less (cs:=[]) Qs;have hlv:=zsu (W.IF.length:Int);have jF:=wp.a.t;intro _ _;refine X7 2 0 rfl (λk=>(k:Int)<=zba (W.IF.length:Int)/\zok W c ((zba (W.IF.length:Int)).toNat-k) k=Lj W c) ⟨hlv.1,rfl⟩ λk ⟨hk,hI⟩=>⟨_,PM,λIW=>?_,λRM=>?_⟩
  ·have IW:=Ot IW;have ek:(zba (W.IF.length:Int)).toNat-k=((zba (W.IF.length:Int)).toNat-(k+1))+1:=Qo;rw[ek] at hI;have nxt:zok W c ((zba (W.IF.length:Int)).toNat-(k+1)) (k+1)=Lj W c->((k+1:Nat):Int)<=zba (W.IF.length:Int)/\zok W c ((zba (W.IF.length:Int)).toNat-(k+1)) (k+1)=Lj W c:=λhp=>⟨Qo,hp⟩
   refine⟨_,FQ,_,FU h wp c0 c1,λg=>⟨⟨Qo,Qo⟩,QB Qo (nxt ?_)⟩,λg=>?_⟩
   ·rw[<-hI,zom (show P5 W c (k:Int)<0 from Ot g)]
   ·have g:¬P5 W c (k:Int)<0:=Ou g;refine X7 12 0 rfl (λj=>j<=12/\P8 W (P5 W c (k:Int)) c (12-j) j=P8 W (P5 W c (k:Int)) c 12 0) ⟨Ic _,rfl⟩ λj ⟨hj,hF⟩=>⟨λRh=>?_,λaX=>?_⟩
    ·have Rh:=Ot Rh;have vC:j<12:=Qo;rw[show 12-j=(12-(j+1))+1 by omega] at hF;refine⟨h.t.ix QT Qo Rh,_,h.t.f Qo Rh (j:=2) rfl,_,λ_=>Gn h wp Qo Rh c0 c1,_,λ_=>zd6 h wp Qo Rh,λg2=>?_,λg2=>⟨⟨Qo,Qo⟩,QB vC ⟨Qo,?_⟩⟩⟩
     ·have g2:zil W (P5 W c (k:Int)) c j:=g2;rw[zuk g2] at hF;rw[<-hI,zon g (by rw[<-hF];omega),<-hF]
     ·have g2:zil W (P5 W c (k:Int)) c j=false:=g2;rw[<-hF,zp8 g2]
    ·have aX:=Ou aX;have:j=12:=Qo;subst this;refine⟨⟨Qo,Qo⟩,QB Qo (nxt ?_)⟩;rw[<-hI,zol (by rw[<-hF];show (-1:Int)<0;decide)]
  ·have RM:=Ou RM;have:(zba (W.IF.length:Int)).toNat-k=0:=Qo;rw[this] at hI;rw[<-hI];rfl
def zq5(W:Q7)(c:Int) : -1<=Lj W c:=by
 have hf:∀(b:Int) (f j:Nat),-1<=P8 W b c f j:=λb f=>by
  induction f with
  |zero=>intro j;exact I2 _
  |succ f ih=>
   intro j;simp only[P8];split
   ·omega
   ·exact ih _
 have hp:∀(f k:Nat),-1<=zok W c f k:=λf=>by
  induction f with
  |zero=>intro k;exact I2 _
  |succ f ih=>
   intro k;simp only[zok];split
   ·exact ih _
   ·split
    ·exact ih _
    ·exact hf _ _ _
 exact hp _ _
end
def zgy(W:Q7)(g:Int)(j:Nat):Int:=zdo W g (j:Int)
def MA(W:Q7)(g c:Int)(h:W.IJ.length=12):0<=zdo W g c/\zdo W g c<=240:=by
 have:=VZ (zdn W g c) W.IJ.length;unfold zdo;omega
def z4y(a b:Int):Int:=if a>b then a else b
def MP(W:Q7)(g c:Int):Int:=
 if Js (zgy W g) W.IF.length=0 then (gi W.IE g).R2 else z4y 1 (Int.tdiv ((gi W.IE g).R2*zdo W g c) (Js (zgy W g) W.IF.length))
def z39{a b:Int}(ha:0<=a)(ha2:a<=100000)(hb:0<b):Qp .i64 (Int.tdiv a b):=by
 have h1:=Int.tdiv_nonneg ha (Int.le_of_lt hb);have h2:Int.tdiv a b<=a:=by rw[Int.tdiv_eq_ediv_of_nonneg ha];exact Int.ediv_le_self _ ha
 exact⟨Qo,Qo⟩
def zhk{a b:Int}{w:Wo}{bs:List Nat}:PX bs X0 #[I a,I b] w (I (z4y a b)):=TJ
section
variable {W:Q7}{m:MW}{w:Wo}{bs:List Nat}{p:OA}
def zrg{g c:Int}(wp:TU W)(hu:Q6 W.IE g):0<=(gi W.IE g).R2*zdo W g c/\(gi W.IE g).R2*zdo W g c<=4800:=by
 have hw:=(wp.a.u hu).2.2;have hi:=MA W g c wp.a.t;have w1:=hw.w1;have w2:=hw.w2;refine⟨Int.mul_nonneg Qo hi.1,?_⟩;have:=Int.mul_le_mul w2 hi.2 hi.1 (show (0:Int)<=20 by decide);omega
def N2{g:Int}(wp:TU W)(k:Nat):0<=Js (zgy W g) k/\Js (zgy W g) k<=(k:Int)*240:=VZ (λj=>MA W g (j:Int) wp.a.t) k
def v9{g c:Int}(h:XV bs w W m)(wp:TU W)(hl:VB W)(hu:Q6 W.IE g):PX bs OF #[.agg (Qc W m).toArray,I g,I c] w (I (MP W g c)):=
 zao _ _ _ _ _ _ _ _ _ _ g c λwr hx=>by
  have h:=(h.ext hx).less (cs:=[]) Qs;have qT:=wp.a.c2;obtain⟨u1,u2,_⟩:=Q2.1 hu;intro _ _;refine Pc W.IF.length 0 rfl (λx k=>k<=W.IF.length/\x=Js (zgy W g) k) ⟨Ic _,rfl⟩ λx k ⟨hk,Rk⟩=>⟨λIW=>?_,λRM=>⟨λg2=>⟨h.g.ix u1 u2,_,(h.g.cells g u1 u2).get 3 _ rfl,?_⟩,λg2=>?_⟩⟩
  ·have IW:=Ot IW;have hr:=N2 (g:=g) wp k;have hi:=MA W g (k:Int) wp.a.t;exact⟨_,Lc h wp hl hu,⟨Qo,Qo⟩,⟨Qo,Qo⟩,QN Qo ⟨Qo,by simp only[Js];rw[Rk];rfl⟩⟩
  ·have RM:=Ou RM;have:k=W.IF.length:=Qo;subst this;unfold MP;rw[C' (by rw[<-Rk];simpa using g2)]
  ·have RM:=Ou RM;have:k=W.IF.length:=Qo;subst this;have hr:=N2 (g:=g) wp W.IF.length;have hp:=zrg (c:=c) wp hu;have cU:x≠0:=by simpa using g2
   refine⟨h.g.ix u1 u2,_,(h.g.cells g u1 u2).get 3 _ rfl,zdo W g c,Lc h wp hl hu,⟨Qo,Qo⟩,⟨cU,z39 hp.1 Qo Qo⟩,_,zhk,?_⟩;unfold MP;rw[B' (by rw[<-Rk];exact cU),Rk]
end
def zx7{gs:List ZD}(ht:Yr gs){g:Int}:∀h:Int,Q6 gs h->g∈QR gs h->O4 3 gs g h:=
 MK ht (λhx=>by rw[show QR gs 0=[] from Zh _ _] at hx;cases hx) λh hu hz ih hx=>by
  by_cases e:h=g
  ·subst e;simp[O4]
  ·rw[zi3 ht hu hz e];rw[Yq ht hu hz] at hx;rcases Ii.1 hx with e2|e2
   ·exact Ir e2.symm e
   ·exact ih e2
def ztn(W:Q7)(g c x:Int):O0 W (KL W g c x):=by
 unfold KL;split
 ·exact O0.refl _
 ·split
  ·exact(zfp _ _ _ _).trans (D1 _ _)
  ·exact zfp _ _ _ _
def TX.wei{W:Q7}(p:TX W){g c x:Int}(hu:Q6 W.IE g)(hz:g≠0)(c0:0<=c)(c1:c<(W.IF.length:Int)):TX (KL W g c x):=by
 obtain⟨u0,u1,_⟩:=Q2.1 hu;have hl:=p.a.gl;have hsl:=p.a.sl hu;have oM:c<((gi W.IE g).IH.length:Int):=Qo;have e:∀{i j:Int},0<=i->0<=j->Qa (Ul W g c x) i j=if g=i/\c=j then An W g c x else Qa W i j:=λhi hj=>UV u0 u1 c0 oM hi hj
 have hT:QH W.IE (Ul W g c x).IE:=J5 u0 u1
 have ef:∀{i j:Int},0<=i->0<=j->(Qa (Ul W g c x) i j).IM=(Qa W i j).IM:=λ{i j} hi hj=>by
  rw[e hi hj];split
  ·rename_i h;obtain⟨rfl,rfl⟩:=h;rfl
  ·rfl
 have hpu:=p.a.up hu hz;have p0:=(Q2.1 hpu).1
 have same:∀{i j:Int},Q6 W.IE i->i≠0->0<=j->¬(g=i/\c=j)->VY W i j->VY (Ul W g c x) i j:=λ{i j} iu iz j0 hn h=>by
  unfold VY at h ⊢;rw[hT.p,ef (Q2.1 (p.a.up iu iz)).1 j0,e (Q2.1 iu).1 j0,B' hn];exact h
 have hA:PreA (Ul W g c x):=by
  refine⟨p.a.RC u0 Qo,λt t0 t1=>?_,λt t0 t1 n=>p.l t t0 t1 n,λi j iu j0 j1=>?_⟩
  ·rcases p.t t t0 t1 with h|⟨n,h⟩
   ·exact .inl h
   ·exact .inr ⟨n,h.st,by rw[hT.aO];exact h.g,h.n,h.m,h.m0,h.s,h.u,h.l1,h.l2,λh1=>by
     show (Qa (Ul W g c x) (Q8 W t).II (Q8 W t).R1).IM<=(Q8 W t).v/\(Q8 W t).v-(Qa (Ul W g c x) (Q8 W t).II (Q8 W t).R1).IM<=_;rw[ef (Q2.1 h.g).1 (p.l t t0 t1 n).1];exact h.f h1⟩
  ·rw[hT.aO] at iu;have hs:=p.s i j iu j0 j1;have i0:=(Q2.1 iu).1
   by_cases h:g=i/\c=j
   ·obtain⟨rfl,rfl⟩:=h;refine⟨by rw[e i0 j0,C' ⟨rfl,rfl⟩];exact hs.s,λh0=>Ir h0 hz,λ_ ho=>?_⟩;rw[e i0 j0,C' ⟨rfl,rfl⟩] at ho;have ho:(Qa W g c).on:=ho;unfold VY;rw[hT.p,ef p0 j0,e i0 j0,C' ⟨rfl,rfl⟩];simp only[An];rw[C' ho];have:=ZF ((Qa W g c).v-(Qa W (gi W.IE g).IG c).IM) x;omega
   ·refine⟨by rw[e i0 j0,B' h];exact hs.s,by rw[e i0 j0,B' h];exact hs.root,λiz ho=>?_⟩;rw[e i0 j0,B' h] at ho;exact same iu iz j0 h (hs.st iz ho)
 have hC:∀d:Int,0<=d->d<(W.IF.length:Int)->(d=c->zmy (Ul W g c x) g c=false)->z30 (Ul W g c x) d:=λd d0 d1 hd=>by
  have h:=p.c d d0 d1;refine⟨h.b,h.i,h.c1,h.c2,h.no,h.yes,λh0 h1 h2=>?_⟩;obtain⟨q1,q2⟩:=h.q h0 h1 h2
  have vY:Q6 W.IE (Q8 W (gi W.IF d).cur).II:=by
   rcases p.t _ h0 h.c2 with hz|⟨_,hx⟩
   ·have h1:(Q8 W (gi W.IF d).cur).state=1:=h1;have h3:(Q8 W (gi W.IF d).cur).state=0:=hz.1;rw[h3] at h1;cases h1
   ·exact hx.g
  refine⟨by show (Q8 W (gi W.IF d).cur).v-(Qa (Ul W g c x) (Q8 W (gi W.IF d).cur).II d).IM<=_;rw[ef (Q2.1 vY).1 d0];exact q1,λy hy=>?_⟩;have hy:y∈QR W.IE (Q8 W (gi W.IF d).cur).II:=by rw[<-Jc hT];exact hy
  obtain⟨yu,yz⟩:=Yv p.a.tree _ vY y hy;have y0:=(Q2.1 yu).1
  have hn:¬(g=y/\c=d):=by
   rintro⟨rfl,rfl⟩;have h3:=hd rfl;unfold zmy at h3;have h4:=zx7 (hT.tree p.a.tree) (g:=g) (Q8 W (gi W.IF c).cur).II (by rw[hT.aO];exact vY) (by rw[Jc hT];exact hy);rw[show (gi (Ul W g c x).IF c).cur=(gi W.IF c).cur from rfl,Ih (show (gi W.IF c).cur>=0 from h0),Bool.true_and] at h3;rw[show (Q8 (Ul W g c x) (gi W.IF c).cur).II=(Q8 W (gi W.IF c).cur).II from rfl,h4] at h3;cases h3
  obtain⟨s1,s2⟩:=q2 y hy;refine⟨same yu yz d0 hn s1,?_⟩;rw[hT.p,ef (Q2.1 (p.a.up yu yz)).1 d0,e y0 d0,B' hn];exact s2
 unfold KL;split
 ·exact p
 ·split
  ·refine⟨hA.Rc c0 c1,λd d0 d1=>?_⟩;have hlen:(YtjinkcmkgnofjaaGreatDoor.Rc (Ul W g c x) c).IF.length=W.IF.length:=E';have kH:gi (YtjinkcmkgnofjaaGreatDoor.Rc (Ul W g c x) c).IF d=if c=d then XA (gi W.IF c) else gi W.IF d:=Qx _ _ c0 c1 d0;rw[hlen] at d1
   by_cases ed:c=d
   ·subst ed;have h:=p.c c c0 c1;rw[C' rfl] at kH;have n1:(XA (gi W.IF c)).cur = -1:=rfl;exact⟨by rw[kH];exact h.b,by rw[kH];exact h.i,by rw[kH,n1];exact I2 _,by rw[kH,n1];decide,λ_=>by rw[kH];rfl,λh=>by rw[kH,n1] at h;omega,λh=>by rw[kH,n1] at h;omega⟩
   ·have h:=hC d d0 d1 λhd=>Ir hd.symm ed
    rw[B' ed] at kH;exact⟨by rw[kH];exact h.b,by rw[kH];exact h.i,by rw[kH];exact h.c1,by rw[kH];exact h.c2,by rw[kH];exact h.no,by rw[kH];exact h.yes,by rw[kH];exact h.q⟩
  ·rename_i he;exact⟨hA,λd d0 d1=>hC d d0 d1 λ_=>by simpa using he⟩
def SW.tu{K:Int}{W:Q7}(h:SW K W):TU W:=⟨h.a,λt0 t1 hs=>h.li t0 t1 hs⟩
def ztq{f:Nat->Int}(h:∀j,0<=f j):∀m:Nat,0<=Js f m
 |0=>I2 _
 |m+1=>by
  have ih:=ztq h m;have:=h m;simp only[Js];omega
def ztp{f:Nat->Int}(h:∀j,0<=f j){k:Nat}:∀n:Nat,k<n->f k<=Js f n
 |0,hk=>Ir hk (Nat.not_lt_zero k)
 |n+1,hk=>by
  simp only[Js];have hn:=ztq h
  by_cases e:k=n
  ·subst e;have:=hn k;omega
  ·have:=ztp h (k:=k) n Qo;have:=h n;omega
def zo2{W:Q7}(wp:TU W){g c:Int}(hu:Q6 W.IE g)(c0:0<=c)(c1:c<(W.IF.length:Int)):1<=MP W g c/\MP W g c<=(gi W.IE g).R2:=by
 have hg:=(wp.a.u hu).2.2;have w1:=hg.w1;have hi:=MA W g c wp.a.t
 have vW:zdo W g c<=Js (zgy W g) W.IF.length:=by
  have:=ztp (f:=zgy W g) (λj=>(MA W g (j:Int) wp.a.t).1) (k:=c.toNat) W.IF.length Qo;unfold zgy at this
  rwa[show ((c.toNat:Nat):Int)=c by omega] at this
 unfold MP;split
 ·omega
 ·rename_i hn
  have hp:0<Js (zgy W g) W.IF.length:=by
   have:=(N2 (g:=g) wp W.IF.length).1;omega
  have hq:Int.tdiv ((gi W.IE g).R2*zdo W g c) (Js (zgy W g) W.IF.length)<=(gi W.IE g).R2:=by
   rw[Int.tdiv_eq_ediv_of_nonneg (Int.mul_nonneg Qo hi.1)];refine Int.ediv_le_of_le_mul hp ?_;exact Int.mul_le_mul_of_nonneg_left vW Qo
  unfold z4y
  split <;> omega
def zfm{W:Q7}(wp:TU W){g c:Int}(hu:Q6 W.IE g)(c0:0<=c)(c1:c<(W.IF.length:Int)):1<=MP W g c/\MP W g c<=20:=by
 have h:=zo2 wp hu c0 c1;have:=(wp.a.u hu).2.2.w2;omega
def Tg(W:Q7)(c:Int):Nat->Q7
 |0=>W
 |k+1=>if k≠0/\(gi (Tg W c k).IE (k:Int)).IV then KL (Tg W c k) (k:Int) c (MP (Tg W c k) (k:Int) c) else Tg W c k
def Ve(W:Q7)(c:Int):Q7:=Qb (Tg W c 8)
noncomputable def O2(W:Q7)(c:Int):Int:=Lj (Ve W c) c
noncomputable def zci(W:Q7)(c:Int):Q7:=if O2 W c<0 then Ve W c else Qb (Uj (Ve W c) (O2 W c) (Q8 (Ve W c) (O2 W c)).II c)
noncomputable abbrev Ec(W:Q7)(c:Int):Int:=V6 W c true 0
structure z3c (W V:Q7):Prop where
 sf:SF Ql (Ql+Qh) V
 fr:Fr W V
 cu:D8 V
 pre:TX V
 sta:O0 W V
def zkq{W:Q7}(wp:XQ W)(hr:Ge W){c:Int}(c0:0<=c)(c1:c<(W.IF.length:Int)):∀k:Nat,k<=8->z3c W (Tg W c k)
 |0,_=>⟨Lo (MS wp hr),Fr.refl _,zky wp,XJ wp,O0.refl _⟩
 |k+1,hk=>by
  have ih:=zkq wp hr c0 c1 k Qo;simp only[Tg];split
  ·rename_i h;have hl:=ih.sf.w.a.gl;have hu:Q6 (Tg W c k).IE (k:Int):=Q2.2 ⟨Qo,Qo,h.2⟩;have oM:c<((Tg W c k).IF.length:Int):=by rw[ih.fr.c];exact c1
   have hs:=zfm ih.sf.w.tu hu c0 oM;obtain⟨a,b,d⟩:=zmz ih.sf (I2 _) ih.cu hu Qo c0 oM hs.1 hs.2;exact⟨a,ih.fr.trans b,d,ih.pre.wei hu Qo c0 oM,ih.sta.trans (ztn _ _ _ _)⟩
  ·exact ih
def za2{W:Q7}{c:Int}(hW:Qr W)(hb:Ec W c=0):0<=c/\c<(W.IF.length:Int)/\z3c W (Tg W c 8)/\XQ (Ve W c)/\SW (Ql+Qh+UW) (Ve W c)/\Fr W (Ve W c):=by
 obtain⟨h1,_,_,h4⟩:=zkx hb;have wp:=Qm.1 hW;obtain⟨c0,c1⟩:=UF h1;have hB:=zkq wp (Qm.1 h4) c0 c1 8 (I7 _);have hs:=JF hB.sf.w (by simp only[Qh];decide);exact⟨c0,c1,hB,(zfl hB.sf.w (by simp only[Qh];decide) (by simp only[Qh,UW];decide) hB.pre (hB.sta.loc hB.fr.t (Vd wp))).1,hs.1,hB.fr.trans hs.2⟩
def zde{W:Q7}{b c:Int}:∀f j:Nat,0<=P8 W b c f j->∃i:Nat,P8 W b c f j=(i:Int)/\j<=i/\i<j+f/\zil W b c i=true
 |0,j,h=>by
  have:(0:Int)<=-1:=h;omega
 |f+1,j,h=>by
  simp only[P8] at h ⊢;split
  ·rename_i hp;exact⟨j,rfl,I7 _,Qo,hp⟩
  ·rename_i hp;rw[B' hp] at h;obtain⟨i,a,b',c',d⟩:=zde f (j+1) h;exact⟨i,a,Qo,Qo,d⟩
def zjp{W:Q7}{c:Int}(h:¬Lj W c<0):∃(i:Nat) (b:Int),Lj W c=(i:Int)/\i<12/\zil W b c i:=by
 have key:∀f k:Nat,0<=zok W c f k->∃(i:Nat) (b:Int),zok W c f k=(i:Int)/\i<12/\zil W b c i:=λf=>by
  induction f with
  |zero=>intro k h;have:(0:Int)<=-1:=h;omega
  |succ f ih=>
   intro k h
   by_cases h0:P5 W c (k:Int)<0
   ·rw[zom h0] at h ⊢;exact ih _ h
   ·by_cases h1:P8 W (P5 W c (k:Int)) c 12 0<0
    ·rw[zol h1] at h ⊢;exact ih _ h
    ·rw[zon h0 h1] at h ⊢;obtain⟨i,a,_,b,d⟩:=zde 12 0 h;exact⟨i,_,a,Qo,d⟩
 exact key _ _ (by have:=zq5 W c;unfold Lj at *;omega)
def z2p{W:Q7}{c:Int}(h:¬Lj W c<0):0<=Lj W c/\Lj W c<12/\(Q8 W (Lj W c)).state=1:=by
 obtain⟨i,b,e,hi,hp⟩:=zjp h;unfold zil at hp;simp only[A'] at hp;rw[e];exact⟨Qo,Qo,(Ar hp.1.2).1⟩
def z15{W V:Q7}(hl:VB W)(ha:WA V)(hT:QH W.IE V.IE):VB V:=by
 have h1:=ha.c2;have h2:=ha.t;have h3:=ha.gl;have hm:=Y5;have hn1:=ha.n1;have hn2:=ha.n2;refine⟨Qo,Qo,Qo,λi a b=>?_⟩;have hb:=KR ha a Qo;have hg:=ha.grp i a Qo;refine⟨by rw[hT.n];exact(hl.f i a (by rw[<-hT.len];exact b)).nm,?_,Qo,Qo,Qo⟩
 cases hu:(gi V.IE i).IV with
 |false=>rw[(hg.1 hu).ne];exact⟨Qd,Qd⟩
 |true=>
  have hg:=hg.2 hu
  by_cases hq:(gi V.IE i).IL.I'=0
  ·rw[(hg.none hq).2.2];exact⟨Qd,Qd⟩
  ·have:=hg.IL hq;exact⟨Qo,Qo⟩
def zkr{W:Q7}{c:Int}(hW:Qr W)(hb:Ec W c=0)(hp:¬O2 W c<0):0<=O2 W c/\O2 W c<12/\(Q8 (Ve W c) (O2 W c)).state=1/\Q6 (Ve W c).IE (Q8 (Ve W c) (O2 W c)).II/\SF (Ql+Qh+UW) (Ql+Qh+UW+Qh) (Ve W c)/\
  SF (Ql+Qh+UW) (Ql+Qh+UW+Qh) (Uj (Ve W c) (O2 W c) (Q8 (Ve W c) (O2 W c)).II c):=by
 obtain⟨c0,c1,_,wp,sw,fr⟩:=za2 hW hb;obtain⟨p0,p1,ps⟩:=z2p hp;have sf:SF (Ql+Qh+UW) (Ql+Qh+UW+Qh) (Ve W c):=sw.sf.mono (I2 _) (by simp only[Qh];omega);have hu:=(sw.t _ p0 p1 (show (Q8 (Ve W c) (O2 W c)).state≠0 by unfold O2;rw[ps];decide)).1;exact⟨p0,p1,ps,hu,sf,(Bm sf (I2 _) p0 p1 hu c0 (by rw[fr.c];exact c1)).2⟩
section
variable {base pb:Nat}{W W':Q7}{m:MW}{w:Wo}
def FP{c:Int}(h:XV [] w W m)(hl:VB W) :
  Cz VM #[.agg (Qc W m).toArray,I c] w λe w'=>∃v,e=.returned v/\QX (Yz W (Ec W c) (zci W c)) w v w':=by
 refine Fw _ _ _ _ _ _ _ _ _ _ c (R:=λv w'=>QX (Yz W (Ec W c) (zci W c)) w v w') ?_;intro y hy y1 cW wr Rk V';have hm0:=XX;have hlc:=hl.c;refine I3 (Zn (h.ext Rk) hl) ?_;rintro e wv (⟨hW,he,SQ⟩|⟨hW,m',he,hM,SQ⟩)
 ·exact⟨_,_,_,_,_,_,_,_,_,_,_,he,Qi SQ V',λg=>by simp at g,true,λg=>by simp at g,λ_ R5 Rl=>QX.bad hW ((Rk.trans SQ).fresh Rl λz hm=>.inl (YM hy cW z hm)),λg=>by simp at g⟩
 have hK:=Wk.begin hy cW Rk V' hM SQ;have hr:=hK.rd;have wp:=Qm.1 hW;refine⟨_,_,_,_,_,_,_,_,_,_,_,he,Qi SQ V',λ_=>⟨Qo,Qo⟩,Xd W c,λ_=>Qq,λg R5 Rl=>?_,λg=>?_⟩
 ·have g:Xd W c=false:=by
   cases hc:Xd W c with
   |false=>rfl
   |true=>rw[hc] at g;split at g <;> simp at g
  have hb:Ec W c=1:=by unfold Ec V6;rw[C' g]
  exact QX.no hW (by rw[hb];decide) (hK.step Rl) hb
 have g:Xd W c:=by
  cases hc:Xd W c with
  |true=>rfl
  |false=>rw[hc] at g;simp at g
 obtain⟨c0,c1⟩:=UF g;refine⟨hr.c.ix Y1 c0 c1,_,hr.c.f c0 c1 (j:=0) rfl,λg2 R6 Rl=>?_,λg2=>⟨λg3 RD Rl=>?_,λg3=>?_⟩⟩
 ·have g2:(gi W.IF c).up=false:=by simpa using g2
  have hb:Ec W c=6:=by unfold Ec V6;rw[B' (by rw[g];decide),C' (by rw[g2];decide)]
  exact QX.no hW (by rw[hb];decide) (hK.step Rl) hb
 ·have g2:(gi W.IF c).up:=by simpa using g2
  have bM:¬QO W:=λhr=>by rw[C' hr] at g3;simp at g3
  have hb:Ec W c=10:=by unfold Ec;rw[HL g g2 rfl,C' (by simpa using bM)]
  rw[B' bM];exact QX.no hW (by rw[hb];decide) (hK.step Rl) hb
 have g2:(gi W.IF c).up:=by simpa using g2
 have bM:QO W:=Iq λhr=>by rw[B' hr] at g3;simp at g3
 have hb:Ec W c=0:=by unfold Ec;rw[HL g g2 rfl,B' (by rw[bM];decide)]
 obtain⟨_,_,hB8,wpS,swS,frS⟩:=za2 hW hb;refine⟨λvs w1=>∃k:Nat,vs=I (k:Int)::Qc W m'/\1<=k/\k<=8/\Wk 8 [y,y1] w w1 (Tg W c k) m',ZG 8 0,λw1 sJ _=>⟨1,rfl,Qd,Qd,hK.step sJ⟩,?_⟩;rintro g1 l S8 Si Sp Se Sk Sn Sf Sg Sh RI fY ⟨k,bH,hk1,hk8,hKk⟩;have hOk:=zkq wp (Qm.1 bM) c0 c1 k hk8;have e0:Qc (Tg W c k) m'=Qc W m':=U4 hOk.fr;have W8:Tg W c (k+1)=if k≠0/\(gi (Tg W c k).IE (k:Int)).IV then KL (Tg W c k) (k:Int) c (MP (Tg W c k) (k:Int) c) else Tg W c k:=rfl;have bU:=hOk.sf.w.a.gl;have Bn7:=wp.a.gl;simp only[Qc,I4,I5,Iv,true_and,and_true] at bH;obtain⟨rfl,rfl,⟨rfl,rfl,rfl⟩,⟨rfl,rfl,rfl⟩,rfl,rfl,rfl⟩:=bH;refine⟨λIW=>?_,λRM Sq AC2 oP=>?_⟩
 ·have IW:=Ot IW;have hrk:=hKk.rd;have Wn:=hrk.g.ix (i:=(k:Int)) Qo Qo;rw[bU] at Wn;rw[Bn7] at IW ⊢;refine⟨Wn,_,Uo ((hrk.g.cells (k:Int) Qo Qo).get 0 _ rfl),λgu=>?_,λgu=>⟨⟨Qo,Qo⟩,λWL kL _=>⟨⟨k+1,by rw[<-Bn7];rfl,Qo,Qo,?_⟩,?_⟩⟩⟩
  ·have hu:Q6 (Tg W c k).IE (k:Int):=Q2.2 ⟨Qo,Qo,gu⟩;have oM:c<((Tg W c k).IF.length:Int):=by rw[hOk.fr.c];exact c1
   have hsh:=zfm hOk.sf.w.tu hu c0 oM;have Ax1:=v9 (c:=c) hrk hOk.sf.w.tu (z15 hl hOk.sf.w.a hOk.fr.g) hu;rw[e0] at Ax1;simp only[Qc] at Ax1;rw[Bn7] at Ax1;refine⟨_,Ax1,λSw eQ sH=>?_⟩;have hK7:=hKk.step eQ;have RA:=L9 hK7.own hOk.sf (I2 _) (by simp only[Qh];decide) hOk.cu (x:=MP (Tg W c k) (k:Int) c) hu Qo c0 oM;rw[e0] at RA;simp only[Qc] at RA;rw[Bn7] at RA;refine I3 RA ?_;rintro e1 S3 ⟨kB,eD⟩;refine⟨_,_,_,_,_,_,_,_,_,_,kB,hK7.kept eD sH,⟨Qo,Qo⟩,λSZ sV _=>⟨⟨k+1,by rw[<-Bn7];rfl,Qo,Qo,?_⟩,?_⟩⟩
   ·rw[W8,C' ⟨Qo,gu⟩];exact(hK7.Ss eD sH).step sV
   ·simp only[ZG,Xt,Ye,Ie];omega
  ·rw[W8,B' (by rintro⟨_,h⟩;rw[show (gi (Tg W c k).IE (k:Int)).IV=false from gu] at h;cases h)];exact hKk.step kL
  ·simp only[ZG,Xt,Ye,Ie];omega
 ·have RM:=Ou RM;have:k=8:=Qo;subst this;have AG6:=hKk.step AC2;have RA:=QA AG6.own hB8.sf.w (by simp only[Qh];decide) (by simp only[Qh];decide) AG6.base;rw[e0] at RA;refine I3 RA ?_;rintro e3 dX ⟨m2,gD,hy5⟩;have BI9:Wk 8 [y,y1] w dX (Ve W c) m2:=AG6.Ss hy5 oP;have CI5:=BI9.rd;have CZ9:=zd7 CI5 wpS c0 (by rw[frS.c];exact c1);refine⟨_,_,_,_,_,_,_,_,_,_,gD,AG6.kept hy5 oP,_,CZ9,λg5=>?_,λg5 WB BK4=>?_⟩
  ·have g5:¬O2 W c<0:=by have:=Ot g5;unfold O2;omega
   obtain⟨p0,p1,ps,hu,sf,sfP⟩:=zkr hW hb g5;have jF:=wpS.a.t;refine⟨CI5.t.ix QT p0 (by rw[jF];exact p1),_,CI5.t.f p0 (by rw[jF];exact p1) (j:=1) rfl,λSr wA AC0=>?_⟩;have A42:=BI9.step wA;refine I3 (Vi A42.own sf (I2 _) (by simp only[Qh,UW];decide) (t:=O2 W c) (g:=(Q8 (Ve W c) (O2 W c)).II) (c:=c) p0 p1 (by rw[ps];decide) hu c0 (by rw[frS.c];exact c1)) ?_;rintro e4 fC ⟨he4,hy6⟩;refine⟨_,_,_,_,_,_,_,_,_,_,he4,A42.kept hy6 AC0,λSA wB AR9=>?_⟩;have Bz9:=(A42.Ss hy6 AC0).step wB
   have Cs3:Qc (Uj (Ve W c) (O2 W c) (Q8 (Ve W c) (O2 W c)).II c) m2=Qc (Ve W c) m2:=by
    obtain⟨q1,q2,q3,q4⟩:=zq7 (Ve W c) (O2 W c) (Q8 (Ve W c) (O2 W c)).II c;simp only[Qc,q1,q2,q3,q4]
   have aT:=QA Bz9.own sfP.w (by simp only[Qh,UW];decide) (by simp only[Qh,UW];decide) Bz9.base;rw[Cs3] at aT;refine I3 aT ?_;rintro e5 fB ⟨m3,he5,hy7⟩;refine⟨_,_,_,_,_,_,_,_,_,_,he5,Bz9.kept hy7 AR9,λWc Bq5=>?_⟩;have hE:zci W c=Qb (Uj (Ve W c) (O2 W c) (Q8 (Ve W c) (O2 W c)).II c):=by unfold zci;rw[B' g5]
   rw[hE];exact QX.ok hW hb ((Bz9.Ss hy7 AR9).step Bq5)
  ·have g5:O2 W c<0:=by have:=Ou g5;unfold O2;omega
   have hE:zci W c=Ve W c:=by unfold zci;rw[C' g5]
   rw[hE];exact QX.ok hW hb (BI9.step BK4)
end
def znz{W:Q7}{g n x:Int}(hW:Qr W)(hb:T2 W g n x=0):Xo (FJ W g n x):=by
 have wp:=Qm.1 hW;have h:=zlc hW hb;have p:=XJ wp
 have hT:EU W (KX W g n x):=⟨.inl rfl,h.u,h.w,h.m,h.m0,by show Ya 0=true;decide,by show Ya 0=true;decide,I2 _,by show (0:Int)<=8000000;decide,λ_=>by
  have:=(ZN (Qf n)).1;show (Qa W g (KW W g x)).IM<=(Qa W g (KW W g x)).IM/\(Qa W g (KW W g x)).IM-(Qa W g (KW W g x)).IM<=ZT (Qf n);omega⟩
 exact ZQ (h.sw2.Rc h.c0 h.c1) Qd Qd (zbe p h.f0 h.f1 (show (1:Int)≠0 by decide) hT rfl h.c0 h.c1) (((Vd wp).J' wp.a h.f0 h.f1 (x:=KX W g n x) λ_=>h.ch).Rc _)
def z1v{W:Q7}{g x:Int}(hW:Qr W)(hb:zm0 W g x=0):Xo (zv5 W g x):=by
 have wp:=Qm.1 hW;obtain⟨h1,hz,hu,_,_,sf,cu,hT⟩:=zru hW hb;have hx:=Qu.1 h1;have hu':Q6 (R3 W g (MY W g x)).IE g:=by rw[hT.aO];exact hu
 have p1:TX (R3 W g (MY W g x)):=(XJ wp).same sf.w.a rfl rfl hT (zrh rfl);have l1:zbm (R3 W g (MY W g x)):=(Vd wp).same rfl hT (λi=>Z7 (f:=ZD.IF) W.IE g (x:=MY W g x) rfl i) rfl;have hlen:(R3 W g (MY W g x)).IF.length=W.IF.length:=rfl;show Xo (Qb (GP (R3 W g (MY W g x)) g x W.IF.length));rw[<-hlen];generalize R3 W g (MY W g x)=V at sf cu hu' p1 l1
 have all:∀k:Nat,k<=V.IF.length->TX (GP V g x k)/\O0 V (GP V g x k):=by
  intro k
  induction k with
  |zero=>exact λ_=>⟨p1,O0.refl _⟩
  |succ k ih=>
   intro hk;obtain⟨a,b⟩:=ih Qo;exact⟨a.wei (by rw[b.g.aO];exact hu') hz Qo (by rw[b.len];omega),b.trans (ztn _ _ _ _)⟩
 obtain⟨a,b⟩:=all _ (I7 _);obtain⟨sf2,fr,_⟩:=zbj sf (I2 _) cu hu' hz hx.1 hx.2 V.IF.length (I7 _);exact ZQ sf2.w (by simp only[Qh];decide) (by simp only[Qh,UW];decide) a (b.loc fr.t l1)
def zua{W:Q7}{t c:Int}(h:V4 W t c):Zq (QD W (Q8 W t).II (Q8 W t).mask) c:=by
 unfold V4 at h;simp only[A',ID,H',I6] at h;exact h.1.2
def z1p{W:Q7}{c:Int}(hW:Qr W)(hb:Ec W c=0):Xo (zci W c):=by
 have wp:=Qm.1 hW;obtain⟨c0,c1,hB,wpS,swS,frS⟩:=za2 hW hb;have iS:Xo (Ve W c):=ZQ hB.sf.w (by simp only[Qh];decide) (by simp only[Qh,UW];decide) hB.pre (hB.sta.loc hB.fr.t (Vd wp));unfold zci;split
 ·exact iS
 ·rename_i hp;obtain⟨p0,p1,ps,pu,_,sf⟩:=zkr hW hb hp;obtain⟨i,b,e,hi,ht⟩:=zjp hp;have e:O2 W c=(i:Int):=e;unfold zil at ht;simp only[A'] at ht;have hcd:=zua ht.1.2;rw[<-e] at hcd;have cS:c<((Ve W c).IF.length:Int):=by rw[frS.c];exact c1
  clear hp iS swS frS hB ht e;have hK0:0<=Ql+Qh+UW+Qh:=Qd;have hK1:Ql+Qh+UW+Qh+UW<=100000000000000000:=Qd;have hcd:Zq (QD (Ve W c) (Q8 (Ve W c) (O2 W c)).II (Q8 (Ve W c) (O2 W c)).mask) c:=hcd;generalize O2 W c=q at *;generalize Ve W c=V at *;refine ZQ sf.w hK0 hK1 (zfe (XJ wpS) p0 p1 (by rw[ps];decide) pu c0 cS) λt t0 t1 n=>?_
  rw[(zbg V _ _ _).wh];rw[zq8 wpS.a.t p0 p1 t0] at n ⊢
  split at n
  ·rename_i he;rw[C' he];exact hcd
  ·rename_i he;rw[B' he];exact Vd wpS t t0 t1 n
def B6:KM:=⟨0,false,0,10,0⟩
def Pf(n:Nat)(p:Int)(name:ByteArray):ZD:=⟨true,p,name,10,15,0,0,0,⟨0,0,0,[],[]⟩,List.replicate n B6⟩
def zfy:ZD:=⟨false,0,⟨[].toArray⟩,0,0,0,0,0,⟨0,0,0,[],[]⟩,[]⟩
def Jp(n:Nat):Q7:=⟨0,List.replicate n ⟨true,-1,0,0,0⟩,List.replicate 12 T8,(List.replicate 8 zfy).set 0 (Pf n (-1) ⟨[].toArray⟩)⟩
section
variable {n:Nat}
def KG(k:Int)(k0:0<=k)(k1:k<8):gi (Jp n).IE k=if k=0 then Pf n (-1) ⟨[].toArray⟩ else zfy:=by
 have:=Qx (List.replicate 8 zfy) (Pf n (-1) ⟨[].toArray⟩) (i:=0) (j:=k) (I2 _) Qd k0;show gi ((List.replicate 8 zfy).set (0:Int).toNat _) k=_;rw[this]
 by_cases h:k=0
 ·rw[C' h.symm,C' h]
 ·rw[B' λe=>h e.symm,B' h,My _ _ k0 Qo]
def zod:(Jp n).IE.length=8:=by simp[Jp]
def zep(c:Int)(c0:0<=c)(c1:c<(n:Int)):gi (Jp n).IF c=⟨true,-1,0,0,0⟩:=My _ _ c0 c1
def zeq(t:Int)(t0:0<=t)(t1:t<12):Q8 (Jp n) t=T8:=My 12 _ t0 Qo
def zl4(k:Int):Q6 (Jp n).IE k=true↔k=0:=by
 rw[Q2,zod];constructor
 ·rintro⟨a,b,d⟩;rw[KG k a b] at d
  split at d
  ·assumption
  ·cases d
 ·intro h;subst h;refine⟨I2 _,Qd,?_⟩;rw[KG 0 (I2 _) Qd,C' rfl];rfl
def zqw(c:Int)(c0:0<=c)(c1:c<(n:Int)):Qa (Jp n) 0 c=B6:=by
 unfold Qa;rw[KG 0 (I2 _) Qd,C' rfl];exact My _ _ c0 c1
def zu6:Yr (Jp n).IE:=by
 have g0:gi (Jp n).IE 0=Pf n (-1) ⟨[].toArray⟩:=by rw[KG 0 (I2 _) Qd,C' rfl]
 have un:∀g:Int,1<=g->g<8->(gi (Jp n).IE g).IV->False:=λg a b h=>by
  rw[KG g Qo b,B' Qo] at h;cases h
 exact⟨zod,by rw[g0];rfl,by rw[g0];rfl,by rw[g0];rfl,λg a b h=>(un g a b h).elim,λg a b h=>(un g a b h).elim,λg a b h=>(un g a b h).elim,λg k a b d h=>(un g Qo d h).elim⟩
def z2j(n0:1<=n)(n1:n<=4):WA (Jp n):=by
 have qT:(Jp n).IF.length=n:=by simp[Jp]
 refine⟨I2 _,by show (0:Int)<=_;decide,Qo,Qo,by simp[Jp],zu6,EQ (c:=0) Qo (I2 _) Qo (by rw[zep 0 (I2 _) Qo]),λk k0 k1=>?_⟩;unfold Kn;rw[KG k k0 k1];split
 ·refine⟨λh=>(by cases h),λ_=>⟨show (1:Int)<=10 by decide,show (10:Int)<=20 by decide,show M1 15=true by decide,show (15:Int)≠0 by decide,show Ya 0=true by decide,by simp[Pf,qT],λ_=>⟨rfl,rfl,rfl⟩,λ_=>⟨show ON ⟨0,0,0,[],[]⟩=true by decide,rfl,rfl⟩,λh=>Ir rfl h⟩⟩
 ·exact⟨λ_=>⟨rfl,rfl,rfl,rfl,rfl,rfl,rfl,rfl,Qd⟩,λh=>by cases h⟩
def zll(n0:1<=n)(n1:n<=4):Xo (Jp n):=by
 have ha:=z2j n0 n1;have qT:(Jp n).IF.length=n:=by simp[Jp]
 have hmt:∀(k c:Int) (j:Nat),j<12->Ug (Jp n) k c j=false:=λk c j hj=>by
  unfold Ug;rw[show gi (Jp n).IJ (j:Int)=T8 from zeq (j:Int) Qo Qo];rfl
 have hmg:∀(k c:Int) (j:Nat),j<8->Xb (Jp n) k c j=false:=λk c j hj=>by
  unfold Xb;rw[KG (j:Int) Qo Qo]
  by_cases h:(j:Int)=0
  ·rw[show decide (1<=j)=false from decide_eq_false Qo];rfl
  ·rw[B' h];simp[zfy]
 refine⟨⟨ha,λt t0 t1=>.inl ?_,λk c k0 k1 c0 c1=>?_,λc c0 c1=>?_⟩,λk c hu c0 c1 hb=>?_⟩
 ·rw[zeq t t0 t1];exact⟨rfl,rfl⟩
 ·by_cases hk:k=0
  ·subst hk;rw[KG 0 k0 k1,C' rfl] at c1;have c1:c<(n:Int):=by simpa[Pf] using c1
   have e:=zqw c c0 c1;refine⟨?_,?_,?_,?_,?_,λ_=>?_,λh=>Ir rfl h,λh=>Ir rfl h⟩ <;> rw[e]
   ·decide
   ·decide
   ·decide
   ·decide
   ·decide
   ·exact⟨rfl,rfl,rfl⟩
  ·rw[KG k k0 k1,B' hk] at c1;have c1:c<0:=c1;omega
 ·rw[qT] at c1;have e:=zep c c0 c1;refine⟨by rw[e];decide,by rw[e];decide,by rw[e];decide,by rw[e];show (-1:Int)<((Jp n).IJ.length:Int);simp[Jp],λ_=>by rw[e],λh=>?_⟩;rw[e] at h;have h:(0:Int)<=-1:=h;omega
 ·unfold Za at hb;have hb:=Ot hb;rcases Zg (Z3 (Jp n) k c) (Z1 (Jp n) c) 20 with ⟨a,_⟩|⟨_,h2,h3,_⟩
  ·rw[a] at hb;omega
  ·exfalso
   have IW:(QU (Z3 (Jp n) k c) (Z1 (Jp n) c) 20).toNat<20:=Qo;generalize (QU (Z3 (Jp n) k c) (Z1 (Jp n) c) 20).toNat=j at h3 IW
   by_cases hj:j<12
   ·rw[Jn hj,hmt k c j hj] at h3;cases h3
   ·rw[show j=12+(j-12) by omega,J7,hmg k c (j-12) Qo] at h3;cases h3
end
def znb{gs:List ZD}(ht:Yr gs):∀(f:Nat) (h:Int),Q6 gs h->dep 3 gs h<=(f:Int)->dep f gs h=dep 3 gs h
 |0,h,hu,hd=>by
  by_cases hz:h=0
  ·subst hz;rw[ZR,ZR]
  ·obtain⟨_,_,_,d,e,_⟩:=Y0 ht hu hz;omega
 |f+1,h,hu,hd=>by
  by_cases hz:h=0
  ·subst hz;rw[ZR,ZR]
  ·obtain⟨hp,_,_,d,e,e2,_⟩:=Y0 ht hu hz;have ih:=znb ht f _ hp Qo;show (if h=0 then 0 else if dep f gs (gi gs h).IG<0 then -1 else dep f gs (gi gs h).IG+1)=_;rw[B' hz,ih,e2,B' Qo,e]
structure AK (W:Q7) (a p:Int) (name:ByteArray):Prop where
 a1:1<=a
 a8:a<8
 fr:(gi W.IE a).IV=false
 up:Q6 W.IE p=true
 nm:UC name=true
 no:∀h:Int,1<=h->h<8->(gi W.IE h).IV->¬((gi W.IE h).IG=p/\(gi W.IE h).name=name)
 dp:dep 3 W.IE p≠3
def O5(W:Q7)(a p:Int)(name:ByteArray):Q7:=R3 W a (Pf W.IF.length p name)
section
variable {W:Q7}{a p:Int}{name:ByteArray}
def Az(ha:WA W)(h:AK W a p name){i:Int}(hi:0<=i):gi (O5 W a p name).IE i=if a=i then Pf W.IF.length p name else gi W.IE i:=Ym (by have:=h.a1;omega) (by have:=ha.gl;have:=h.a8;omega) hi
def zyy(h:AK W a p name){k:Int}(hu:Q6 W.IE k):a≠k:=λe=>by
 have:=(Q2.1 hu).2.2;rw[<-e,h.fr] at this;cases this
def LO(ha:WA W)(h:AK W a p name){k:Int}(hu:Q6 W.IE k):gi (O5 W a p name).IE k=gi W.IE k:=by
 rw[Az ha h (Q2.1 hu).1,B' (zyy h hu)]
def KF(ha:WA W)(h:AK W a p name):gi (O5 W a p name).IE a=Pf W.IF.length p name:=by
 rw[Az ha h (by have:=h.a1;omega),C' rfl]
def zlx(ha:WA W):(O5 W a p name).IE.length=8:=by
 have:=ha.gl;simp[O5,R3];omega
def OX(ha:WA W)(h:AK W a p name){k:Int}:Q6 (O5 W a p name).IE k=true↔Q6 W.IE k\/k=a:=by
 have bU:=ha.gl;have a1:=h.a1;have a8:=h.a8;rw[Q2,Q2,zlx ha,bU];constructor
 ·rintro⟨x,y,z⟩;rw[Az ha h x] at z
  by_cases e:a=k
  ·exact .inr e.symm
  ·rw[B' e] at z;exact .inl ⟨x,y,z⟩
 ·rintro (⟨x,y,z⟩|rfl)
  ·refine⟨x,y,?_⟩;rw[Az ha h x,B' λe=>by rw[<-e,h.fr] at z;cases z];exact z
  ·refine⟨Qo,Qo,?_⟩;rw[KF ha h];rfl
def zqu(ha:WA W)(h:AK W a p name):∀(f:Nat) (k:Int),Q6 W.IE k->dep f (O5 W a p name).IE k=dep f W.IE k
 |0,_,_=>rfl
 |f+1,k,hu=>by
  by_cases hz:k=0
  ·subst hz;rw[ZR,ZR]
  ·have ih:=zqu ha h f _ (Y0 ha.tree hu hz).1;simp only[dep];rw[LO ha h hu,ih]
def zlz(ha:WA W)(h:AK W a p name):∀(f:Nat) (k:Int),Q6 W.IE k->UZ f (O5 W a p name).IE k=UZ f W.IE k
 |0,_,_=>rfl
 |f+1,k,hu=>by
  by_cases hz:k=0
  ·subst hz;rw[Zh,Zh]
  ·have ih:=zlz ha h f _ (Y0 ha.tree hu hz).1;simp only[UZ];rw[LO ha h hu,ih]
def z6l(ha:WA W)(h:AK W a p name):dep 3 (O5 W a p name).IE a=dep 3 W.IE p+1/\0<=dep 3 W.IE p:=by
 have hr:=Kr ha h.up;have hd:=h.dp;have e:=znb ha.tree 2 p h.up Qo;refine⟨?_,hr.1⟩;show (if a=0 then 0 else if dep 2 (O5 W a p name).IE (gi (O5 W a p name).IE a).IG<0 then -1 else dep 2 (O5 W a p name).IE (gi (O5 W a p name).IE a).IG+1)=_;rw[B' (by have:=h.a1;omega),KF ha h];show (if dep 2 (O5 W a p name).IE p<0 then -1 else dep 2 (O5 W a p name).IE p+1)=_;rw[zqu ha h 2 p h.up,e,B' Qo]
def z2i(ha:WA W)(h:AK W a p name):Yr (O5 W a p name).IE:=by
 have ht:=ha.tree;have bU:=ha.gl;have a1:=h.a1;have r:=LO ha h ha.root
 have sp:∀{g:Int},1<=g->g<8->(gi (O5 W a p name).IE g).IV->g=a\/(Q6 W.IE g/\gi (O5 W a p name).IE g=gi W.IE g):=λ{g} b d hh=>by
  rcases (OX ha h).1 (Q2.2 ⟨Qo,by rw[zlx ha];omega,hh⟩) with e|e
  ·exact .inr ⟨e,LO ha h e⟩
  ·exact .inl e
 refine⟨zlx ha,by rw[r];exact ht.ru,by rw[r];exact ht.rp,by rw[r];exact ht.rn,λg b d hh=>?_,λg b d hh=>?_,λg b d hh=>?_,λg k b d e hg hk=>?_⟩
 ·rcases sp b d hh with rfl|⟨hu,e⟩
  ·rw[KF ha h];exact h.nm
  ·rw[e] at hh ⊢;exact ht.nm g b d hh
 ·rcases sp b d hh with rfl|⟨hu,e⟩
  ·rw[KF ha h];exact(OX ha h).2 (.inl h.up)
  ·rw[e] at hh ⊢;exact(OX ha h).2 (.inl (ht.par g b d hh))
 ·rcases sp b d hh with rfl|⟨hu,e⟩
  ·have:=z6l ha h;omega
  ·rw[zqu ha h 3 g hu];exact ht.dp g b d (Q2.1 hu).2.2
 ·rintro⟨q1,q2⟩;rcases sp Qo e hg with hga|⟨hu,eg⟩
  ·rcases sp b Qo hk with hka|⟨hu2,ek⟩
   ·omega
   ·rw[hga,KF ha h,ek] at q1 q2;exact h.no k b Qo (Q2.1 hu2).2.2 ⟨q1,q2⟩
  ·rcases sp b Qo hk with hka|⟨hu2,ek⟩
   ·rw[hka,KF ha h,eg] at q1 q2;exact h.no g Qo e (Q2.1 hu).2.2 ⟨q1.symm,q2.symm⟩
   ·rw[eg,ek] at q1 q2;exact ht.uniq g k b d e (Q2.1 hu).2.2 (Q2.1 hu2).2.2 ⟨q1,q2⟩
end
section
variable {W:Q7}{a p:Int}{name:ByteArray}
def MI(ha:WA W)(h:AK W a p name){k c:Int}(hu:Q6 W.IE k):Qa (O5 W a p name) k c=Qa W k c:=by
 unfold Qa;rw[LO ha h hu]
def zbd(ha:WA W)(h:AK W a p name){c:Int}(c0:0<=c)(c1:c<(W.IF.length:Int)):Qa (O5 W a p name) a c=B6:=by
 unfold Qa;rw[KF ha h];exact My _ _ c0 c1
def zsx(ha:WA W)(h:AK W a p name){k c:Int}(c0:0<=c)(c1:c<(W.IF.length:Int))(j:Nat)(hj:j<8):Xb (O5 W a p name) k c j=Xb W k c j:=by
 have a1:=h.a1;unfold Xb
 by_cases e:a=(j:Int)
 ·rw[<-e,zbd ha h c0 c1,h.fr];show (_&&_&&B6.on)=_;simp[B6]
 ·rw[Az ha h Qo,B' e]
  have:Qa (O5 W a p name) (j:Int) c=Qa W (j:Int) c:=by
   unfold Qa;rw[Az ha h Qo,B' e]
  rw[this]
def zqt(ha:WA W)(h:AK W a p name){k c:Int}(c0:0<=c)(c1:c<(W.IF.length:Int)):Qv (O5 W a p name) k c=Qv W k c:=by
 unfold Qv;rw[show O1 (Ug (O5 W a p name) k c) (O5 W a p name).IJ.length=O1 (Ug W k c) W.IJ.length from rfl,zlx ha,ha.gl];rw[KP λj hj=>zsx ha h c0 c1 j hj]
def zly(wp:XQ W)(h:AK W a p name){c:Int}(j:Nat)(hj:j<20):Z3 W a c j=false:=by
 by_cases vC:j<12
 ·rw[Jn vC];unfold Ug;rcases wp.t (j:Int) Qo Qo with hz|⟨_,hx⟩
  ·have:(gi W.IJ (j:Int)).state=0:=hz.1;rw[this];rfl
  ·have hg:(gi W.IJ (j:Int)).II≠a:=λe=>zyy h hx.g e.symm
   rw[show ((gi W.IJ (j:Int)).II==a)=false by simpa using hg];simp
 ·rw[show j=12+(j-12) by omega,J7];unfold Xb
  cases hu:(gi W.IE ((j-12:Nat):Int)).IV with
  |false=>simp
  |true=>
   have hl:=wp.a.gl;have huu:Q6 W.IE ((j-12:Nat):Int):=Q2.2 ⟨Qo,Qo,hu⟩
   by_cases h1:1<=j-12
   ·have hpu:=(Y0 wp.a.tree huu Qo).1;have hg:(gi W.IE ((j-12:Nat):Int)).IG≠a:=λe=>zyy h hpu e.symm
    rw[show ((gi W.IE ((j-12:Nat):Int)).IG==a)=false by simpa using hg];simp
   ·rw[show decide (1<=j-12)=false from decide_eq_false h1];simp
def KQ{p:Nat->Bool}:∀{n:Nat},(∀j,j<n->p j=false)->O1 p n=false
 |0,_=>rfl
 |n+1,h=>by simp only[O1];rw[KQ λj hj=>h j Qo,h n Qo];rfl
def z2h(wp:XQ W)(h:AK W a p name){c:Int}:Qv W a c=false:=by
 have hl:=wp.a.gl;have ht:=wp.a.t;unfold Qv;rw[KQ λj hj=>by have:=zly wp h (c:=c) j Qo;rwa[Jn Qo] at this,KQ λj hj=>by have:=zly wp h (c:=c) (12+j) Qo;rwa[J7] at this];rfl
def Nm{α β:Type}{f g:β->α->β}:∀(l:List α) (s:β),(∀(s:β) (x:α),x∈l->f s x=g s x)->l.foldl f s=l.foldl g s
 |[],_,_=>rfl
 |y::l,s,hl=>by
  rw[List.foldl_cons,List.foldl_cons,hl s y I9];exact Nm l _ λs x hx=>hl s x (I1 _ hx)
def z4z(ha:WA W)(h:AK W a p name){k:Int}(hu:Q6 W.IE k)(u:Int):Ta (O5 W a p name).IE k u=Ta W.IE k u:=by
 have e:QR (O5 W a p name).IE k=QR W.IE k:=zlz ha h 3 k hu;unfold Ta;rw[e];refine Nm _ _ λs x hx=>?_
 have hxu:Q6 W.IE x:=by
  rcases Im.1 hx with hx|hx
  ·exact(Yv ha.tree k hu x hx).1
  ·rw[IA.1 hx];exact ha.root
 rw[LO ha h hxu]
def z0b{W W':Q7}(e:W'.IF=W.IF){k:Int}(hp:∀u:Int,Ta W'.IE k u=Ta W.IE k u)(m:Int):QD W' k m=QD W k m:=by
 unfold QD;rw[e,hp]
def z6m(ha:WA W)(h:AK W a p name){k:Int}(hu:Q6 W.IE k)(m:Int):QD (O5 W a p name) k m=QD W k m:=z0b (W:=W) (W':=O5 W a p name) rfl (z4z ha h hu) m
def zqg(iv:Xo W)(h:AK W a p name):Xo (O5 W a p name):=by
 have wp:=iv.wp;have ha:=wp.a;have a1:=h.a1;have a8:=h.a8;have bU:=ha.gl;have hpu:∀{k:Int},Q6 W.IE k->k≠0->Q6 W.IE (gi W.IE k).IG:=λhu hz=>(Y0 ha.tree hu hz).1
 have hA:WA (O5 W a p name):=by
  refine⟨ha.n1,ha.n2,ha.c1,ha.c2,ha.t,z2i ha h,ha.ups,λk k0 k1=>?_⟩;unfold Kn;rw[Az ha h k0];split
  ·refine⟨λhh=>(by cases hh),λ_=>⟨show (1:Int)<=10 by decide,show (10:Int)<=20 by decide,show M1 15=true by decide,show (15:Int)≠0 by decide,show Ya 0=true by decide,by simp[Pf];rfl,λ_=>⟨rfl,rfl,rfl⟩,λ_=>⟨show ON ⟨0,0,0,[],[]⟩=true by decide,rfl,rfl⟩,λhh=>Ir rfl hh⟩⟩
  ·have:=ha.grp k k0 k1;exact⟨this.1,λhu=>by have:=this.2 hu;exact⟨this.w1,this.w2,this.m,this.m0,this.s,this.len,this.root,this.none,this.IL⟩⟩
 refine⟨⟨hA,λt t0 t1=>?_,λk c k0 k1 c0 c1=>?_,λc c0 c1=>?_⟩,λk c hu c0 c1 hb=>?_⟩
 ·rcases wp.t t t0 t1 with hz|⟨n,hx⟩
  ·exact .inl hz
  ·refine .inr ⟨n,hx.st,(OX ha h).2 (.inl hx.g),hx.n,hx.m,hx.m0,hx.v,hx.s,hx.u,hx.l1,hx.l2,?_,λhs=>?_⟩
   ·rw[show (Q8 (O5 W a p name) t)=Q8 W t from rfl,z6m ha h hx.g];exact hx.c
   ·rw[show (Q8 (O5 W a p name) t)=Q8 W t from rfl,MI ha h hx.g];exact hx.f hs
 ·by_cases e:a=k
  ·subst e;rw[KF ha h] at c1;have c1:c<(W.IF.length:Int):=by simpa[Pf] using c1
   have es:=zbd ha h c0 c1;refine⟨by rw[es];decide,by rw[es];decide,by rw[es];decide,by rw[es];decide,by rw[es];decide,λhz=>by omega,λ_=>?_,λ_ ho=>?_⟩
   ·rw[es,zqt ha h c0 c1,z2h wp h];rfl
   ·rw[es] at ho;cases ho
  ·have hg:gi (O5 W a p name).IE k=gi W.IE k:=by rw[Az ha h k0,B' e]
   rw[hg] at c1
   have hu:Q6 W.IE k:=by
    cases hh:(gi W.IE k).IV with
    |true=>exact Q2.2 ⟨k0,Qo,hh⟩
    |false=>
     have:=((ha.grp k k0 k1).1 hh).l;omega
   have cl:c<(W.IF.length:Int):=by rw[<-ha.sl hu];exact c1
   have hs:=wp.s k c k0 k1 c0 c1;have es:=MI ha h (c:=c) hu;refine⟨by rw[es];exact hs.f,by rw[es];exact hs.v,by rw[es];exact hs.s,by rw[es];exact hs.w1,by rw[es];exact hs.w2,λhz=>by rw[es];exact hs.root hz,λhz=>?_,λhz ho=>?_⟩
   ·rw[es,zqt ha h c0 cl,show Xu (O5 W a p name) k c=Xu W k c by unfold Xu;rw[hg]];exact hs.on hz
   ·rw[es] at ho;rw[es,hg,MI ha h (hpu hu hz)];exact hs.st hz ho
 ·have hc:=wp.c c c0 c1;refine⟨hc.b,hc.i,hc.c1,hc.c2,hc.no,λh0=>?_⟩;have h0:0<=(gi W.IF c).cur:=h0;obtain⟨y1,y2,y3,y4,y5,y6⟩:=hc.yes h0;have hl:=ha.t
  have kJ:Q6 W.IE (Q8 W (gi W.IF c).cur).II:=by
   have hc2:=hc.c2;rcases wp.t _ h0 Qo with hz|⟨_,hx⟩
   ·unfold Zf at y5;rw[hz.1] at y5;simp at y5
   ·exact hx.g
  have hpt:QR (O5 W a p name).IE (Q8 W (gi W.IF c).cur).II=QR W.IE (Q8 W (gi W.IF c).cur).II:=zlz ha h 3 _ kJ;refine⟨y1,y2,y3,y4,?_,?_⟩
  ·unfold Zf JR at y5 ⊢;rw[show (gi (O5 W a p name).IF c).cur=(gi W.IF c).cur from rfl,show Q8 (O5 W a p name) (gi W.IF c).cur=Q8 W (gi W.IF c).cur from rfl,hpt];rw[A',List.all_eq_true] at y5 ⊢;exact⟨y5.1,λx hx=>by rw[MI ha h (Yv ha.tree _ kJ x hx).1];exact y5.2 x hx⟩
  ·unfold MR Oi at y6 ⊢;rw[show (gi (O5 W a p name).IF c).cur=(gi W.IF c).cur from rfl,show (gi (O5 W a p name).IF c).SX=(gi W.IF c).SX from rfl,show Q8 (O5 W a p name) (gi W.IF c).cur=Q8 W (gi W.IF c).cur from rfl,hpt,MI ha h kJ];rw[A',List.all_eq_true] at y6 ⊢;refine⟨y6.1,λx hx=>?_⟩;obtain⟨xu,xz⟩:=Yv ha.tree _ kJ x hx;rw[MI ha h xu,LO ha h xu,MI ha h (hpu xu xz)];exact y6.2 x hx
 ·have cl:c<(W.IF.length:Int):=c1
  have Ab5:∀j,j<20->Z3 (O5 W a p name) k c j=Z3 W k c j:=λj hj=>by
   by_cases vC:j<12
   ·rw[Jn vC,Jn vC];rfl
   ·rw[show j=12+(j-12) by omega,J7,J7,zsx ha h c0 cl (j-12) Qo]
  rcases (OX ha h).1 hu with hk|rfl
  ·have hv:∀j,j<20->Z3 (O5 W a p name) k c j->Z1 (O5 W a p name) c j=Z1 W c j:=λj hj hm=>by
    unfold Z1;split
    ·rfl
    ·rename_i vC;rw[Ab5 j hj,show j=12+(j-12) by omega,J7] at hm;unfold Xb at hm;simp only[A'] at hm;rw[MI ha h (Q2.2 ⟨Qo,Qo,hm.1.2.1⟩)]
   have e:QU (Z3 (O5 W a p name) k c) (Z1 (O5 W a p name) c) 20=QU (Z3 W k c) (Z1 W c) 20:=Pb Ab5 hv;have qV:=iv.fl k c hk c0 cl (by unfold Za at hb ⊢;rwa[e] at hb);rw[MI ha h hk];refine IC (Int.le_of_eq ?_) qV;unfold Za at hb;have hb:=Ot hb;rw[e] at hb;unfold QZ;rw[e,B' Qo,B' Qo];rcases Zg (Z3 W k c) (Z1 W c) 20 with ⟨q,_⟩|⟨_,q2,q3,_⟩
   ·omega
   ·have IW:(QU (Z3 W k c) (Z1 W c) 20).toNat<20:=Qo;exact hv _ IW (by rw[Ab5 _ IW];exact q3)
  ·exfalso
   unfold Za at hb;have hb:=Ot hb;rcases Zg (Z3 (O5 W k p name) k c) (Z1 (O5 W k p name) c) 20 with ⟨q,_⟩|⟨_,q2,q3,_⟩
   ·omega
   ·rw[Ab5 _ Qo,zly wp h _ Qo] at q3;cases q3
end
def zyp{W:Q7}(ha:WA W){k c d:Int}(hu:Q6 W.IE k)(hd:dep 3 W.IE k=d)(d1:1<=d)(c0:0<=c)(c1:c<(W.IF.length:Int)) :
  WA (RC W k c (ZH W k c))/\aK (RC W k c (ZH W k c)) c k/\∀g:Int,Q6 W.IE g->g≠k->(gi W.IE k).IG≠g->aK W c g->aK (RC W k c (ZH W k c)) c g:=by
 have hz:k≠0:=λe=>by subst e;rw[ZR] at hd;omega
 obtain⟨u0,u1,_⟩:=Q2.1 hu;have hl:=ha.gl;have hsl:=ha.sl hu;have oM:c<((gi W.IE k).IH.length:Int):=Qo
 have hpk:(gi W.IE k).IG≠k:=λe=>by
  obtain⟨_,_,_,n,e1,e2,_⟩:=Y0 ha.tree hu hz;rw[e] at e2;omega
 have e:∀{i j:Int},0<=i->0<=j->Qa (RC W k c (ZH W k c)) i j=if k=i/\c=j then ZH W k c else Qa W i j:=λhi hj=>UV u0 u1 c0 oM hi hj
 have hT:=J5 (W:=W) (g:=k) (c:=c) (s:=ZH W k c) u0 u1
 have act:∀g:Int,(gi W.IE k).IG≠g->Qv (RC W k c (ZH W k c)) g c=Qv W g c:=λg hg=>by
  refine T0 (W:=W) (W':=RC W k c (ZH W k c)) rfl hT λj hj _ _ hp=>?_
  rw[e Qo c0,B'];rintro⟨h,_⟩;exact hg (by rw[h];exact hp)
 refine⟨ha.RC u0 Qo,?_,λg gu gk hg h=>?_⟩
 ·unfold aK;rw[e u0 c0,C' ⟨rfl,rfl⟩,act k hpk,HM u0 u1 u0];rfl
 ·unfold aK;have g0:=(Q2.1 gu).1;rw[e g0 c0,B' λh=>gk h.1.symm,act g hg,HM u0 u1 g0];exact h
def zn7{W:Q7}(ha:WA W){c d:Int}(d1:1<=d)(c0:0<=c)(c1:c<(W.IF.length:Int))(hI:∀g:Int,Q6 W.IE g->d<dep 3 W.IE g->aK W c g):∀k:Nat,k<=8->
  WA (Z9 W c d k)/\Xz W (Z9 W c d k)/\∀g:Int,Q6 W.IE g->d<dep 3 W.IE g\/dep 3 W.IE g=d/\g<(k:Int)->aK (Z9 W c d k) c g
 |0,_=>⟨ha,Xz.refl _,λg gu h=>hI g gu (by
   rcases h with h|h
   ·exact h
   ·have:=(Q2.1 gu).1;have:=h.2;omega)⟩
 |k+1,hk=>by
  obtain⟨a,b,ih⟩:=zn7 ha d1 c0 c1 hI k Qo;have hl:=a.gl;have hT:=b.g;simp only[Z9];split
  ·rename_i hc;have hu:Q6 (Z9 W c d k).IE (k:Int):=Q2.2 ⟨Qo,Qo,hc.1⟩;obtain⟨l1,l3,l4⟩:=zyp a hu hc.2 d1 c0 (c:=c) (by rw[b.c];exact c1);refine⟨l1,b.trans (US Qo Qo),λg gu h=>?_⟩
   by_cases e:g=(k:Int)
   ·subst e;exact l3
   ·have hkz:(k:Int)≠0:=λe=>by have:=hc.2;rw[e,ZR] at this;omega
    obtain⟨_,_,_,n,e1,e2,_⟩:=Y0 a.tree hu hkz;refine l4 g (by rw[hT.aO];exact gu) e (λhp=>?_) (ih g gu ?_)
    ·rw[hp,hT.dep] at e2;have:=hc.2;omega
    ·rcases h with h|h
     ·exact .inl h
     ·exact .inr ⟨h.1,by have:=h.2;omega⟩
  ·rename_i hc;refine⟨a,b,λg gu h=>ih g gu ?_⟩;rcases h with h|h
   ·exact .inl h
   ·refine .inr ⟨h.1,?_⟩
    by_cases e:g=(k:Int)
    ·subst e;exact Ir ⟨by rw[hT.u];exact(Q2.1 gu).2.2,by rw[hT.dep];exact h.1⟩ hc
    ·have:=h.2;omega
def zjb{W:Q7}(ha:WA W){c:Int}(c0:0<=c)(c1:c<(W.IF.length:Int)):WA (QF W c)/\Xz W (QF W c)/\∀g:Int,Q6 W.IE g->g≠0->aK (QF W c) c g:=by
 have key:∀j:Nat,j<=3->WA (Yh W c j)/\Xz W (Yh W c j)/\∀g:Int,Q6 W.IE g->3-(j:Int)<dep 3 W.IE g->aK (Yh W c j) c g:=by
  intro j
  induction j with
  |zero=>exact λ_=>⟨ha,Xz.refl _,λg gu h=>by have:=(Kr ha gu).2;omega⟩
  |succ j ih=>
   intro hj;obtain⟨a,b,h⟩:=ih Qo;have hT:=b.g;obtain⟨a2,b2,h2⟩:=zn7 a (c:=c) (d:=3-(j:Int)) Qo c0 (by rw[b.c];exact c1) (λg gu hd=>h g (by rwa[hT.aO] at gu) (by rwa[hT.dep] at hd)) 8 (I7 _);refine⟨a2,b.trans b2,λg gu hd=>h2 g (by rw[hT.aO];exact gu) ?_⟩;rw[hT.dep];have:=(Q2.1 gu).2.1;have:=ha.gl
   by_cases e:dep 3 W.IE g=3-(j:Int)
   ·exact .inr ⟨e,Qo⟩
   ·exact .inl Qo
 obtain⟨a,b,h⟩:=key 3 (I7 _);refine⟨a,b,λg gu gz=>h g gu ?_⟩;obtain⟨_,_,_,n,e1,_⟩:=Y0 ha.tree gu gz;omega
def zjj{W:Q7}(ha:WA W){c d:Int}(d1:1<=d)(c0:0<=c)(c1:c<(W.IF.length:Int)):∀k:Nat,k<=8->HG c W (Z9 W c d k)/\WA (Z9 W c d k)
 |0,_=>⟨HG.refl _ _,ha⟩
 |k+1,hk=>by
  obtain⟨o,a⟩:=zjj ha d1 c0 c1 k Qo;have hl:=a.gl;simp only[Z9];split
  ·rename_i hc;have hu:Q6 (Z9 W c d k).IE (k:Int):=Q2.2 ⟨Qo,Qo,hc.1⟩;exact⟨o.trans (NP Qo Qo c0 (by rw[a.sl hu,o.len];exact c1)),a.RC Qo Qo⟩
  ·exact⟨o,a⟩
def zes{W:Q7}(ha:WA W){c:Int}(c0:0<=c)(c1:c<(W.IF.length:Int)):HG c W (QF W c):=by
 have key:∀j:Nat,j<=3->HG c W (Yh W c j)/\WA (Yh W c j):=by
  intro j
  induction j with
  |zero=>exact λ_=>⟨HG.refl _ _,ha⟩
  |succ j ih=>
   intro hj;obtain⟨o,a⟩:=ih Qo;obtain⟨o2,a2⟩:=zjj a (c:=c) (d:=3-(j:Int)) Qo c0 (by rw[o.len];exact c1) 8 (I7 _);exact⟨o.trans o2,a2⟩
 exact(key 3 (I7 _)).1
structure Dm (W:Q7) (c:Int):Prop where
 on:∀k:Int,Q6 W.IE k->k≠0->aK W c k
 cu:0<=(gi W.IF c).cur->(Q8 W (gi W.IF c).cur).R1=c/\Zf W (gi W.IF c).cur=true
def zxj{W:Q7}(wp:XQ W){c:Int}(c0:0<=c)(c1:c<(W.IF.length:Int)):Dm W c:=
 ⟨λk hu hz=>(EJ wp hu c0 c1).on hz,λh=>⟨((wp.c c c0 c1).yes h).2.2.2.1,((wp.c c c0 c1).yes h).2.2.2.2.1⟩⟩
def Dm.oth{K:Int}{c d:Int}{W W':Q7}(h:Dm W d)(sw:SW K W)(o:HG c W W')(d0:0<=d)(d1:d<(W.IF.length:Int))(hd:d≠c):Dm W' d:=by
 refine⟨λk hu hz=>?_,λh0=>?_⟩
 ·rw[o.g.aO] at hu;have k0:=(Q2.1 hu).1;have:=h.on k hu hz;unfold aK at this ⊢;rw[o.e k d k0 d0 hd,o.SY d0 hd,zcy (o.b k k0)];exact this
 ·rw[o.cp d d0 hd] at h0 ⊢;rw[YE o.t];obtain⟨h1,h2⟩:=h.cu h0;refine⟨h1,?_⟩
  have hs:(Q8 W (gi W.IF d).cur).state=1:=by
   unfold Zf at h2;rw[A'] at h2;exact Iz h2.1
  have hu:=(sw.t _ h0 (sw.cu d d0 d1).2 (by rw[hs];decide)).1;rw[o.line sw.a.tree hu (by rw[h1];exact d0) (by rw[h1];exact hd)];exact h2
def Br{K:Int}{W:Q7}(sw:SW K W){c:Int}(c0:0<=c)(c1:c<(W.IF.length:Int)):HG c W (Xs W c)/\Dm (Xs W c) c:=by
 obtain⟨p1,os,hon⟩:=zjb sw.a c0 c1;have ol:=zes sw.a c0 c1;obtain⟨f,hA,_⟩:=KU p1 c0 (c:=c) (by rw[os.c];exact c1) 8 (I7 _);have f:FC c (QF W c) (Z4 (QF W c) c):=f;have hon:∀g:Int,Q6 (QF W c).IE g->g≠0->aK (QF W c) c g:=λg gu gz=>hon g (by rwa[os.g.aO] at gu) gz
 have W8:Xs W c=if P9 (Z4 (QF W c) c) c=true then Rc (Z4 (QF W c) c) c else Z4 (QF W c) c:=rfl;have hO:HG c W (Z4 (QF W c) c):=ol.trans f.o;have hFc:(Z4 (QF W c) c).IF.length=W.IF.length:=hO.len;have hT:=f.o.g
 have Bd3:∀k:Int,Q6 (Z4 (QF W c) c).IE k->k≠0->aK (Z4 (QF W c) c) c k:=λk hu hz=>by
  rw[hT.aO] at hu;have k0:=(Q2.1 hu).1;have:=hon k hu hz;unfold aK at this ⊢;rw[f.on k c k0 c0,T0 f.o.t hT λj _ _ _ _=>f.on _ c Qo c0,zcy (f.o.b k k0)];exact this
 rw[W8];clear W8;generalize Z4 (QF W c) c=F at Bd3 hO hFc;have cF:c<(F.IF.length:Int):=by rw[hFc];exact c1
 split
 ·refine⟨hO.trans (zof c0 cF),Bd3,λh0=>?_⟩;rw[show gi (Rc F c).IF c=XA (gi F.IF c) from (Qx _ _ c0 cF c0).trans (C' rfl)] at h0;have h0:(0:Int)<=-1:=h0;omega
 ·rename_i hg;have hg:P9 F c=false:=by simpa using hg
  refine⟨hO,Bd3,λh0=>?_⟩;unfold P9 at hg;rw[Ih h0,Bool.true_and,H'] at hg;exact⟨by simpa using hg.1,by simpa using hg.2⟩
def zo4{K:Int}{W:Q7}(sw:SW K W)(hK:0<=K):∀c:Nat,c<=W.IF.length->∀d:Int,0<=d->d<(c:Int)->Dm (YB W c) d
 |0,_=>λd a b=>by omega
 |c+1,hc=>λd d0 d1=>by
  obtain⟨s1,f1⟩:=Pi sw hK c Qo;obtain⟨o,dm⟩:=Br s1 (c:=(c:Int)) Qo (by rw[f1.c];omega)
  by_cases h:d=(c:Int)
  ·subst h;exact dm
  ·exact(zo4 sw hK c Qo d d0 Qo).oth s1 o d0 (by rw[f1.c];omega) h
def zjy{K:Int}{W:Q7}(sw:SW K W)(hK:0<=K){d:Int}(d0:0<=d)(d1:d<(W.IF.length:Int)):Dm (Qb W) d:=by
 obtain⟨s1,o1⟩:=T3 (F:=K) (K:=K+Qh) (sw.sf.mono (I2 _) (by simp only[Qh];omega)) (I2 _) W.IF.length (I7 _);obtain⟨s2,b2⟩:=JP s1 8 (I7 _);exact zo4 s2.w (by simp only[Qh];omega) W.IF.length (by show W.IF.length<=(Zv (Z2 W W.IF.length) 8).IF.length;rw[b2.c,o1.c];exact I7 _) d d0 d1
structure zr1 (W:Q7) (t c:Int):Prop where
 t0:0<=t
 t1:t<12
 st:(Q8 W t).state=1
 R1:(Q8 W t).R1=c
 on:∀x∈QR W.IE (Q8 W t).II,(Qa W x c).on=true
def zu7{W:Q7}(ha:WA W){c:Int}(f:Nat):∀g:Int,Q6 W.IE g->(4-dep 3 W.IE g).toNat=f->(∀x∈QR W.IE g,(Qa W x c).on)->0<=PN W g c->zr1 W (PN W g c) c:=by
 induction f with
 |zero=>
  intro g hu hf;have:=Kr ha hu;omega
 |succ f ih=>
  intro g hu hf hp h;rw[HS ha hu] at h ⊢
  by_cases h1:QG W g c<0
  ·rw[C' h1] at h;omega
  ·rw[B' h1] at h ⊢
   by_cases h2:QG W g c<12
   ·rw[C' h2] at h ⊢
    have hm:Z3 W g c (QG W g c).toNat:=by
     rcases Zg (Z3 W g c) (Z1 W c) 20 with ⟨a,_⟩|⟨_,_,a,_⟩
     ·unfold QG at h1;omega
     ·exact a
    rw[Jn Qo] at hm;unfold Ug at hm;rw[show (((QG W g c).toNat:Nat):Int)=QG W g c by omega] at hm;simp only[A',Is] at hm;refine⟨h,h2,hm.1.1,hm.2,?_⟩;rw[show (Q8 W (QG W g c)).II=g from hm.1.2];exact hp
   ·rw[B' h2] at h ⊢;obtain⟨k1,k2,k3,k4⟩:=KT ha hu (g:=g) (c:=c) Qo
    have hm:Z3 W g c (QG W g c).toNat:=by
     rcases Zg (Z3 W g c) (Z1 W c) 20 with ⟨a,_⟩|⟨_,_,a,_⟩
     ·unfold QG at h1;omega
     ·exact a
    rw[show (QG W g c).toNat=12+(QG W g c-12).toNat by omega,J7] at hm;unfold Xb at hm;rw[show (((QG W g c-12).toNat:Nat):Int)=QG W g c-12 by omega] at hm;simp only[A',Is] at hm;refine ih _ k1 Qo (λx hx=>?_) h;rw[Yq ha.tree k1 k2] at hx;rcases Ii.1 hx with e|e
    ·rw[e];exact hm.2
    ·rw[hm.1.2.2] at e;exact hp x e
def zvi{W:Q7}(ha:WA W){c:Int}(h12:(gi W.IF c).cur<12)(vY:0<=(gi W.IF c).cur->(Q8 W (gi W.IF c).cur).R1=c/\Zf W (gi W.IF c).cur)(h:¬Qe W c<0):zr1 W (Qe W c) c:=by
 unfold Qe at h ⊢;split
 ·rename_i hc;obtain⟨h1,h2⟩:=vY hc.1;unfold Zf JR at h2;rw[A',List.all_eq_true,h1] at h2;exact⟨hc.1,h12,Iz h2.1,h1,h2.2⟩
 ·rename_i hc;rw[B' hc] at h;exact zu7 ha _ 0 ha.root rfl (λx hx=>by rw[show QR W.IE 0=[] from Zh _ _] at hx;cases hx) Qo
structure JY (W W':Q7):Prop where
 n:W'.now=W.now
 t:W'.IJ=W.IJ
 s:∀i d:Int,(Qa W' i d).sum=(Qa W i d).sum
 g:∀i:Int,(gi W'.IE i).sum=(gi W.IE i).sum
 b:∀i:Int,(gi W'.IF i).busy=(gi W.IF i).busy
 i:∀i:Int,(gi W'.IF i).idle=(gi W.IF i).idle
 u:∀i:Int,(gi W'.IF i).up=(gi W.IF i).up
 r:∀i:Int,(gi W'.IF i).SX=(gi W.IF i).SX\/(gi W'.IF i).SX=0
def JY.refl(W:Q7):JY W W:=⟨rfl,rfl,λ_ _=>rfl,λ_=>rfl,λ_=>rfl,λ_=>rfl,λ_=>rfl,λ_=>.inl rfl⟩
def JY.trans{A B C:Q7}(h:JY A B)(k:JY B C):JY A C:=
 ⟨k.n.trans h.n,k.t.trans h.t,λi d=>(k.s i d).trans (h.s i d),λi=>(k.g i).trans (h.g i),λi=>(k.b i).trans (h.b i),λi=>(k.i i).trans (h.i i),λi=>(k.u i).trans (h.u i),λi=>by
  rcases k.r i with e|e
  ·rcases h.r i with e2|e2
   ·exact .inl (e.trans e2)
   ·exact .inr (e.trans e2)
  ·exact .inr e⟩
def zmo(W:Q7){g c:Int}{s:KM}(h:s.sum=(Qa W g c).sum):JY W (RC W g c s):=
 ⟨rfl,rfl,λi d=>Z7 (f:=λG:ZD=>(gi G.IH d).sum) W.IE g (x:={ gi W.IE g with IH:=(gi W.IE g).IH.set c.toNat s }) (Z7 (f:=KM.sum) (gi W.IE g).IH c h d) i,λi=>Z7 (f:=ZD.sum) W.IE g (x:={ gi W.IE g with IH:=(gi W.IE g).IH.set c.toNat s }) rfl i,λ_=>rfl,λ_=>rfl,λ_=>rfl,λ_=>.inl rfl⟩
def zzw(W:Q7)(g:Int)(b:Um):JY W (RF W g b):=
 ⟨rfl,rfl,λi d=>Z7 (f:=λG:ZD=>(gi G.IH d).sum) W.IE g (x:={ gi W.IE g with IL:=b }) rfl i,λi=>Z7 (f:=ZD.sum) W.IE g (x:={ gi W.IE g with IL:=b }) rfl i,λ_=>rfl,λ_=>rfl,λ_=>rfl,λ_=>.inl rfl⟩
def zum{α:Type}[Inhabited α](l:List α)(k:Int)(x:α)(i:Int):gi (l.set k.toNat x) i=gi l i\/gi (l.set k.toNat x) i=x:=by
 unfold gi;simp only[List.getD_eq_getElem?_getD,List.getElem?_set];split
 ·split
  ·exact .inr rfl
  ·rename_i e hl;refine .inl ?_;rw[show l[i.toNat]? = none from List.getElem?_eq_none_iff.2 Qo]
 ·exact .inl rfl
def D3(W:Q7)(c:Int):JY W (Rc W c):=
 ⟨rfl,rfl,λ_ _=>rfl,λ_=>rfl,λi=>Z7 (f:=PP.busy) W.IF c (x:=XA (gi W.IF c)) rfl i,λi=>Z7 (f:=PP.idle) W.IF c (x:=XA (gi W.IF c)) rfl i,λi=>Z7 (f:=PP.up) W.IF c (x:=XA (gi W.IF c)) rfl i,λi=>by
  rcases zum W.IF c (XA (gi W.IF c)) i with e|e
  ·exact .inl (by show (gi (W.IF.set c.toNat (XA (gi W.IF c))) i).SX=_;rw[e])
  ·exact .inr (by show (gi (W.IF.set c.toNat (XA (gi W.IF c))) i).SX=0;rw[e];rfl)⟩
def Al(W:Q7)(c d:Int):∀k:Nat,JY W (Z9 W c d k)
 |0=>JY.refl _
 |k+1=>by
  simp only[Z9];split
  ·exact(Al W c d k).trans (zmo _ rfl)
  ·exact Al W c d k
def EO(W:Q7)(c:Int):∀j:Nat,JY W (Yh W c j)
 |0=>JY.refl _
 |j+1=>(EO W c j).trans (Al _ _ _ _)
def zfs(W:Q7):∀c:Nat,JY W (Z2 W c)
 |0=>JY.refl _
 |c+1=>(zfs W c).trans (EO (Z2 W c) (c:Int) 3)
def Aj(W:Q7)(k:Int):∀c:Nat,JY W (Ze W k c)
 |0=>JY.refl _
 |c+1=>by
  simp only[Ze];split
  ·exact(Aj W k c).trans (zzw _ _ _)
  ·exact Aj W k c
def Ak(W:Q7):∀k:Nat,JY W (Zv W k)
 |0=>JY.refl _
 |k+1=>by
  simp only[Zv];split
  ·exact(Ak W k).trans (Aj _ _ _)
  ·exact Ak W k
def G9(W:Q7)(c:Int):∀k:Nat,JY W (QI W c k)
 |0=>JY.refl _
 |k+1=>by
  simp only[QI];split
  ·exact(G9 W c k).trans (zmo _ rfl)
  ·exact G9 W c k
def zvy(W:Q7)(c:Int):JY W (Xs W c):=by
 have h:=(EO W c 3).trans (G9 (QF W c) c 8);unfold Xs;split
 ·exact h.trans (D3 _ _)
 ·exact h
def zj5(W:Q7):∀c:Nat,JY W (YB W c)
 |0=>JY.refl _
 |c+1=>(zj5 W c).trans (zvy (YB W c) (c:Int))
def zft(W:Q7):JY W (Qb W):=((zfs W W.IF.length).trans (Ak (Z2 W W.IF.length) 8)).trans (zj5 (PK (Z2 W W.IF.length)) W.IF.length)
structure RB (S:Int) (W:Q7):Prop where
 n:W.now<=50000000000000000
 t:∀t:Int,0<=t->t<12->0<=(Q8 W t).sum/\(Q8 W t).sum<=S/\0<=(Q8 W t).IV/\(Q8 W t).IV<=S
 s:∀k c:Int,Q6 W.IE k->0<=c->c<(W.IF.length:Int)->0<=(Qa W k c).sum/\(Qa W k c).sum<=S
 g:∀k:Int,Q6 W.IE k->0<=(gi W.IE k).sum/\(gi W.IE k).sum<=S
 c:∀c:Int,0<=c->c<(W.IF.length:Int)->0<=(gi W.IF c).busy/\(gi W.IF c).busy<=S/\0<=(gi W.IF c).idle/\(gi W.IF c).idle<=50000000000000000/\0<=(gi W.IF c).SX/\(gi W.IF c).SX<=149
def RB.sum{S:Int}{W W':Q7}(h:RB S W)(k:JY W W')(hT:QH W.IE W'.IE)(hl:W'.IF.length=W.IF.length):RB S W':=by
 refine⟨by rw[k.n];exact h.n,λt a b=>by rw[YE k.t];exact h.t t a b,λi c u a b=>?_,λi u=>?_,λc a b=>?_⟩
 ·rw[hT.aO] at u;rw[hl] at b;rw[k.s];exact h.s i c u a b
 ·rw[hT.aO] at u;rw[k.g];exact h.g i u
 ·rw[hl] at b;have:=h.c c a b;rw[k.b,k.i];refine⟨this.1,this.2.1,this.2.2.1,this.2.2.2.1,?_⟩;rcases k.r c with e|e
  ·rw[e];exact this.2.2.2.2
  ·rw[e];exact⟨Qo,Qo⟩
def z6t{W:Q7}(wp:XQ W)(r:Ge W):RB Ql W:=by
 have hl:=wp.a.gl;have ht:=wp.a.t;refine⟨r.n,λt a b=>?_,λk c u a b=>?_,λk u=>?_,λc a b=>?_⟩
 ·have h:=r.t t a Qo;rcases wp.t t a b with hz|⟨_,hx⟩
  ·rw[hz.2];decide
  ·exact⟨(Xj.1 hx.s).1,h.2.1,(Xj.1 hx.u).1,h.2.2⟩
 ·obtain⟨u0,u1,_⟩:=Q2.1 u;have hs:=wp.a.sl u;exact⟨(Xj.1 (EJ wp u a b).s).1,(r.s k c u0 u1 a Qo).2.2⟩
 ·obtain⟨u0,u1,hg⟩:=wp.a.u u;exact⟨(Xj.1 hg.s).1,r.g k u0 Qo⟩
 ·have hc:=wp.c c a b;have hr:=r.c c a b;refine⟨(Xj.1 hc.b).1,hr.1,(Xj.1 hc.i).1,hr.2,?_⟩
  by_cases h:(gi W.IF c).cur<0
  ·rw[hc.no h];decide
  ·have:=hc.yes Qo;omega
def zz0{b:Um}(h:P2 b){c:Int}(c0:0<=c)(c1:c<(b.locals.length:Int)):P2 (ZL b c).1/\(ZL b c).1.locals.length=b.locals.length/\(ZL b c).1.I'=b.I':=by
 unfold ZL;split
 ·exact⟨h,rfl,rfl⟩
 ·rename_i hn;have hm:=zbc h.p1;have he:=h.each c c0 c1;have hs:=Bv b.locals c (Zr 20 b.RH) c0 c1 b.locals.length;rw[C' c1] at hs;have p2:=h.p2;have su:=h.sum;have dl:=h.dl;refine⟨⟨h.q1,h.q2,?_,?_,?_,?_,?_,h.s1,h.s2,λd d0 d1=>?_,?_⟩,Qs,rfl⟩
  ·simp only[E'];exact h.l1
  ·simp only[E'];exact h.l2
  ·simp only[E'];exact h.dl
  ·show 0<=b.RH-Zr 20 b.RH;omega
  ·show b.RH-Zr 20 b.RH<=b.I';omega
  ·simp only[E'] at d1;have hd:=h.each d d0 d1;show 0<=gi (b.locals.set c.toNat (Zr 20 b.RH)) d/\gi (b.locals.set c.toNat (Zr 20 b.RH)) d<=b.I'/\(gi (b.Ry.set c.toNat (Zr 20 b.RH==0)) d=true->gi (b.locals.set c.toNat (Zr 20 b.RH)) d=0/\b.RH-Zr 20 b.RH=0);rw[Qx _ _ c0 c1 d0,Qx _ _ c0 Qo d0];have hz:Zr 20 b.RH=0->b.RH=0:=λe=>by unfold Zr at e;split at e <;> omega
   by_cases e:c=d
   ·subst e;rw[C' rfl,C' rfl];refine⟨hm.1,Qo,λhd0=>?_⟩;have e0:Zr 20 b.RH=0:=Iz hd0;have:=hz e0;exact⟨e0,Qo⟩
   ·rw[B' e,B' e];refine⟨hd.1,hd.2.1,λhd0=>?_⟩;have:=hd.2.2 hd0;exact⟨this.1,Qo⟩
  ·show b.RH-Zr 20 b.RH+b.So+Vl (b.locals.set c.toNat (Zr 20 b.RH)) (b.locals.set c.toNat (Zr 20 b.RH)).length=b.I';rw[E',hs];omega
def zvu{b:Um}(h:P2 b){c n:Int}(c0:0<=c)(c1:c<(b.locals.length:Int)):P2 (Y6 b c n).1/\(Y6 b c n).1.locals.length=b.locals.length/\(Y6 b c n).1.I'=b.I':=by
 unfold Y6;split
 ·exact⟨h,rfl,rfl⟩
 ·rename_i hn;have hs:=Bv b.locals c (gi b.locals c-n) c0 c1 b.locals.length;rw[C' c1] at hs;have hnn:=(zmm (λd d0 d1=>(h.each d d0 d1).1) c0 b.locals.length (I7 _)).2 c1;have p1:=h.p1;have su:=h.sum;have s1:=h.s1;have dl:=h.dl;have hn1:¬n<1:=λe=>hn (.inl e)
  have hn2:¬n>gi b.locals c:=λe=>hn (.inr e)
  refine⟨⟨h.q1,h.q2,?_,?_,?_,h.p1,h.p2,?_,?_,λd d0 d1=>?_,?_⟩,Qs,rfl⟩
  ·simp only[E'];exact h.l1
  ·simp only[E'];exact h.l2
  ·simp only[E'];exact h.dl
  ·show 0<=b.So+n;omega
  ·show b.So+n<=b.I';omega
  ·simp only[E'] at d1;have hd:=h.each d d0 d1;show 0<=gi (b.locals.set c.toNat (gi b.locals c-n)) d/\gi (b.locals.set c.toNat (gi b.locals c-n)) d<=b.I'/\(gi b.Ry d=true->gi (b.locals.set c.toNat (gi b.locals c-n)) d=0/\b.RH=0);rw[Qx _ _ c0 c1 d0]
   by_cases e:c=d
   ·subst e;rw[C' rfl];exact⟨Qo,Qo,λhd0=>by have:=(hd.2.2 hd0).1;omega⟩
   ·rw[B' e];exact hd
  ·show b.RH+(b.So+n)+Vl (b.locals.set c.toNat (gi b.locals c-n)) (b.locals.set c.toNat (gi b.locals c-n)).length=b.I';rw[E',hs];omega
def zg8(b:Um)(c:Int):Nat->Nat
 |0=>0
 |d+1=>zg8 b c d+if (d:Int)≠c/\gi b.locals (d:Int)>0 then 1 else 0
def zrt(b:Um)(c:Int):Nat:=if gi b.Ry c=true then 0 else 1
def Jq(b:Um)(c:Int):Nat:=9*zg8 b c 4+zrt b c
def zsj(b:Um)(c:Int):∀n:Nat,zg8 b c n<=n
 |0=>I7 _
 |n+1=>by
  have:=zsj b c n;simp only[zg8]
  split <;> omega
def z2m(b:Um)(c:Int):Jq b c<=37:=by
 have:=zsj b c 4;unfold Jq zrt
 split <;> omega
def zii(W:Q7)(c:Int):Nat->Nat
 |0=>0
 |k+1=>zii W c k+Jq (gi W.IE (k:Int)).IL c
def GF(W:Q7)(c:Int):Nat:=zii W c 8
def HV{W W':Q7}{c:Int}(h:∀k:Nat,k<8->Jq (gi W'.IE (k:Int)).IL c<=Jq (gi W.IE (k:Int)).IL c):∀k:Nat,k<=8->zii W' c k<=zii W c k
 |0,_=>I7 _
 |k+1,hk=>by
  have:=HV h k Qo;have:=h k Qo;simp only[zii];omega
def zs6{W W':Q7}{c:Int}(h:∀k:Nat,k<8->Jq (gi W'.IE (k:Int)).IL c<=Jq (gi W.IE (k:Int)).IL c){j:Nat}(hj:Jq (gi W'.IE (j:Int)).IL c<Jq (gi W.IE (j:Int)).IL c):∀k:Nat,j<k->k<=8->zii W' c k<zii W c k
 |0,h0,_=>Ir h0 (Nat.not_lt_zero j)
 |k+1,gG,hk=>by
  have h1:=HV h k Qo;have h2:=h k Qo;simp only[zii]
  by_cases e:j=k
  ·subst e;omega
  ·have:=zs6 h hj k Qo Qo;omega
def z2o(W:Q7)(c:Int):GF W c<=296:=by
 have key:∀k:Nat,zii W c k<=37*k:=by
  intro k
  induction k with
  |zero=>exact I7 _
  |succ k ih=>
   have:=z2m (gi W.IE (k:Int)).IL c;simp only[zii];omega
 exact key 8
def HO{b b':Um}{c:Int}(h:∀d:Nat,(d:Int)≠c->gi b'.locals (d:Int)=gi b.locals (d:Int)):∀n:Nat,zg8 b' c n=zg8 b c n
 |0=>rfl
 |n+1=>by
  simp only[zg8];rw[HO h n]
  by_cases e:(n:Int)=c
  ·simp[e]
  ·rw[h n e]
end Go.Proofs.YtjinkcmkgnofjaaGreatDoor
