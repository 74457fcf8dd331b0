/- Part 13 of what the law FnDropEmpty needs. -/
import Derived.Test.YtnclplgaicdapaaGreatDoorFnDropEmptyPl
import Derived.Shelf.Abstract
set_option linter.unusedVariables false
set_option linter.unusedSimpArgs false
set_option maxRecDepth 100000
set_option maxHeartbeats 8000000
namespace Go.Proofs.YtnclplgaicdapaaGreatDoor
open Go.RowKit
def zv2(W:Q7)(a b:Int):Bool:=decide (HZ W a>HZ W b)
def Pw(W:Q7)(c m:Int):Nat->Int
 | 0 => -1
 | k+1=>if ((Ze m (k:Int)&&zl7 W (k:Int) c)&&(decide (Pw W c m k<0)||zv2 W (k:Int) (Pw W c m k)))=true then (k:Int) else Pw W c m k
theorem zoo{W:Q7}{c m:Int}{k:Nat}(h:((Ze m (k:Int)&&zl7 W (k:Int) c)&&(decide (Pw W c m k<0)||zv2 W (k:Int) (Pw W c m k)))=true):Pw W c m (k+1)=(k:Int):=E' h
theorem zkj{W:Q7}{c m:Int}{k:Nat}(h:¬((Ze m (k:Int)&&zl7 W (k:Int) c)&&(decide (Pw W c m k<0)||zv2 W (k:Int) (Pw W c m k)))=true):Pw W c m (k+1)=Pw W c m k:=C' h
theorem zrp{p:Nat->Bool}{n:Nat}(h:p n=false):VN p (n+1)=VN p n:=by simp[VN,h]
theorem NU(W:Q7)(c m:Int):∀k:Nat,-1<=Pw W c m k/\Pw W c m k<k
 | 0=>by simp[Pw]
 | k+1=>by
  have:=NU W c m k;simp only[Pw]
  split <;> omega
noncomputable def TF(W:Q7)(c lv:Int):Int:=Pw W c (zwz (W.IE.length:Int) c lv) W.IE.length
theorem zuk{W:Q7}(wp:XA W){b c:Int}(h:zl7 W b c=true):0<=b/\b<(W.IE.length:Int)/\b≠c:=by
 obtain⟨t,ht,hp⟩:=Gj.1 h;simp only[A',It] at hp;obtain⟨h1,h2⟩:=Fe hp.2;have:=wp.li (t:=(t:Int)) Qo (by have:=wp.a.t; omega) h1;rw[hp.1] at this h2;exact⟨this.2.1,this.2.2,h2⟩
section
variable {W:Q7}{m:MW}{w:Wo}{bs:List Nat}{p:OA}
theorem HT{s c:Int}(h:Xb bs w W m)(wp:XA W)(c0:0<=c)(c1:c<(W.IE.length:Int)):PX bs UP #[.agg (Qa W m).toArray,I s,I c] w (I (Pw W c s W.IE.length)):=
 Db _ _ _ _ _ _ _ _ _ _ s c fun wr hx=>by
  have h:=(h.ext hx).less (cs:=[]) Qs;have h4:=wp.a.c2;have jV:=wp.a.t;intro _ _;refine TN W.IE.length 0 rfl (fun x k=>k<=W.IE.length/\x=Pw W c s k) ⟨Ie _,rfl⟩ fun x k ⟨hk,R6⟩=>⟨fun IQ=>?_,fun RH=>?_⟩
  ·subst R6;have IQ:=Ot IQ;have hr:=NU W c s k;refine⟨_,fun _=>ZT,_,fun _ _=>Vz h wp,_,fun _ _=>Vz h wp,fun g=>?_,fun g=>?_⟩
   ·refine⟨⟨Qo,Qo⟩,QF Qo ⟨Qo,?_⟩⟩;rw[zkj];intro hc;simp only[A'] at hc;have gA:=(zuk wp hc.1.2).2.2;rw[beq_eq_false_iff_ne.2 gA,hc.1.1] at g;simp only[Bool.not_true,Bool.or_self,Bool.false_or,A',Ik] at g;unfold zv2 at hc;simp only[Iv,Ik] at hc;omega
   ·simp only[I0,I7] at g;obtain⟨⟨g1,g2⟩,g3⟩:=g
    have hb:(decide (Pw W c s k<0)||zv2 W (k:Int) (Pw W c s k))=true:=by
     unfold zv2;simp only[Iv,Ik];simp only[Bool.and_eq_false_iff,decide_eq_false_iff_not] at g3;omega
    refine TN 12 0 rfl (fun y j=>j<=12/\y=if VN (fun t=>((Q8 W (t:Int)).R9==(k:Int))&&U5 W (t:Int) c) j=true then (k:Int) else Pw W c s k) ⟨Ie _,rfl⟩ fun y j ⟨hj,hy⟩=>⟨fun RU=>?_,fun bU=>?_⟩
    ·have RU:=Ot RU;have uE:j<12:=Qo;refine⟨h.t.ix QL Qo RU,_,h.t.f Qo RU (j:=2) rfl,_,fun _=>MU h wp Qo RU c0 c1,fun g4=>?_,fun g4=>?_⟩
     ·have g4:(((Q8 W (j:Int)).R9==(k:Int))&&U5 W (j:Int) c)=true:=g4;refine⟨⟨Qo,Qo⟩,QF uE ⟨Qo,?_⟩⟩;rw[E'];simp only[VN,Iv];exact .inr g4
     ·have g4:(((Q8 W (j:Int)).R9==(k:Int))&&U5 W (j:Int) c)=false:=g4;refine⟨⟨Qo,Qo⟩,QF uE ⟨Qo,?_⟩⟩;rw[hy,zrp (p:=fun t=>((Q8 W (t:Int)).R9==(k:Int))&&U5 W (t:Int) c) g4]
    ·have bU:=Ou bU;have:j=12:=Qo;subst this;refine⟨⟨Qo,Qo⟩,QF Qo ⟨Qo,?_⟩⟩;rw[hy];show (if zl7 W (k:Int) c=true then (k:Int) else Pw W c s k)=_
     cases ha:zl7 W (k:Int) c with
     | true=>rw[zoo (by rw[g2,ha,hb]; rfl),E' rfl]
     | false=>rw[zkj (by rw[ha]; simp),C' Qd]
  ·have RH:=Ou RH;have:k=W.IE.length:=Qo;subst this;rw[R6]
end
theorem zfo(cs:List Pf){c:Int}(c0:0<=c):∀k:Nat,k<=4->c<(k:Int)->(gi cs c).up=true->Ze (Up cs k) c=true
 | 0,_,h,_=>by omega
 | k+1,hk,h,hu=>by
  have hl:=Lr cs k Qo
  have hb:Jw k<=8:=by
   have:k=0\/k=1\/k=2\/k=3:=Qo;rcases this with rfl | rfl | rfl | rfl <;> decide
  have key:=zgm ⟨k,Qo⟩ ⟨(Up cs k).toNat,Qo⟩ ⟨c.toNat,Qo⟩;rw[show ((⟨(Up cs k).toNat,Qo⟩:Fin 8).val:Int)=Up cs k by show (((Up cs k).toNat:Nat):Int)=Up cs k; omega,show ((⟨c.toNat,Qo⟩:Fin 4).val:Int)=c by show ((c.toNat:Nat):Int)=c; omega] at key;simp only[Up]
  by_cases e:c=(k:Int)
  ·subst e;rw[E' hu,key hl.2];simp
  ·have ih:=zfo cs c0 k Qo Qo hu;split
   ·rw[key hl.2,ih]; simp
   ·exact ih
theorem F9{cs:List Pf}(h4:cs.length<=4){c:Int}(c0:0<=c)(c1:c<(cs.length:Int))(hu:(gi cs c).up=true):J8 cs≠0:=fun e=>by
 have h:=zfo cs c0 cs.length h4 c1 hu;rw[show Up cs cs.length=0 from e] at h;have hr:=P2 h;have:c=0\/c=1\/c=2\/c=3:=Qo;rcases this with rfl | rfl | rfl | rfl <;> exact Is h Qd
theorem zpv{m c:Int}(c0:0<=c)(c4:c<4)(h:Ze m c=true)(hn:∀j:Int,0<=j->j<4->j≠c->Ze m j=false):GE m 4=1:=by
 have h0:=hn 0 Qd Qd;have h1:=hn 1 Qd Qd;have h2:=hn 2 Qd Qd;have h3:=hn 3 Qd Qd;have i0:((0:Nat):Int)=0:=rfl;have i1:((1:Nat):Int)=1:=rfl;have i2:((2:Nat):Int)=2:=rfl;have i3:((3:Nat):Int)=3:=rfl;have:c=0\/c=1\/c=2\/c=3:=Qo;simp only[GE,i0,i1,i2,i3];rcases this with rfl | rfl | rfl | rfl
 ·have e1:=h1 Qd; have e2:=h2 Qd; have e3:=h3 Qd; simp[h,e1,e2,e3]
 ·have e1:=h0 Qd; have e2:=h2 Qd; have e3:=h3 Qd; simp[h,e1,e2,e3]
 ·have e1:=h0 Qd; have e2:=h1 Qd; have e3:=h3 Qd; simp[h,e1,e2,e3]
 ·have e1:=h0 Qd; have e2:=h1 Qd; have e3:=h2 Qd; simp[h,e1,e2,e3]
theorem znw{cs:List Pf}(h4:cs.length<=4){c:Int}(c0:0<=c)(c1:c<(cs.length:Int))(hu:(gi cs c).up=true)(hn:GE (J8 cs) 4≠1):∃j:Int,0<=j/\j<(cs.length:Int)/\j≠c/\(gi cs j).up=true:=by
 refine Classical.byContradiction fun gA=>hn (zpv c0 Qo (zfo cs c0 cs.length h4 c1 hu) fun j j0 j4 hj=>?_)
 cases h:Ze (J8 cs) j with
 | false=>rfl
 | true=>
  obtain⟨a,b⟩:=zfn cs (c:=j) cs.length h4 h;exact Is ⟨j,j0,a,hj,b⟩ gA
theorem SW.RW{K:Int}{W:Q7}(h:SW K W){c:Int}(c0:0<=c)(c1:c<(W.IE.length:Int)){x:Pf}(hu:J8 (W.IE.set c.toNat x)≠0)(h1 : -1<=x.cur)(h2:x.cur<12):SW K (RW W c x):=by
 have hl:(W.IE.set c.toNat x).length=W.IE.length:=H';have hg:∀d:Int,0<=d->gi (W.IE.set c.toNat x) d=if c=d then x else gi W.IE d:=fun d d0=>QC _ _ c0 c1 d0
 refine⟨h.a.cp hl hu,fun t a b n=>?_,h.tv,fun k d u a b=>?_,fun d a b=>?_⟩
 ·show _/\_/\_<(((W.IE.set c.toNat x).length:Nat):Int);rw[hl];exact h.t t a b n
 ·have b:d<(((W.IE.set c.toNat x).length:Nat):Int):=b;rw[hl] at b;exact h.s k d u a b
 ·have b:d<(((W.IE.set c.toNat x).length:Nat):Int):=b;rw[hl] at b;show _<=(gi (W.IE.set c.toNat x) d).cur/\(gi (W.IE.set c.toNat x) d).cur<12;rw[hg _ a];split
  ·exact⟨h1,h2⟩
  ·exact h.cu d a b
noncomputable def UE(W:Q7)(c:Int)(up:Bool)(last:Int):Int:=if Xf W c=false then 1 else if (gi W.IE c).up≠up then 6 else if last≠0 then last else if QH W=false then 10 else 0
theorem zd1{W:Q7}{c:Int}{up:Bool}{last:Int}(h:UE W c up last=0):Xf W c=true/\(gi W.IE c).up=up/\last=0/\QH W=true:=by
 unfold UE at h
 split at h
 ·cases h
 ·rename_i h1
  split at h
  ·cases h
  ·rename_i h2
   split at h
   ·rename_i h3; exact Is h h3
   ·rename_i h3
    split at h
    ·cases h
    ·rename_i h4;exact⟨by simpa using h1,by simpa using h2,Qo,by simpa using h4⟩
theorem L9{W:Q7}{c:Int}{up:Bool}{last:Int}(h1:Xf W c=true)(h2:(gi W.IE c).up=up)(h3:last=0):UE W c up last=if QH W=false then 10 else 0:=by
 unfold UE;rw[C' (by rw[h1]; decide),C' (by simpa using h2),C' (by simpa using h3)]
def MZ(x:Pf)(b:Bool):Pf:={ x with up:=b }
def zwr(W:Q7)(c:Int):Q7:=Qh (LN (RW W c (MZ (gi W.IE c) true)))
def KO(W:Q7):Int:=if GE (J8 W.IE) 4=1 then 5 else 0
def zp8(W:Q7)(c:Int):Q7:=Qh (LN (RC (RW W c (MZ (gi W.IE c) false)) c))
theorem zuc{W:Q7}{c:Int}(hW:Qx W=true)(hb:UE W c false 0=0):0<=c/\c<(W.IE.length:Int)/\SF Qj (Qj+Qn) W/\SF Qj (Qj+Qn) (RW W c (MZ (gi W.IE c) true)):=by
 obtain⟨h1,h2,_,h4⟩:=zd1 hb;have wp:=Qi.1 hW;have sw:=P8 wp (Qi.1 h4);obtain⟨c0,c1⟩:=Tt h1;have hcu:=sw.cu c c0 c1;have hl:(W.IE.set c.toNat (MZ (gi W.IE c) true)).length=W.IE.length:=H';have hc2:=wp.a.c2;exact⟨c0,c1,Me sw,Me (sw.RW c0 c1 (x:=MZ (gi W.IE c) true) (F9 Qo c0 Qo (by rw[QC _ _ c0 c1 c0,E' rfl]; rfl)) hcu.1 hcu.2)⟩
theorem zp9{W:Q7}{c:Int}(hW:Qx W=true)(hb:UE W c true (KO W)=0):0<=c/\c<(W.IE.length:Int)/\SF Qj (Qj+Qn) W/\SF Qj (Qj+Qn) (RW W c (MZ (gi W.IE c) false)):=by
 obtain⟨h1,h2,h3,h4⟩:=zd1 hb;have wp:=Qi.1 hW;have sw:=P8 wp (Qi.1 h4);obtain⟨c0,c1⟩:=Tt h1;have hcu:=sw.cu c c0 c1;have hl:(W.IE.set c.toNat (MZ (gi W.IE c) false)).length=W.IE.length:=H';have hc2:=wp.a.c2;have hn:GE (J8 W.IE) 4≠1:=fun e=>by unfold KO at h3; rw[E' e] at h3; cases h3
 obtain⟨j,j0,j1,jc,hj⟩:=znw hc2 c0 c1 h2 hn;exact⟨c0,c1,Me sw,Me (sw.RW c0 c1 (x:=MZ (gi W.IE c) false) (F9 Qo j0 Qo (by rw[QC _ _ c0 c1 j0,C' fun e=>jc e.symm]; exact hj)) hcu.1 hcu.2)⟩
theorem Nb(W:Q7)(c:Int)(x:Pf)(m:MW):Qa (RW W c x) m=Qa W m:=by simp[Qa,RW]
section
variable {W W':Q7}{m:MW}{w:Wo}
theorem zeq{c:Int}(h:Xb [] w W m)(hl:Xh W) :
  Cz Py #[.agg (Qa W m).toArray,I c] w fun e w'=>∃v,e=.returned v/\QJ (Yp W (UE W c false 0) (zwr W c)) w v w':=by
 refine zd8 _ _ _ _ _ _ _ _ _ _ c (R:=fun v w'=>QJ (Yp W (UE W c false 0) (zwr W c)) w v w') ?_;intro y hy y1 cY wr R6 SY;have hm9:=Zc;have sJ:=hl.c;refine I4 (Zb (h.ext R6) hl) ?_;rintro e wv (⟨hW,he,SL⟩ | ⟨hW,m',he,hM,SL⟩)
 ·exact⟨_,_,_,_,_,_,_,_,_,_,_,he,Qe SL SY,fun g=>by simp at g,true,fun g=>by simp at g,fun _ R2 Rm=>QJ.bad hW ((R6.trans SL).fresh Rm fun z hm=>.inl (Yv hy cY z hm)),fun g=>by simp at g⟩
 have hK:=Wk.begin hy cY R6 SY hM SL;have hr:=hK.rd;have wp:=Qi.1 hW;have hm0:=XJ;refine⟨_,_,_,_,_,_,_,_,_,_,_,he,Qe SL SY,fun _=>⟨Qo,Qo⟩,Xf W c,fun _=>Qm,fun g R2 Rm=>?_,fun g=>?_⟩
 ·have g:Xf W c=false:=by
   cases hc:Xf W c with
   | false=>rfl
   | true=>rw[hc] at g; split at g <;> simp at g
  have hb:UE W c false 0=1:=by unfold UE; rw[E' g]
  exact QJ.no hW (by rw[hb]; decide) (hK.step Rm) hb
 have g:Xf W c=true:=by
  cases hc:Xf W c with
  | true=>rfl
  | false=>rw[hc] at g; simp at g
 obtain⟨c0,c1⟩:=Tt g;refine⟨hr.c.ix Y0 c0 c1,_,hr.c.f c0 c1 (j:=0) rfl,fun g2 O' Rm=>?_,fun g2=>⟨fun g3 Rt Rm=>?_,fun g3=>?_⟩⟩
 ·have hb:UE W c false 0=6:=by unfold UE; rw[C' (by rw[g]; decide),E' (by rw[g2]; decide)]
  exact QJ.no hW (by rw[hb]; decide) (hK.step Rm) hb
 ·have bH:¬QH W=true:=fun hr=>by rw[E' hr] at g3; simp at g3
  have hb:UE W c false 0=10:=by rw[L9 g g2 rfl,E' (by simpa using bH)]
  rw[C' bH];exact QJ.no hW (by rw[hb]; decide) (hK.step Rm) hb
 have bH:QH W=true:=Ir fun hr=>by rw[C' hr] at g3; simp at g3
 have hb:UE W c false 0=0:=by rw[L9 g g2 rfl,C' (by rw[bH]; decide)]
 obtain⟨_,_,_,sf⟩:=zuc hW hb;have SP:Wk 8 [y,y1] w (RD wv m'.cO (Int.toNat c*5+0) [.bool true]) (RW W c (MZ (gi W.IE c) true)) m':=hK.RD (hK.own.Ag2 c0 c1 (j:=0) (vs:=[.bool true]) (x:=MZ (gi W.IE c) true) rfl Qs) zbt;refine⟨hr.c.ix Y0 c0 c1,zn1 hK.own hK.nb c0 c1 Qd,fun Ry SZ fU=>?_⟩;have e5:Qa (RW W c (MZ (gi W.IE c) true)) m'=Qa W m':=Nb _ _ _ _;have hE:zwr W c=Qh (LN (RW W c (MZ (gi W.IE c) true))):=rfl;rw[hE];generalize RW W c (MZ (gi W.IE c) true)=V at SP sf e5;have dQ:=SP.step SZ;have Rn:=XX dQ.own sf (I3 _) (by simp only[Qn]; decide);rw[e5] at Rn;refine I4 Rn ?_;rintro e1 Rr ⟨kE,jW⟩;refine⟨_,_,_,_,_,_,_,_,_,_,kE,dQ.kept jW fU,fun RR SK kK=>?_⟩;have dB:=(dQ.SX jW fU).step SK;have aG:=Qu dB.own (Lm sf (I3 _)).1.w (by simp only[Qn]; decide) (by simp only[Qn]; decide) dB.base;rw[HG sf (I3 _),e5] at aG;refine I4 aG ?_;rintro e2 Rx ⟨m2,aQ,kR⟩;exact⟨_,_,_,_,_,_,_,_,_,_,aQ,dB.kept kR kK,fun Sn cU=>QJ.ok hW hb ((dB.SX kR kK).step cU)⟩
theorem zau{c:Int}(h:Xb [] w W m)(hl:Xh W) :
  Cz OL #[.agg (Qa W m).toArray,I c] w fun e w'=>∃v,e=.returned v/\QJ (Yp W (UE W c true (KO W)) (zp8 W c)) w v w':=by
 refine zah _ _ _ _ _ _ _ _ _ _ c (R:=fun v w'=>QJ (Yp W (UE W c true (KO W)) (zp8 W c)) w v w') ?_;intro y hy y1 cY wr R6 SY;have hm0:=XJ;have sJ:=hl.c;refine I4 (Zb (h.ext R6) hl) ?_;rintro e wv (⟨hW,he,SL⟩ | ⟨hW,m',he,hM,SL⟩)
 ·exact⟨_,_,_,_,_,_,_,_,_,_,_,he,Qe SL SY,fun g=>by simp at g,true,fun g=>by simp at g,fun _ R2 Rm=>QJ.bad hW ((R6.trans SL).fresh Rm fun z hm=>.inl (Yv hy cY z hm)),fun g=>by simp at g⟩
 have hK:=Wk.begin hy cY R6 SY hM SL;have hr:=hK.rd;have wp:=Qi.1 hW;refine⟨_,_,_,_,_,_,_,_,_,_,_,he,Qe SL SY,fun _=>⟨Qo,Qo⟩,Xf W c,fun _=>Qm,fun g R2 Rm=>?_,fun g=>?_⟩
 ·have g:Xf W c=false:=by
   cases hc:Xf W c with
   | false=>rfl
   | true=>rw[hc] at g; split at g <;> simp at g
  have hb:UE W c true (KO W)=1:=by unfold UE; rw[E' g]
  exact QJ.no hW (by rw[hb]; decide) (hK.step Rm) hb
 have g:Xf W c=true:=by
  cases hc:Xf W c with
  | true=>rfl
  | false=>rw[hc] at g; simp at g
 obtain⟨c0,c1⟩:=Tt g;refine⟨hr.c.ix Y0 c0 c1,_,hr.c.f c0 c1 (j:=0) rfl,fun g2 O' Rm=>?_,fun g2=>⟨_,MA hr wp.a.c2,_,Eo,fun g3 Rt Rm=>?_,fun g3=>⟨fun g4 Ry Rm=>?_,fun g4=>?_⟩⟩⟩
 ·have g2:(gi W.IE c).up=false:=by simpa using g2
  have hb:UE W c true (KO W)=6:=by unfold UE; rw[C' (by rw[g]; decide),E' (by rw[g2]; decide)]
  exact QJ.no hW (by rw[hb]; decide) (hK.step Rm) hb
 ·have g2:(gi W.IE c).up=true:=by simpa using g2
  have hL:KO W=5:=by unfold KO; rw[E' (by simpa using g3)]
  have hb:UE W c true (KO W)=5:=by unfold UE; rw[C' (by rw[g]; decide),C' (by rw[g2]; decide),hL,E' Qd]
  exact QJ.no hW (by rw[hb]; decide) (hK.step Rm) hb
 ·have g2:(gi W.IE c).up=true:=by simpa using g2
  have hL:KO W=0:=by unfold KO; rw[C' (by simpa using g3)]
  have bH:¬QH W=true:=fun hr=>by rw[E' hr] at g4; simp at g4
  have hb:UE W c true (KO W)=10:=by rw[L9 g g2 hL,E' (by simpa using bH)]
  rw[C' bH];exact QJ.no hW (by rw[hb]; decide) (hK.step Rm) hb
 have g2:(gi W.IE c).up=true:=by simpa using g2
 have hL:KO W=0:=by unfold KO; rw[C' (by simpa using g3)]
 have bH:QH W=true:=Ir fun hr=>by rw[C' hr] at g4; simp at g4
 have hb:UE W c true (KO W)=0:=by rw[L9 g g2 hL,C' (by rw[bH]; decide)]
 obtain⟨_,_,_,sf⟩:=zp9 hW hb;have SP:Wk 8 [y,y1] w (RD wv m'.cO (Int.toNat c*5+0) [.bool false]) (RW W c (MZ (gi W.IE c) false)) m':=hK.RD (hK.own.Ag2 c0 c1 (j:=0) (vs:=[.bool false]) (x:=MZ (gi W.IE c) false) rfl Qs) zbt;refine⟨hr.c.ix Y0 c0 c1,zn1 hK.own hK.nb c0 c1 Qd,fun RR SK kK=>?_⟩;have e5:Qa (RW W c (MZ (gi W.IE c) false)) m'=Qa W m':=Nb _ _ _ _;have hlV:(RW W c (MZ (gi W.IE c) false)).IE.length=W.IE.length:=by simp[RW]
 have hE:zp8 W c=Qh (LN (RC (RW W c (MZ (gi W.IE c) false)) c)):=rfl;rw[hE];generalize RW W c (MZ (gi W.IE c) false)=V at SP sf e5 hlV;have c1V:c<(V.IE.length:Int):=by rw[hlV]; exact c1
 have dQ:=SP.step SK;have Bp7:=Zu dQ.own c0 c1V;rw[e5] at Bp7;refine I4 Bp7 ?_;rintro e0 wv0 ⟨he0,hy0⟩;refine⟨_,_,_,_,_,_,_,_,_,_,he0,dQ.kept hy0 kK,fun Sn cU zW=>?_⟩;have sfE:=sf.RC c0 c1V;have rN:=(dQ.SX hy0 kK).step cU;generalize RC V c=U at rN sfE;have Rn:=XX rN.own sfE (I3 _) (by simp only[Qn]; decide);refine I4 Rn ?_;rintro e1 Rr ⟨kE,jW⟩;refine⟨_,_,_,_,_,_,_,_,_,_,kE,rN.kept jW zW,fun SO lY hs7=>?_⟩;have hK7:=(rN.SX jW zW).step lY;have aG:=Qu hK7.own (Lm sfE (I3 _)).1.w (by simp only[Qn]; decide) (by simp only[Qn]; decide) hK7.base;rw[HG sfE (I3 _)] at aG;refine I4 aG ?_;rintro e2 Rx ⟨m2,aQ,kR⟩;exact⟨_,_,_,_,_,_,_,_,_,_,aQ,hK7.kept kR hs7,fun W8 rH=>QJ.ok hW hb ((hK7.SX kR hs7).step rH)⟩
end
noncomputable def Pq(W:Q7)(t:Int):Int:=if ZY W t=false then 2 else if (Q8 W t).state≠2 then 6 else if QH W=false then 10 else 0
def Pb(W:Q7)(t:Int):Int:=if zhf W (Q8 W t).R9>0 then Pe W (Qv W (Q8 W t).group (Q8 W t).mask) else (Q8 W t).R9
def VH(W:Q7)(t c:Int):Pi:={ PH W t (Q8 W t).group c with state:=1 }
def Fp(W:Q7)(t:Int):Q7:=Qh (RC (IU W t (VH W t (Pb W t))) (Pb W t))
theorem V2(W:Q7)(t:Int)(x:Pi):(IU W t x).tasks.length=W.tasks.length:=by simp[IU]
theorem zlk{W:Q7}{t:Int}(h:(Q8 W t).state=2)(c:Int):UT W t (Q8 W t).group c=IU W t (PH W t (Q8 W t).group c):=by
 unfold UT;rw[C' (by rw[h]; decide)]
theorem zfq{W:Q7}{t c:Int}(sf:SF Qj (Qj+Qn) W)(t0:0<=t)(t1:t<(W.tasks.length:Int))(n:(Q8 W t).state≠0)(c0:0<=c)(c1:c<(W.IE.length:Int)):SF Qj (Qj+Qn) (IU W t (VH W t c)):=by
 have hl:=sf.w.a.t;have hu:=(sf.w.t t t0 Qo n).1;have hv:=zlj sf (I3 _) (t:=t) hu c0 c1;exact sf.IU t0 Qo (x:=VH W t c) (fun _=>⟨hu,c0,c1⟩) hv.1 hv.2
theorem zl2{W:Q7}{t:Int}(hW:Qx W=true)(hb:Pq W t=0):ZY W t=true/\(Q8 W t).state=2/\QH W=true/\SF Qj (Qj+Qn) W/\0<=Pb W t/\Pb W t<(W.IE.length:Int):=by
 have wp:=Qi.1 hW;unfold Pq at hb
 split at hb
 ·cases hb
 ·rename_i h1
  split at hb
  ·cases hb
  ·rename_i h2
   split at hb
   ·cases hb
   ·rename_i h3;have h1:ZY W t=true:=by simpa using h1
    have h2:(Q8 W t).state=2:=by simpa using h2
    have h3:QH W=true:=by simpa using h3
    have sw:=P8 wp (Qi.1 h3);obtain⟨t0,t1,n⟩:=YH h1;have hl:=wp.a.t;have hc:=sw.t t t0 Qo n;refine⟨h1,h2,h3,Me sw,?_⟩;unfold Pb;split
    ·have:=Lk wp.a (Q8 W t).group (Q8 W t).mask;exact⟨this.1,this.2.1⟩
    ·exact hc.2
section
variable {base pb:Nat}{W W':Q7}{m:MW}{w:Wo}
theorem BA{t:Int}(h:Xb [] w W m)(hl:Xh W) :
  Cz T6 #[.agg (Qa W m).toArray,I t] w fun e w'=>∃v,e=.returned v/\QJ (Yp W (Pq W t) (Fp W t)) w v w':=by
 refine Be _ _ _ _ _ _ _ _ _ _ t (R:=fun v w'=>QJ (Yp W (Pq W t) (Fp W t)) w v w') ?_;intro y hy y1 cY wr R6 SY;refine I4 (Zb (h.ext R6) hl) ?_;rintro e wv (⟨hW,he,SL⟩ | ⟨hW,m',he,hM,SL⟩)
 ·exact⟨_,_,_,_,_,_,_,_,_,_,_,he,Qe SL SY,fun _ R2 Rm=>QJ.bad hW ((R6.trans SL).fresh Rm fun z hm=>.inl (Yv hy cY z hm)),fun g=>by simp at g⟩
 have hK:=Wk.begin hy cY R6 SY hM SL;have hr:=hK.rd;have wp:=Qi.1 hW;refine⟨_,_,_,_,_,_,_,_,_,_,_,he,Qe SL SY,fun g=>by split at g <;> simp at g,fun _=>⟨_,Jc hr hl.t,fun g O' Rm=>?_,fun g=>?_⟩⟩
 ·have g:ZY W t=false:=by simpa using g
  have hb:Pq W t=2:=by unfold Pq; rw[E' g]
  exact QJ.no hW (by rw[hb]; decide) (hK.step Rm) hb
 have g:ZY W t=true:=by simpa using g
 obtain⟨t0,t1,tn⟩:=YH g;have jV:=wp.a.t;have Wz:=hr.t.ix QL t0 t1;refine⟨Wz,_,hr.t.f t0 t1 (j:=0) rfl,fun g2 Rt Rm=>?_,fun g2=>⟨fun g3 Ry Rm=>?_,fun g3=>?_⟩⟩
 ·have g2:(Q8 W t).state≠2:=by simpa[Q8] using g2
  have hb:Pq W t=6:=by unfold Pq; rw[C' (by rw[g]; decide),E' g2]
  exact QJ.no hW (by rw[hb]; decide) (hK.step Rm) hb
 ·have g2:¬(Q8 W t).state≠2:=by simpa[Q8] using g2
  have bH:¬QH W=true:=fun hr=>by rw[E' hr] at g3; simp at g3
  have hb:Pq W t=10:=by unfold Pq; rw[C' (by rw[g]; decide),C' g2,E' (by simpa using bH)]
  rw[C' bH];exact QJ.no hW (by rw[hb]; decide) (hK.step Rm) hb
 have g2:¬(Q8 W t).state≠2:=by simpa[Q8] using g2
 have bH:QH W=true:=Ir fun hr=>by rw[C' hr] at g3; simp at g3
 have hb:Pq W t=0:=by unfold Pq; rw[C' (by rw[g]; decide),C' g2,C' (by rw[bH]; decide)]
 have Bd5:(Q8 W t).state=2:=by simpa using g2
 obtain⟨_,_,_,sf,_,_⟩:=zl2 hW hb;obtain⟨hu,c0,c1⟩:=sf.w.t t t0 Qo tn;refine⟨Wz,_,hr.t.f t0 t1 (j:=2) rfl,_,Oa hr jV,fun g4=>?_,fun g4=>?_⟩
 ·have g4:zhf W (Q8 W t).R9>0:=Ot g4;have hC:Pb W t=Pe W (Qv W (Q8 W t).group (Q8 W t).mask):=E' g4;obtain⟨d0,d1,_⟩:=Lk wp.a (Q8 W t).group (Q8 W t).mask;refine⟨Wz,_,hr.t.f t0 t1 (j:=1) rfl,Wz,_,hr.t.f t0 t1 (j:=4) rfl,_,XH hr wp.a.c2 wp.a.tree hu,_,MT hr wp.a (zpq wp),Wz,_,hr.t.f t0 t1 (j:=1) rfl,fun RR SK kK=>?_⟩;have mF:=hK.step SK;have Rn:=Uh mF.own sf (I3 _) (by simp only[Qn]; decide) (t:=t) (g:=(Q8 W t).group) (c:=Pe W (Qv W (Q8 W t).group (Q8 W t).mask)) t0 Qo tn hu d0 d1;refine I4 Rn ?_;rintro e1 Rr ⟨kE,jW⟩;rw[zlk Bd5 (Pe W (Qv W (Q8 W t).group (Q8 W t).mask))] at jW;have dB:=mF.SX jW kK
  have SP:Wk 8 [y,y1] w (RD Rr m'.tO (Int.toNat t*9+0) [I 1]) (IU W t (VH W t (Pe W (Qv W (Q8 W t).group (Q8 W t).mask)))) m':=by
   have:Wk 8 [y,y1] w (RD Rr m'.tO (Int.toNat t*9+0) [I 1]) (IU (IU W t (PH W t (Q8 W t).group (Pe W (Qv W (Q8 W t).group (Q8 W t).mask)))) t (VH W t (Pe W (Qv W (Q8 W t).group (Q8 W t).mask)))) m':=dB.RD (dB.own.AE6 t0 (by rw[V2]; exact t1) (j:=0) (vs:=[I 1]) (x:=VH W t (Pe W (Qv W (Q8 W t).group (Q8 W t).mask))) (by rw[show gi (IU W t (PH W t (Q8 W t).group (Pe W (Qv W (Q8 W t).group (Q8 W t).mask)))).tasks t=_ from F7 t0 t1]; rfl) Qs) LO
   rwa[set_set] at this
  have CF4:Ix m'.tO W.tasks.length t:=by
   have:=dB.rd.t.ix QL t0 (by rw[V2]; exact t1)
   rwa[V2] at this
  refine⟨_,_,_,_,_,_,_,_,_,_,kE,mF.kept jW kK,CF4,zfv dB.own dB.nb t0 (by rw[V2]; exact t1) (j:=0) Qd,fun Sn cU zW=>?_⟩;have e5:Qa (IU W t (VH W t (Pe W (Qv W (Q8 W t).group (Q8 W t).mask)))) m'=Qa W m':=HH _ _ _ _;have hE:Fp W t=Qh (RC (IU W t (VH W t (Pe W (Qv W (Q8 W t).group (Q8 W t).mask)))) (Pe W (Qv W (Q8 W t).group (Q8 W t).mask))):=by unfold Fp; rw[hC]
  have sfV:=zfq sf t0 t1 tn d0 d1;rw[hE];have hlV:(IU W t (VH W t (Pe W (Qv W (Q8 W t).group (Q8 W t).mask)))).IE.length=W.IE.length:=rfl;generalize IU W t (VH W t (Pe W (Qv W (Q8 W t).group (Q8 W t).mask)))=V at SP e5 sfV hlV;have rN:=SP.step cU;have aG:=Zu rN.own d0 (by rw[hlV]; exact d1);rw[e5] at aG;refine I4 aG ?_;rintro e2 Rx ⟨aQ,kR⟩;refine⟨_,_,_,_,_,_,_,_,_,_,aQ,rN.kept kR zW,fun SO lY hs7=>?_⟩;have hK7:=(rN.SX kR zW).step lY;have sH:=Qu hK7.own (sfV.RC d0 (by rw[hlV]; exact d1)).w (by simp only[Qn]; decide) (by simp only[Qn]; decide) hK7.base;refine I4 sH ?_;rintro e3 Sk ⟨m2,fH,hy5⟩;exact⟨_,_,_,_,_,_,_,_,_,_,fH,hK7.kept hy5 hs7,fun W8 rH=>QJ.ok hW hb ((hK7.SX hy5 hs7).step rH)⟩
 ·have g4:¬zhf W (Q8 W t).R9>0:=Ou g4;have hC:Pb W t=(Q8 W t).R9:=C' g4;have d0:=c0;have d1:=c1;refine⟨Wz,_,hr.t.f t0 t1 (j:=1) rfl,fun RR SK kK=>?_⟩;have mF:=hK.step SK;have Rn:=Uh mF.own sf (I3 _) (by simp only[Qn]; decide) (t:=t) (g:=(Q8 W t).group) (c:=(Q8 W t).R9) t0 Qo tn hu d0 d1;refine I4 Rn ?_;rintro e1 Rr ⟨kE,jW⟩;rw[zlk Bd5 ((Q8 W t).R9)] at jW;have dB:=mF.SX jW kK
  have SP:Wk 8 [y,y1] w (RD Rr m'.tO (Int.toNat t*9+0) [I 1]) (IU W t (VH W t ((Q8 W t).R9))) m':=by
   have:Wk 8 [y,y1] w (RD Rr m'.tO (Int.toNat t*9+0) [I 1]) (IU (IU W t (PH W t (Q8 W t).group ((Q8 W t).R9))) t (VH W t ((Q8 W t).R9))) m':=dB.RD (dB.own.AE6 t0 (by rw[V2]; exact t1) (j:=0) (vs:=[I 1]) (x:=VH W t ((Q8 W t).R9)) (by rw[show gi (IU W t (PH W t (Q8 W t).group ((Q8 W t).R9))).tasks t=_ from F7 t0 t1]; rfl) Qs) LO
   rwa[set_set] at this
  have CF4:Ix m'.tO W.tasks.length t:=by
   have:=dB.rd.t.ix QL t0 (by rw[V2]; exact t1)
   rwa[V2] at this
  refine⟨_,_,_,_,_,_,_,_,_,_,kE,mF.kept jW kK,CF4,zfv dB.own dB.nb t0 (by rw[V2]; exact t1) (j:=0) Qd,fun Sn cU zW=>?_⟩;have e5:Qa (IU W t (VH W t ((Q8 W t).R9))) m'=Qa W m':=HH _ _ _ _;have hE:Fp W t=Qh (RC (IU W t (VH W t ((Q8 W t).R9))) ((Q8 W t).R9)):=by unfold Fp; rw[hC]
  have sfV:=zfq sf t0 t1 tn d0 d1;rw[hE];have hlV:(IU W t (VH W t ((Q8 W t).R9))).IE.length=W.IE.length:=rfl;generalize IU W t (VH W t ((Q8 W t).R9))=V at SP e5 sfV hlV;have rN:=SP.step cU;have aG:=Zu rN.own d0 (by rw[hlV]; exact d1);rw[e5] at aG;refine I4 aG ?_;rintro e2 Rx ⟨aQ,kR⟩;refine⟨_,_,_,_,_,_,_,_,_,_,aQ,rN.kept kR zW,fun SO lY hs7=>?_⟩;have hK7:=(rN.SX kR zW).step lY;have sH:=Qu hK7.own (sfV.RC d0 (by rw[hlV]; exact d1)).w (by simp only[Qn]; decide) (by simp only[Qn]; decide) hK7.base;refine I4 sH ?_;rintro e3 Sk ⟨m2,fH,hy5⟩;exact⟨_,_,_,_,_,_,_,_,_,_,fH,hK7.kept hy5 hs7,fun W8 rH=>QJ.ok hW hb ((hK7.SX hy5 hs7).step rH)⟩
end
theorem zda{a b w:Int}(ha:0<=a)(hb:0<=b)(h:a+b<=100000000)(w1:1<=w)(w2:w<=20):Z9 (a+b) w=Z9 a w+Z9 b w:=by
 rw[TT Qo h w1 w2,TT ha Qo w1 w2,TT hb Qo w1 w2,Int.add_mul]
theorem zm2{l w:Int}(h0:0<=l)(h1:l<=Zv w):X8 l w=l:=by
 unfold X8;rw[C' (show ¬Zv w<l by omega)]
 split <;> omega
theorem PN{p q:Nat->Bool}:∀{n:Nat},(∀j,j<n->p j=q j)->VN p n=VN q n
 | 0,_=>rfl
 | n+1,h=>by simp only[VN]; rw[PN fun j hj=>h j Qo,h n Qo]
theorem Pm{p q:Nat->Bool}{v u:Nat->Int}:∀{n:Nat},(∀j,j<n->p j=q j)->(∀j,j<n->p j=true->v j=u j)->QQ p v n=QQ q u n
 | 0,_,_=>rfl
 | n+1,h,hv=>by
  have ih:=Pm (p:=p) (q:=q) (v:=v) (u:=u) (n:=n) (fun j hj=>h j Qo) fun j hj=>hv j Qo
  simp only[QQ];rw[ih,<-h n Qo]
  cases hp:p n with
  | false=>simp
  | true=>
   rw[hv n Qo hp];rcases Zl q u n with ⟨e,_⟩ | ⟨e0,e1,e2,_⟩
   ·rw[e]; simp
   ·rw[hv _ Qo (by rw[h _ Qo]; exact e2)]
theorem Yu{gs:List Zr}(ht:ZX gs):∀g:Int,Q6 gs g=true->∀x∈Z2 gs g,Q6 gs x=true/\x≠0:=
 P3 ht (fun x hx=>by rw[show Z2 gs 0=[] from Zi _ _] at hx; cases hx) fun h hu hz ih x hx=>by
  rw[Yl ht hu hz] at hx;rcases Ij.1 hx with e | e
  ·subst e; exact⟨hu,hz⟩
  ·exact ih x e
def UW(W:Q7)(k c:Int):Prop:=(Qc W (gi W.ID k).parent c).floor<=(Qc W k c).v/\(Qc W k c).v-(Qc W (gi W.ID k).parent c).floor<=Zv (Qc W k c).w
structure H7 (W:Q7) (x:Pi):Prop where
 st:x.state=1\/x.state=2
 g:Q6 W.ID x.group=true
 n:Qf x.nice≠0
 m:Ow x.mask=true
 m0:x.mask≠0
 s:ZF x.sum=true
 u:ZF x.used=true
 l1:0<=x.load
 l2:x.load<=8000000
 f:x.state=1->(Qc W x.group x.R9).floor<=x.v/\x.v-(Qc W x.group x.R9).floor<=Zv (Qf x.nice)
structure zia (W:Q7) (k c:Int):Prop where
 s:ZF (Qc W k c).sum=true
 root:k=0->(Qc W k c).on=false/\(Qc W k c).v=0/\(Qc W k c).w=10
 st:k≠0->(Qc W k c).on=true->UW W k c
structure zuj (W:Q7) (c:Int):Prop where
 b:ZF (gi W.IE c).busy=true
 i:ZF (gi W.IE c).idle=true
 c1 : -1<=(gi W.IE c).cur
 c2:(gi W.IE c).cur<12
 no:(gi W.IE c).cur<0->(gi W.IE c).WS=0
 yes:0<=(gi W.IE c).cur->(gi W.IE c).up=true/\1<=(gi W.IE c).WS/\(gi W.IE c).WS<=149
 q:0<=(gi W.IE c).cur->(Q8 W (gi W.IE c).cur).state=1->(Q8 W (gi W.IE c).cur).R9=c->
  (Q8 W (gi W.IE c).cur).v-(Qc W (Q8 W (gi W.IE c).cur).group c).floor<=Z9 (gi W.IE c).WS (Qf (Q8 W (gi W.IE c).cur).nice)/\
  ∀x∈Z2 W.ID (Q8 W (gi W.IE c).cur).group,UW W x c/\(Qc W x c).v-(Qc W (gi W.ID x).parent c).floor<=Z9 (gi W.IE c).WS (Qc W x c).w
structure PreA (W:Q7):Prop where
 a:WA W
 t:∀t:Int,0<=t->t<12->(Q8 W t).state=0/\Q8 W t=VV\/(Q8 W t).state≠0/\H7 W (Q8 W t)
 l:∀t:Int,0<=t->t<12->(Q8 W t).state≠0->0<=(Q8 W t).R9/\(Q8 W t).R9<(W.IE.length:Int)
 s:∀k c:Int,Q6 W.ID k=true->0<=c->c<(W.IE.length:Int)->zia W k c
structure VI (W:Q7):Prop extends PreA W where
 c:∀c:Int,0<=c->c<(W.IE.length:Int)->zuj W c
def Nr(W:Q7):Prop:=∀t:Int,0<=t->t<12->(Q8 W t).state≠0->Ze (Qv W (Q8 W t).group (Q8 W t).mask) (Q8 W t).R9=true
def zw5(W:Q7):Prop:=∀k c:Int,Q6 W.ID k=true->0<=c->c<(W.IE.length:Int)->ZN W k c 20=true->Zf W k c 20<=(Qc W k c).floor
theorem Dl{v f k:Int}(hv:ZF v=true)(hf:ZF f=true):PJ v f k=true↔f<=v/\v-f<=Zv k:=by
 have h1:=Y2.1 hv;have h2:=Y2.1 hf;have hw:IntKind.i64.wrap (v-f)=v-f:=Qq.wrap (k:=.i64) ⟨by show _<=v-f; omega,by show v-f<=_; omega⟩;unfold PJ;rw[hw];simp
theorem Uc{W:Q7}(wp:XA W):Nr W:=fun t t0 t1 n=>by
 rcases wp.t t t0 t1 with h | h
 ·exact Is h.1 n
 ·exact h.2.c
theorem GT{W:Q7}(wp:XA W){k c:Int}(hu:Q6 W.ID k=true)(c0:0<=c)(c1:c<(W.IE.length:Int)):Pu W k c:=by
 obtain⟨u0,u1,_⟩:=wp.a.u hu;have hl:=wp.a.sl hu;exact wp.s k c u0 u1 c0 Qo
theorem Xa{W:Q7}(wp:XA W):VI W:=by
 have qB:∀k c:Int,Q6 W.ID k=true->k≠0->0<=c->c<(W.IE.length:Int)->(Qc W k c).on=true->UW W k c:=fun k c hu hz c0 c1 ho=>by
  have h1:=GT wp hu c0 c1;have h2:=GT wp (wp.a.up hu hz) c0 c1;exact(Dl h1.v h2.f).1 (h1.st hz ho)
 refine⟨⟨wp.a,fun t t0 t1=>?_,fun t t0 t1 n=>?_,fun k c hu c0 c1=>?_⟩,fun c c0 c1=>?_⟩
 ·rcases wp.t t t0 t1 with h | ⟨n,h⟩
  ·exact .inl h
  ·refine .inr ⟨n,h.st,h.g,h.n,h.m,h.m0,h.s,h.u,h.l1,h.l2,fun h1=>?_⟩;obtain⟨d0,d1⟩:=Kn wp.a h.c;exact(Dl h.v (GT wp h.g d0 d1).f).1 (h.f h1)
 ·rcases wp.t t t0 t1 with h | ⟨_,h⟩
  ·exact Is h.1 n
  ·exact Kn wp.a h.c
 ·have h:=GT wp hu c0 c1;exact⟨h.s,h.root,fun hz ho=>qB k c hu hz c0 c1 ho⟩
 ·have h:=wp.c c c0 c1;have hl:=wp.a.t;refine⟨h.b,h.i,h.c1,by have:=h.c2; omega,h.no,fun h0=>⟨(h.yes h0).1,(h.yes h0).2.1,(h.yes h0).2.2.1⟩,fun h0 h1 h2=>?_⟩;obtain⟨_,_,_,_,mR,BV6⟩:=h.yes h0;unfold P7 at BV6;rw[A',Ik] at BV6;refine⟨BV6.1,fun x hx=>?_⟩
  have hu:Q6 W.ID (Q8 W (gi W.IE c).cur).group=true:=by
   rcases wp.t _ h0 (by have:=h.c2; omega) with hz | ⟨_,hz⟩
   ·rw[hz.1] at h1; cases h1
   ·exact hz.g
  obtain⟨xu,xz⟩:=Yu wp.a.tree _ hu x hx;unfold ZE Uj at mR;rw[A',h2,List.all_eq_true] at mR;have hs:=BV6.2;unfold VU at hs;rw[List.all_eq_true] at hs;exact⟨qB x c xu xz c0 c1 (mR.2 x hx),Ot (hs x hx)⟩
structure DE (c:Int) (W W':Q7):Prop where
 n:W'.now=W.now
 t:W'.tasks=W.tasks
 g:QX W.ID W'.ID
 len:W'.IE.length=W.IE.length
 b:∀i:Int,0<=i->(gi W'.ID i).IT=(gi W.ID i).IT
 e:∀k d:Int,0<=k->0<=d->d≠c->Qc W' k d=Qc W k d
 cp:∀d:Int,0<=d->d≠c->gi W'.IE d=gi W.IE d
theorem DE.refl(c:Int)(W:Q7):DE c W W:=⟨rfl,rfl,QX.refl _,rfl,fun _ _=>rfl,fun _ _ _ _ _=>rfl,fun _ _ _=>rfl⟩
theorem DE.trans{c:Int}{A B C:Q7}(h:DE c A B)(k:DE c B C):DE c A C:=⟨k.n.trans h.n,k.t.trans h.t,h.g.trans k.g,k.len.trans h.len,fun i hi=>(k.b i hi).trans (h.b i hi),fun i d hi hd hn=>(k.e i d hi hd hn).trans (h.e i d hi hd hn),fun d hd hn=>(k.cp d hd hn).trans (h.cp d hd hn)⟩
theorem EJ{W:Q7}{g c:Int}{s:K0}(h0:0<=g)(h1:g<(W.ID.length:Int))(c0:0<=c)(c1:c<((gi W.ID g).IF.length:Int)):DE c W (RM W g c s):=
 ⟨rfl,rfl,Xu h0 h1,rfl,fun i hi=>zbz h0 h1 hi,fun k d hk hd hn=>by
  rw[Jf h0 h1 c0 c1 hk hd,C' fun h=>hn h.2.symm],fun _ _ _=>rfl⟩
theorem zg6{W:Q7}{c:Int}(c0:0<=c)(c1:c<(W.IE.length:Int)):DE c W (RC W c):=
 ⟨rfl,rfl,QX.refl _,H',fun _ _=>rfl,fun _ _ _ _ _=>rfl,fun d d0 hn=>by
  show gi (W.IE.set c.toNat (Xx (gi W.IE c))) d=_;rw[QC _ _ c0 c1 d0,C' fun h=>hn h.symm]⟩
section
variable {c d:Int}{W W':Q7}
theorem TE(ht:W'.tasks=W.tasks)(hT:QX W.ID W'.ID){g:Int}(h:∀j:Nat,j<W.ID.length->1<=j->(gi W.ID (j:Int)).used=true->(gi W.ID (j:Int)).parent=g->(Qc W' (j:Int) d).on=(Qc W (j:Int) d).on):QU W' g d=QU W g d:=by
 unfold QU;rw[ht,hT.len]
 congr 1
 ·refine PN fun j _=>?_
  unfold TY;rw[ht]
 ·refine PN fun j hj=>?_
  unfold J1;rw[hT.u,hT.p]
  by_cases h1:1<=j
  ·cases hu:(gi W.ID (j:Int)).used with
   | false=>simp
   | true=>
    by_cases hp:(gi W.ID (j:Int)).parent=g
    ·rw[h j hj h1 hu hp]
    ·rw[show ((gi W.ID (j:Int)).parent==g)=false from beq_false_of_ne hp]; simp
  ·simp[h1]
theorem zm8(ht:W'.tasks=W.tasks)(hT:QX W.ID W'.ID)(hl:W.ID.length=8)(h:∀k:Int,0<=k->(Qc W' k d).on=(Qc W k d).on)(g:Int){j:Nat}(hj:j<20):Zm W' g d j=Zm W g d j:=by
 unfold Zm;split
 ·unfold TY; rw[ht]
 ·unfold J1;rw[hT.u,hT.p,h _ Qo]
theorem zcf(ht:W'.tasks=W.tasks)(h:∀k:Int,0<=k->(Qc W' k d).v=(Qc W k d).v)(j:Nat):Zn W' d j=Zn W d j:=by
 unfold Zn;split
 ·unfold Q8; rw[ht]
 ·rw[h _ Qo]
theorem E0(ht:W'.tasks=W.tasks)(hT:QX W.ID W'.ID)(hl:W.ID.length=8)(h:∀k:Int,0<=k->(Qc W' k d).on=(Qc W k d).on)(hv:∀k:Int,0<=k->(Qc W' k d).v=(Qc W k d).v)(g:Int):ZN W' g d 20=ZN W g d 20/\Zf W' g d 20=Zf W g d 20:=by
 have e:QQ (Zm W' g d) (Zn W' d) 20=QQ (Zm W g d) (Zn W d) 20:=Pm (fun j hj=>zm8 ht hT hl h g hj) fun j _ _=>zcf ht hv j
 unfold ZN Zf;rw[e];refine⟨rfl,?_⟩;split
 ·rfl
 ·exact zcf ht hv _
theorem XN(ht:W'.tasks=W.tasks)(t:Int):Q8 W' t=Q8 W t:=by unfold Q8; rw[ht]
theorem VE(hT:QX W.ID W'.ID)(g:Int):Z2 W'.ID g=Z2 W.ID g:=hT.path 3 g
theorem zd5{g:Int}(hb:(gi W'.ID g).IT=(gi W.ID g).IT):V4 W' g d=V4 W g d:=by unfold V4; rw[hb]
end
theorem zki{W:Q7}{g c:Int}{j:Nat}(hj:j<20)(h:Zm W g c j=true):ZN W g c 20=true/\Zf W g c 20<=Zn W c j:=by
 unfold ZN Zf;rcases Zl (Zm W g c) (Zn W c) 20 with ⟨_,h2⟩ | ⟨h1,_,_,h4,_⟩
 ·rw[h2 j hj] at h; cases h
 ·rw[C' Qo];exact⟨Ii h1,h4 j hj h⟩
theorem zmc{W:Q7}(ha:WA W){t:Int}(t0:0<=t)(t1:t<12)(hs:(Q8 W t).state=1):ZN W (Q8 W t).group (Q8 W t).R9 20=true/\Zf W (Q8 W t).group (Q8 W t).R9 20<=(Q8 W t).v:=by
 have e:((t.toNat:Nat):Int)=t:=Qo
 have h:Zm W (Q8 W t).group (Q8 W t).R9 t.toNat=true:=by
  rw[VC Qo];unfold TY;rw[e];show (((Q8 W t).state==1)&&((Q8 W t).group==_)&&((Q8 W t).R9==_))=true;rw[hs]; simp
 have:=zki Qo h
 rwa[EC Qo,e] at this
theorem zii{W:Q7}(ha:WA W){k c:Int}(hu:Q6 W.ID k=true)(hz:k≠0)(ho:(Qc W k c).on=true):ZN W (gi W.ID k).parent c 20=true/\Zf W (gi W.ID k).parent c 20<=(Qc W k c).v:=by
 obtain⟨k0,k1,ku⟩:=Q5.1 hu;have hl:=ha.gl;have e:((k.toNat:Nat):Int)=k:=Qo
 have h:Zm W (gi W.ID k).parent c (12+k.toNat)=true:=by
  rw[JK];unfold J1;rw[e,ku,ho];simp;omega
 have:=zki Qo h
 rwa[EB,e] at this
structure LC (c:Int) (W W':Q7):Prop where
 o:DE c W W'
 cs:W'.IE=W.IE
 f:∀k d:Int,0<=k->0<=d->(Qc W' k d).floor=(Qc W k d).floor
 w:∀k d:Int,0<=k->0<=d->(Qc W' k d).w=(Qc W k d).w
 s:∀k d:Int,0<=k->0<=d->(Qc W' k d).sum=(Qc W k d).sum
 r:∀d:Int,0<=d->Qc W' 0 d=Qc W 0 d
 v:∀k d:Int,Q6 W.ID k=true->k≠0->0<=d->UW W k d->(Qc W' k d).v=(Qc W k d).v
theorem LC.refl(c:Int)(W:Q7):LC c W W:=⟨DE.refl _ _,rfl,fun _ _ _ _=>rfl,fun _ _ _ _=>rfl,fun _ _ _ _=>rfl,fun _ _=>rfl,fun _ _ _ _ _ _=>rfl⟩
theorem LC.st{c:Int}{W W':Q7}(ht:ZX W.ID)(h:LC c W W'){k d:Int}(hu:Q6 W.ID k=true)(hz:k≠0)(d0:0<=d)(hs:UW W k d):UW W' k d:=by
 have hp:=(Q5.1 (Y3 ht hu hz).1).1;have k0:=(Q5.1 hu).1;unfold UW;rw[h.o.g.p,h.f _ d hp d0,h.v k d hu hz d0 hs,h.w k d k0 d0];exact hs
theorem LC.trans{c:Int}{A B C:Q7}(ht:ZX A.ID)(h:LC c A B)(k:LC c B C):LC c A C:=
 ⟨h.o.trans k.o,k.cs.trans h.cs,fun i d a b=>(k.f i d a b).trans (h.f i d a b),fun i d a b=>(k.w i d a b).trans (h.w i d a b),fun i d a b=>(k.s i d a b).trans (h.s i d a b),fun d a=>(k.r d a).trans (h.r d a),fun i d hu hz d0 hs=>by
  rw[k.v i d (by rw[h.o.g.dT]; exact hu) hz d0 (h.st ht hu hz d0 hs),h.v i d hu hz d0 hs]⟩
theorem VI.lc{c:Int}{W W':Q7}(p:VI W)(h:LC c W W')(ha:WA W')(hon:∀k d:Int,Q6 W.ID k=true->k≠0->0<=d->d<(W.IE.length:Int)->(Qc W' k d).on=true->UW W' k d):VI W':=by
 have et:∀t,Q8 W' t=Q8 W t:=XN h.o.t;refine⟨⟨ha,fun t t0 t1=>?_,fun t t0 t1 n=>?_,fun k d hu d0 d1=>?_⟩,fun d d0 d1=>?_⟩
 ·rw[et];rcases p.t t t0 t1 with hz | ⟨n,hx⟩
  ·exact .inl hz
  ·refine .inr ⟨n,hx.st,by rw[h.o.g.dT]; exact hx.g,hx.n,hx.m,hx.m0,hx.s,hx.u,hx.l1,hx.l2,fun h1=>?_⟩;rw[h.f _ _ (Q5.1 hx.g).1 (p.l t t0 t1 n).1];exact hx.f h1
 ·rw[et] at n ⊢;rw[h.o.len];exact p.l t t0 t1 n
 ·rw[h.o.g.dT] at hu;rw[h.cs] at d1;have hs:=p.s k d hu d0 d1;have k0:=(Q5.1 hu).1;refine⟨by rw[h.s k d k0 d0]; exact hs.s,fun hz=>?_,fun hz ho=>hon k d hu hz d0 d1 ho⟩;subst hz;rw[h.r d d0];exact hs.root rfl
 ·rw[h.cs] at d1;have hc:=p.c d d0 d1;refine⟨by rw[h.cs]; exact hc.b,by rw[h.cs]; exact hc.i,by rw[h.cs]; exact hc.c1,by rw[h.cs]; exact hc.c2,by rw[h.cs]; exact hc.no,by rw[h.cs]; exact hc.yes,?_⟩;rw[h.cs];simp only[et];intro h0 h1 h2;obtain⟨q1,q2⟩:=hc.q h0 h1 h2
  have hu:Q6 W.ID (Q8 W (gi W.IE d).cur).group=true:=by
   rcases p.t _ h0 hc.c2 with hz | ⟨_,hx⟩
   ·rw[hz.1] at h1; cases h1
   ·exact hx.g
  refine⟨by rw[h.f _ d (Q5.1 hu).1 d0]; exact q1,fun x hx=>?_⟩;rw[VE h.o.g] at hx;obtain⟨xu,xz⟩:=Yu p.a.tree _ hu x hx;obtain⟨s1,s2⟩:=q2 x hx;refine⟨h.st p.a.tree xu xz d0 s1,?_⟩;rw[h.o.g.p,h.v x d xu xz d0 s1,h.f _ d (Q5.1 (p.a.up xu xz)).1 d0,h.w x d (Q5.1 xu).1 d0];exact s2
def V6(W:Q7)(c k:Int):Prop:=(Qc W k c).on=(QU W k c && !V4 W k c)
theorem zps{W:Q7}(p:VI W){k c d:Int}(hu:Q6 W.ID k=true)(hd:dep 3 W.ID k=d)(d1:1<=d)(c0:0<=c)(c1:c<(W.IE.length:Int)) :
  LC c W (RM W k c (Yo W k c))/\VI (RM W k c (Yo W k c))/\V6 (RM W k c (Yo W k c)) c k/\∀g:Int,Q6 W.ID g=true->g≠k->(gi W.ID k).parent≠g->V6 W c g->V6 (RM W k c (Yo W k c)) c g:=by
 have hz:k≠0:=fun e=>by subst e; rw[Yc] at hd; omega
 obtain⟨u0,u1,_⟩:=Q5.1 hu;have hl:=p.a.gl;have hsl:=p.a.sl hu;have uQ:c<((gi W.ID k).IF.length:Int):=Qo;have hpu:=p.a.up hu hz
 have hpk:(gi W.ID k).parent≠k:=fun e=>by
  obtain⟨_,_,_,n,e1,e2,_⟩:=Y3 p.a.tree hu hz;rw[e] at e2; omega
 have e:∀{i j:Int},0<=i->0<=j->Qc (RM W k c (Yo W k c)) i j=if k=i/\c=j then Yo W k c else Qc W i j:=fun hi hj=>Jf u0 u1 c0 uQ hi hj
 have ev:UW W k c->(Yo W k c).v=(Qc W k c).v:=fun hs=>by
  simp only[Yo];split
  ·rw[zm2 (by have:=hs.1; omega) hs.2]; omega
  ·rfl
 have eq0:∀{i j:Int},k=i/\c=j->(Yo W k c).floor=(Qc W i j).floor/\(Yo W k c).w=(Qc W i j).w/\(Yo W k c).sum=(Qc W i j).sum:=fun h=>by
  obtain⟨rfl,rfl⟩:=h; exact⟨rfl,rfl,rfl⟩
 have hT:=Xu (W:=W) (g:=k) (c:=c) (s:=Yo W k c) u0 u1
 have lc:LC c W (RM W k c (Yo W k c)):=by
  refine⟨EJ u0 u1 c0 uQ,rfl,fun i j hi hj=>?_,fun i j hi hj=>?_,fun i j hi hj=>?_,fun j hj=>?_,fun i j iu iz hj hs=>?_⟩
  ·rw[e hi hj]; split
   ·rename_i h; exact(eq0 h).1
   ·rfl
  ·rw[e hi hj]; split
   ·rename_i h; exact(eq0 h).2.1
   ·rfl
  ·rw[e hi hj]; split
   ·rename_i h; exact(eq0 h).2.2
   ·rfl
  ·rw[e (I3 0) hj,C' fun h=>hz h.1]
  ·rw[e (Q5.1 iu).1 hj]; split
   ·rename_i h;obtain⟨rfl,rfl⟩:=h;exact ev hs
   ·rfl
 have act:∀g:Int,(gi W.ID k).parent≠g->QU (RM W k c (Yo W k c)) g c=QU W g c:=fun g hg=>by
  refine TE (W:=W) (W':=RM W k c (Yo W k c)) rfl hT fun j hj _ _ hp=>?_
  rw[e Qo c0,C'];rintro⟨h,_⟩;exact hg (by rw[h]; exact hp)
 have hoe:V6 (RM W k c (Yo W k c)) c k:=by
  unfold V6;rw[e u0 c0,E' ⟨rfl,rfl⟩,act k hpk,Lb u0 u1 u0];rfl
 refine⟨lc,p.lc lc (p.a.RM u0 Qo) fun i j iu iz j0 j1 ho=>?_,hoe,fun g gu gk hg h=>?_⟩
 ·by_cases h:k=i/\c=j
  ·obtain⟨rfl,rfl⟩:=h
   by_cases hs:UW W k c
   ·exact lc.st p.a.tree hu hz c0 hs
   ·have Cs9:(Qc W k c).on=false:=by
     cases hb:(Qc W k c).on with
     | false=>rfl
     | true=>exact Is ((p.s k c hu c0 c1).st hz hb) hs
    rw[e u0 c0,E' ⟨rfl,rfl⟩] at ho;have ho:(QU W k c && !V4 W k c)=true:=ho;unfold UW;rw[hT.p,e u0 c0,E' ⟨rfl,rfl⟩,lc.f _ c (Q5.1 hpu).1 c0];simp only[Yo];rw[E' ⟨ho,Cs9⟩];have:=ZW ((Qc W k c).v-(Qc W (gi W.ID k).parent c).floor) (Qc W k c).w;omega
  ·rw[e (Q5.1 iu).1 j0,C' h] at ho;exact lc.st p.a.tree iu iz j0 ((p.s i j iu j0 j1).st iz ho)
 ·unfold V6;have g0:=(Q5.1 gu).1;rw[e g0 c0,C' fun h=>gk h.1.symm,act g hg,Lb u0 u1 g0];exact h
theorem zgz{W:Q7}(p:VI W){c d:Int}(d1:1<=d)(c0:0<=c)(c1:c<(W.IE.length:Int))(hI:∀g:Int,Q6 W.ID g=true->d<dep 3 W.ID g->V6 W c g):∀k:Nat,k<=8->
  LC c W (ZV W c d k)/\VI (ZV W c d k)/\∀g:Int,Q6 W.ID g=true->d<dep 3 W.ID g\/dep 3 W.ID g=d/\g<(k:Int)->V6 (ZV W c d k) c g
 | 0,_=>⟨LC.refl _ _,p,fun g gu h=>hI g gu (by
   rcases h with h | h
   ·exact h
   ·have:=(Q5.1 gu).1;have:=h.2;omega)⟩
 | k+1,hk=>by
  obtain⟨a,b,ih⟩:=zgz p d1 c0 c1 hI k Qo;have hl:=b.a.gl;have hT:=a.o.g;simp only[ZV];split
  ·rename_i hc;have hu:Q6 (ZV W c d k).ID (k:Int)=true:=Q5.2 ⟨Qo,Qo,hc.1⟩;obtain⟨l1,l2,l3,l4⟩:=zps b hu hc.2 d1 c0 (c:=c) (by rw[a.cs]; exact c1);refine⟨a.trans p.a.tree l1,l2,fun g gu h=>?_⟩
   by_cases e:g=(k:Int)
   ·subst e; exact l3
   ·have hkz:(k:Int)≠0:=fun e=>by have:=hc.2; rw[e,Yc] at this; omega
    obtain⟨_,_,_,n,e1,e2,_⟩:=Y3 b.a.tree hu hkz;refine l4 g (by rw[hT.dT]; exact gu) e (fun hp=>?_) (ih g gu ?_)
    ·rw[hp,hT.dep] at e2;have:=hc.2;omega
    ·rcases h with h | h
     ·exact .inl h
     ·exact .inr ⟨h.1,by have:=h.2; omega⟩
  ·rename_i hc;refine⟨a,b,fun g gu h=>ih g gu ?_⟩;rcases h with h | h
   ·exact .inl h
   ·refine .inr ⟨h.1,?_⟩
    by_cases e:g=(k:Int)
    ·subst e;exact Is ⟨by rw[hT.u]; exact(Q5.1 gu).2.2,by rw[hT.dep]; exact h.1⟩ hc
    ·have:=h.2;omega
theorem zcd{W:Q7}(p:VI W){c:Int}(c0:0<=c)(c1:c<(W.IE.length:Int)):LC c W (QR W c)/\VI (QR W c)/\∀g:Int,Q6 W.ID g=true->g≠0->V6 (QR W c) c g:=by
 have key:∀j:Nat,j<=3->LC c W (XI W c j)/\VI (XI W c j)/\∀g:Int,Q6 W.ID g=true->3-(j:Int)<dep 3 W.ID g->V6 (XI W c j) c g:=by
  intro j
  induction j with
  | zero=>exact fun _=>⟨LC.refl _ _,p,fun g gu h=>by have:=(Kp p.a gu).2; omega⟩
  | succ j ih=>
   intro hj;obtain⟨a,b,h⟩:=ih Qo;have hT:=a.o.g;obtain⟨a2,b2,h2⟩:=zgz b (c:=c) (d:=3-(j:Int)) Qo c0 (by rw[a.cs]; exact c1) (fun g gu hd=>h g (by rwa[hT.dT] at gu) (by rwa[hT.dep] at hd)) 8 (I8 _);refine⟨a.trans p.a.tree a2,b2,fun g gu hd=>h2 g (by rw[hT.dT]; exact gu) ?_⟩;rw[hT.dep];have:=(Q5.1 gu).2.1;have:=p.a.gl
   by_cases e:dep 3 W.ID g=3-(j:Int)
   ·exact .inr ⟨e,Qo⟩
   ·exact .inl Qo
 obtain⟨a,b,h⟩:=key 3 (I8 _);refine⟨a,b,fun g gu gz=>h g gu ?_⟩;obtain⟨_,_,_,n,e1,_⟩:=Y3 p.a.tree gu gz;omega
theorem AH{W:Q7}(p:VI W):∀c:Nat,c<=W.IE.length->VI (YN W c)/\(YN W c).IE=W.IE
 | 0,_=>⟨p,rfl⟩
 | c+1,hc=>by
  obtain⟨a,e⟩:=AH p c Qo;obtain⟨l,b,_⟩:=zcd a (c:=(c:Int)) Qo (by rw[e]; omega);exact⟨b,l.cs.trans e⟩
theorem VI.BE2{W W':Q7}(p:VI W)(ho:Vb W W')(ha:WA W'):VI W':=by
 have et:∀t,Q8 W' t=Q8 W t:=XN ho.t;have es:∀k d:Int,0<=k->Qc W' k d=Qc W k d:=fun k d hk=>by unfold Qc; rw[ho.s k hk]
 have est:∀k d:Int,Q6 W.ID k=true->k≠0->(UW W' k d↔UW W k d):=fun k d hu hz=>by
  unfold UW;rw[ho.g.p,es _ _ (Q5.1 (p.a.up hu hz)).1,es _ _ (Q5.1 hu).1]
 refine⟨⟨ha,fun t t0 t1=>?_,fun t t0 t1 n=>?_,fun k d hu d0 d1=>?_⟩,fun d d0 d1=>?_⟩
 ·rw[et];rcases p.t t t0 t1 with hz | ⟨n,hx⟩
  ·exact .inl hz
  ·refine .inr ⟨n,hx.st,by rw[ho.g.dT]; exact hx.g,hx.n,hx.m,hx.m0,hx.s,hx.u,hx.l1,hx.l2,fun h1=>?_⟩;rw[es _ _ (Q5.1 hx.g).1];exact hx.f h1
 ·rw[et] at n ⊢;rw[ho.c];exact p.l t t0 t1 n
 ·rw[ho.g.dT] at hu;rw[ho.c] at d1;have hs:=p.s k d hu d0 d1;have k0:=(Q5.1 hu).1;exact⟨by rw[es k d k0]; exact hs.s,by rw[es k d k0]; exact hs.root,fun hz h=>(est k d hu hz).2 (hs.st hz (by rwa[es k d k0] at h))⟩
 ·rw[ho.c] at d1;have hc:=p.c d d0 d1;refine⟨by rw[ho.c]; exact hc.b,by rw[ho.c]; exact hc.i,by rw[ho.c]; exact hc.c1,by rw[ho.c]; exact hc.c2,by rw[ho.c]; exact hc.no,by rw[ho.c]; exact hc.yes,?_⟩;rw[ho.c];simp only[et];intro h0 h1 h2;obtain⟨q1,q2⟩:=hc.q h0 h1 h2
  have hu:Q6 W.ID (Q8 W (gi W.IE d).cur).group=true:=by
   rcases p.t _ h0 hc.c2 with hz | ⟨_,hx⟩
   ·rw[hz.1] at h1; cases h1
   ·exact hx.g
  refine⟨by rw[es _ d (Q5.1 hu).1]; exact q1,fun x hx=>?_⟩;rw[VE ho.g] at hx;obtain⟨xu,xz⟩:=Yu p.a.tree _ hu x hx;obtain⟨s1,s2⟩:=q2 x hx;refine⟨(est x d xu xz).2 s1,?_⟩;rw[ho.g.p,es x d (Q5.1 xu).1,es _ d (Q5.1 (p.a.up xu xz)).1];exact s2
structure FC (c:Int) (W W':Q7):Prop where
 o:DE c W W'
 cs:W'.IE=W.IE
 on:∀k d:Int,0<=k->0<=d->(Qc W' k d).on=(Qc W k d).on
 v:∀k d:Int,0<=k->0<=d->(Qc W' k d).v=(Qc W k d).v
 w:∀k d:Int,0<=k->0<=d->(Qc W' k d).w=(Qc W k d).w
 s:∀k d:Int,0<=k->0<=d->(Qc W' k d).sum=(Qc W k d).sum
 up:∀k d:Int,0<=k->0<=d->(Qc W k d).floor<=(Qc W' k d).floor
 fl:∀k:Int,0<=k->(Qc W' k c).floor=(Qc W k c).floor\/ZN W k c 20=true/\(Qc W' k c).floor=Zf W k c 20
theorem Ee{W:Q7}(ha:WA W){c:Int}(c0:0<=c)(c1:c<(W.IE.length:Int)):∀k:Nat,k<=8->FC c W (Z5 W c k)/\WA (Z5 W c k)/\∀g:Int,Q6 W.ID g=true->g<(k:Int)->ZN W g c 20=true->Zf W g c 20<=(Qc (Z5 W c k) g c).floor
 | 0,_=>⟨⟨DE.refl _ _,rfl,fun _ _ _ _=>rfl,fun _ _ _ _=>rfl,fun _ _ _ _=>rfl,fun _ _ _ _=>rfl,fun _ _ _ _=>I3 _,fun _ _=>.inl rfl⟩,ha,fun g gu h=>by have:=(Q5.1 gu).1; omega⟩
 | k+1,hk=>by
  obtain⟨f,hA,ih⟩:=Ee ha c0 c1 k Qo;have hl:=hA.gl;have hT:=f.o.g;have hb:=E0 f.o.t hT ha.gl (fun i hi=>f.on i c hi c0) (fun i hi=>f.v i c hi c0);simp only[Z5];split
  ·rename_i hc;have hu:Q6 (Z5 W c k).ID (k:Int)=true:=Q5.2 ⟨Qo,Qo,hc.1⟩;have hsl:=hA.sl hu;have uQ:c<((gi (Z5 W c k).ID (k:Int)).IF.length:Int):=by rw[hsl,f.cs]; exact c1
   have e:∀{i j:Int},0<=i->0<=j->Qc (RM (Z5 W c k) (k:Int) c (Ef (Z5 W c k) (k:Int) c)) i j=if (k:Int)=i/\c=j then Ef (Z5 W c k) (k:Int) c else Qc (Z5 W c k) i j:=fun hi hj=>Jf Qo Qo c0 uQ hi hj
   refine⟨⟨f.o.trans (EJ Qo Qo c0 uQ),f.cs,fun i j hi hj=>?_,fun i j hi hj=>?_,fun i j hi hj=>?_,fun i j hi hj=>?_,fun i j hi hj=>?_,fun i hi=>?_⟩,hA.RM Qo Qo,fun g gu hg hB=>?_⟩
   ·rw[e hi hj]; split
    ·rename_i h; obtain⟨rfl,rfl⟩:=h; exact f.on _ _ hi hj
    ·exact f.on i j hi hj
   ·rw[e hi hj]; split
    ·rename_i h; obtain⟨rfl,rfl⟩:=h; exact f.v _ _ hi hj
    ·exact f.v i j hi hj
   ·rw[e hi hj]; split
    ·rename_i h; obtain⟨rfl,rfl⟩:=h; exact f.w _ _ hi hj
    ·exact f.w i j hi hj
   ·rw[e hi hj]; split
    ·rename_i h; obtain⟨rfl,rfl⟩:=h; exact f.s _ _ hi hj
    ·exact f.s i j hi hj
   ·rw[e hi hj]; split
    ·rename_i h; obtain⟨rfl,rfl⟩:=h;have h1:=f.up (k:Int) c hi hj;have h2:=hc.2.2;show _<=Zf (Z5 W c k) (k:Int) c 20;omega
    ·exact f.up i j hi hj
   ·rw[e hi c0]; split
    ·rename_i h; obtain⟨rfl,_⟩:=h;refine .inr ⟨(hb _).1▸hc.2.1,?_⟩;show Zf (Z5 W c k) (k:Int) c 20=_;exact(hb _).2
    ·exact f.fl i hi
   ·have g0:=(Q5.1 gu).1;rw[e g0 c0];split
    ·rename_i h; obtain⟨rfl,_⟩:=h;show _<=Zf (Z5 W c k) (k:Int) c 20;rw[(hb _).2]; exact I3 _
    ·rename_i h;exact ih g gu (by have:g≠(k:Int):=fun e=>h ⟨e.symm,rfl⟩; omega) hB
  ·rename_i hc;refine⟨f,hA,fun g gu hg hB=>?_⟩
   by_cases e:g=(k:Int)
   ·subst e;rw[hT.u,(hb _).1,(hb _).2] at hc
    by_cases h:Zf W (k:Int) c 20>(Qc (Z5 W c k) (k:Int) c).floor
    ·exact Is ⟨(Q5.1 gu).2.2,hB,h⟩ hc
    ·omega
   ·exact ih g gu Qo hB
theorem DE.aW{c d:Int}{W W':Q7}(h:DE c W W')(d0:0<=d)(hd:d≠c)(g:Int):QU W' g d=QU W g d:=
 TE h.t h.g fun j _ _ _ _=>by rw[h.e _ d Qo d0 hd]
theorem DE.line{c:Int}{W W':Q7}(h:DE c W W')(ht:ZX W.ID){t:Int}(hu:Q6 W.ID (Q8 W t).group=true)(d0:0<=(Q8 W t).R9)(hd:(Q8 W t).R9≠c):ZE W' t=ZE W t:=by
 unfold ZE Uj;rw[XN h.t,VE h.g]
 congr 1
 rw[Bool.eq_iff_iff,List.all_eq_true,List.all_eq_true];refine forall_congr' fun x=>forall_congr' fun hx=>?_
 rw[h.e x _ (Q5.1 (Yu ht _ hu x hx).1).1 d0 hd]
structure Dn (W:Q7) (c:Int):Prop where
 on:∀k:Int,Q6 W.ID k=true->k≠0->V6 W c k
 cu:0<=(gi W.IE c).cur->(Q8 W (gi W.IE c).cur).R9=c/\ZE W (gi W.IE c).cur=true
 fl:∀k:Int,Q6 W.ID k=true->ZN W k c 20=true->Zf W k c 20<=(Qc W k c).floor
theorem Dn.oth{c d:Int}{W W':Q7}(h:Dn W d)(p:VI W)(o:DE c W W')(d0:0<=d)(d1:d<(W.IE.length:Int))(hd:d≠c):Dn W' d:=by
 refine⟨fun k hu hz=>?_,fun h0=>?_,fun k hu hB=>?_⟩
 ·rw[o.g.dT] at hu;have k0:=(Q5.1 hu).1;have:=h.on k hu hz;unfold V6 at this ⊢;rw[o.e k d k0 d0 hd,o.aW d0 hd,zd5 (o.b k k0)];exact this
 ·rw[o.cp d d0 hd] at h0 ⊢;rw[XN o.t];obtain⟨h1,h2⟩:=h.cu h0;refine⟨h1,?_⟩
  have hs:(Q8 W (gi W.IE d).cur).state=1:=by
   unfold ZE at h2;rw[A'] at h2;exact Iz h2.1
  have hu:Q6 W.ID (Q8 W (gi W.IE d).cur).group=true:=by
   rcases p.t _ h0 (p.c d d0 d1).c2 with hz | ⟨_,hx⟩
   ·rw[hz.1] at hs; cases hs
   ·exact hx.g
  rw[o.line p.a.tree hu (by rw[h1]; exact d0) (by rw[h1]; exact hd)];exact h2
 ·rw[o.g.dT] at hu;have hb:=E0 (d:=d) o.t o.g p.a.gl (fun i hi=>by rw[o.e i d hi d0 hd]) (fun i hi=>by rw[o.e i d hi d0 hd]) k;rw[hb.1] at hB;rw[hb.2,o.e k d (Q5.1 hu).1 d0 hd];exact h.fl k hu hB
theorem H7.cp{W:Q7}{x:Pi}(h:H7 W x)(cs:List Pf):H7 { W with IE:=cs } x:=⟨h.st,h.g,h.n,h.m,h.m0,h.s,h.u,h.l1,h.l2,h.f⟩
theorem zia.cp{W:Q7}{k c:Int}(h:zia W k c)(cs:List Pf):zia { W with IE:=cs } k c:=⟨h.s,h.root,h.st⟩
theorem PreA.RC{W:Q7}(p:PreA W){c:Int}(c0:0<=c)(c1:c<(W.IE.length:Int)):PreA (RC W c):=by
 have hlen:(YtnclplgaicdapaaGreatDoor.RC W c).IE.length=W.IE.length:=H';refine⟨?_,fun t t0 t1=>?_,fun t t0 t1 n=>?_,fun k d hu d0 d1=>?_⟩
 ·refine p.a.cp H' ?_;rw[zfm H' fun j hj=>?_]
  ·exact p.a.ups
  ·rw[QC _ _ c0 c1 Qo];split
   ·rename_i e; rw[<-e]; rfl
   ·rfl
 ·rcases p.t t t0 t1 with h | h
  ·exact .inl h
  ·exact .inr ⟨h.1,h.2.cp _⟩
 ·rw[hlen]; exact p.l t t0 t1 n
 ·rw[hlen] at d1; exact(p.s k d hu d0 d1).cp _
theorem VI.RC{W:Q7}(p:VI W){c:Int}(c0:0<=c)(c1:c<(W.IE.length:Int)):VI (RC W c):=by
 refine⟨p.toPreA.RC c0 c1,fun d d0 d1=>?_⟩;have hlen:(YtnclplgaicdapaaGreatDoor.RC W c).IE.length=W.IE.length:=H';have kP:gi (YtnclplgaicdapaaGreatDoor.RC W c).IE d=if c=d then Xx (gi W.IE c) else gi W.IE d:=QC _ _ c0 c1 d0;rw[hlen] at d1;have hc:=p.c d d0 d1
 by_cases e:c=d
 ·subst e;rw[E' rfl] at kP;have n1:(Xx (gi W.IE c)).cur = -1:=rfl;exact⟨by rw[kP]; exact hc.b,by rw[kP]; exact hc.i,by rw[kP,n1]; exact I3 _,by rw[kP,n1]; decide,fun _=>by rw[kP]; rfl,fun h=>by rw[kP,n1] at h; omega,fun h=>by rw[kP,n1] at h; omega⟩
 ·rw[C' e] at kP;exact⟨by rw[kP]; exact hc.b,by rw[kP]; exact hc.i,by rw[kP]; exact hc.c1,by rw[kP]; exact hc.c2,by rw[kP]; exact hc.no,by rw[kP]; exact hc.yes,by rw[kP]; exact hc.q⟩
theorem zqz{W:Q7}(p:VI W){c:Int}(c0:0<=c)(c1:c<(W.IE.length:Int)):VI (VG W c)/\DE c W (VG W c)/\Dn (VG W c) c:=by
 obtain⟨l,p1,hon⟩:=zcd p c0 c1;obtain⟨f,hA,pY⟩:=Ee p1.a c0 (c:=c) (by rw[l.cs]; exact c1) 8 (I8 _);have f:FC c (QR W c) (Zt (QR W c) c):=f;have hA:WA (Zt (QR W c) c):=hA;have pY:∀g:Int,Q6 (QR W c).ID g=true->g<((8:Nat):Int)->ZN (QR W c) g c 20=true->Zf (QR W c) g c 20<=(Qc (Zt (QR W c) c) g c).floor:=pY;have hon:∀g:Int,Q6 (QR W c).ID g=true->g≠0->V6 (QR W c) c g:=fun g gu gz=>hon g (by rwa[l.o.g.dT] at gu) gz
 have bW:=p1.a.gl;have sJ:(QR W c).IE.length=W.IE.length:=by rw[l.cs]
 have aL:VG W c=if MO (Zt (QR W c) c) c=true then RC (Zt (QR W c) c) c else Zt (QR W c) c:=rfl;have hO:DE c W (Zt (QR W c) c):=l.o.trans f.o;rw[aL];clear aL;have uQ:c<((QR W c).IE.length:Int):=by rw[sJ]; exact c1
 generalize QR W c=V at p1 hon f hA pY bW sJ hO uQ;generalize Zt V c=F at f hA pY hO;have et:∀t,Q8 F t=Q8 V t:=XN f.o.t;have hT:=f.o.g;have aK:=E0 (d:=c) f.o.t hT bW (fun i hi=>f.on i c hi c0) (fun i hi=>f.v i c hi c0)
 have low:∀k:Int,Q6 V.ID k=true->∀v:Int,(ZN V k c 20=true/\Zf V k c 20<=v)->(Qc V k c).floor<=v->(Qc F k c).floor<=v:=fun k hu v hv hf=>by
  rcases f.fl k (Q5.1 hu).1 with e | ⟨_,e⟩
  ·rw[e]; exact hf
  ·rw[e]; exact hv.2
 have st:∀k d:Int,Q6 V.ID k=true->k≠0->0<=d->(Qc V k d).on=true->UW V k d->UW F k d:=fun k d hu hz d0 ho hs=>by
  have pu:=p1.a.up hu hz;have k0:=(Q5.1 hu).1;have q0:=(Q5.1 pu).1;unfold UW;rw[hT.p,f.v k d k0 d0,f.w k d k0 d0];have hup:=f.up _ d q0 d0;refine⟨?_,by have:=hs.2; omega⟩
  by_cases hd:d=c
  ·subst hd;exact low _ pu _ (zii p1.a hu hz ho) hs.1
  ·rw[f.o.e _ d q0 d0 hd]; exact hs.1
 have pa:PreA F:=by
  refine⟨hA,fun t t0 t1=>?_,fun t t0 t1 n=>?_,fun k d hu d0 d1=>?_⟩
  ·rw[et];rcases p1.t t t0 t1 with hz | ⟨n,hx⟩
   ·exact .inl hz
   ·refine .inr ⟨n,hx.st,by rw[hT.dT]; exact hx.g,hx.n,hx.m,hx.m0,hx.s,hx.u,hx.l1,hx.l2,fun h1=>?_⟩;obtain⟨d0,d1⟩:=p1.l t t0 t1 n;have g0:=(Q5.1 hx.g).1;have hup:=f.up _ _ g0 d0;have hs:=hx.f h1;refine⟨?_,Qo⟩
    by_cases hd:(Q8 V t).R9=c
    ·have hb:=zmc p1.a t0 t1 h1;rw[hd] at hb hs ⊢;exact low _ hx.g _ hb hs.1
    ·rw[f.o.e _ _ g0 d0 hd]; exact hs.1
  ·rw[et] at n ⊢;rw[f.cs];exact p1.l t t0 t1 n
  ·rw[hT.dT] at hu;rw[f.cs] at d1;have hs:=p1.s k d hu d0 d1;have k0:=(Q5.1 hu).1;refine⟨by rw[f.s k d k0 d0]; exact hs.s,fun hz=>?_,fun hz h=>?_⟩
   ·rw[f.on k d k0 d0,f.v k d k0 d0,f.w k d k0 d0]; exact hs.root hz
   ·rw[f.on k d k0 d0] at h;exact st k d hu hz d0 h (hs.st hz h)
 have ptu:∀t:Int,0<=t->t<12->(Q8 V t).state=1->Q6 V.ID (Q8 V t).group=true:=fun t t0 t1 h=>by
  rcases p1.t t t0 t1 with hz | ⟨_,hx⟩
  ·rw[hz.1] at h; cases h
  ·exact hx.g
 have pc:∀d:Int,0<=d->d<(V.IE.length:Int)->(d=c->MO F c=false)->zuj F d:=fun d d0 d1 hg=>by
  have hc:=p1.c d d0 d1;refine⟨by rw[f.cs]; exact hc.b,by rw[f.cs]; exact hc.i,by rw[f.cs]; exact hc.c1,by rw[f.cs]; exact hc.c2,by rw[f.cs]; exact hc.no,by rw[f.cs]; exact hc.yes,?_⟩;rw[f.cs];simp only[et];intro h0 h1 h2;obtain⟨q1,q2⟩:=hc.q h0 h1 h2;have hu:=ptu _ h0 hc.c2 h1;have hup:=f.up _ d (Q5.1 hu).1 d0;refine⟨Qo,fun x hx=>?_⟩;rw[VE hT] at hx;obtain⟨xu,xz⟩:=Yu p1.a.tree _ hu x hx;obtain⟨s1,s2⟩:=q2 x hx;have x0:=(Q5.1 xu).1;have q0:=(Q5.1 (p1.a.up xu xz)).1;have DN4:=f.up _ d q0 d0;refine⟨?_,by rw[hT.p,f.v x d x0 d0,f.w x d x0 d0]; omega⟩
  by_cases hd:d=c
  ·subst hd
   have hl:ZE F (gi V.IE d).cur=true:=by
    have:=hg rfl;unfold MO at this;rw[f.cs,et,Ii h0,h2] at this
    simpa using this
   unfold ZE Uj at hl;rw[et,h2,VE hT,A',List.all_eq_true] at hl;have ho:=hl.2 x hx;rw[f.on x d x0 d0] at ho;exact st x d xu xz d0 ho s1
  ·unfold UW;rw[hT.p,f.o.e x d x0 d0 hd,f.o.e _ d q0 d0 hd];exact s1
 have Bd2:∀k:Int,Q6 F.ID k=true->k≠0->V6 F c k:=fun k hu hz=>by
  rw[hT.dT] at hu;have k0:=(Q5.1 hu).1;have:=hon k hu hz;unfold V6 at this ⊢;rw[f.on k c k0 c0,TE f.o.t hT fun j _ _ _ _=>f.on _ c Qo c0,zd5 (f.o.b k k0)];exact this
 have CR4:∀k:Int,Q6 F.ID k=true->ZN F k c 20=true->Zf F k c 20<=(Qc F k c).floor:=fun k hu hB=>by
  rw[hT.dT] at hu;rw[(aK k).1] at hB;rw[(aK k).2];exact pY k hu (by have:=(Q5.1 hu).2.1; omega) hB
 split
 ·rename_i hg;have cF:c<(F.IE.length:Int):=by rw[f.cs]; exact uQ
  have kP:∀d:Int,0<=d->gi (RC F c).IE d=if c=d then Xx (gi F.IE c) else gi F.IE d:=fun d d0=>QC _ _ c0 cF d0
  have hlen:(RC F c).IE.length=F.IE.length:=H';refine⟨⟨pa.RC c0 cF,fun d d0 d1=>?_⟩,hO.trans (zg6 c0 cF),Bd2,fun h0=>?_,CR4⟩
  ·rw[hlen] at d1
   by_cases e:c=d
   ·subst e;have hc:=p1.c c c0 uQ;have e1:gi (RC F c).IE c=Xx (gi V.IE c):=by rw[kP c c0,E' rfl,f.cs]
    have n1:(Xx (gi V.IE c)).cur = -1:=rfl;exact⟨by rw[e1]; exact hc.b,by rw[e1]; exact hc.i,by rw[e1,n1]; exact I3 _,by rw[e1,n1]; decide,fun _=>by rw[e1]; rfl,fun h=>by rw[e1,n1] at h; omega,fun h=>by rw[e1,n1] at h; omega⟩
   ·have hc:=pc d d0 (by rw[<-f.cs]; exact d1) fun h=>Is h.symm e
    have e1:gi (RC F c).IE d=gi F.IE d:=by rw[kP d d0,C' e]
    exact⟨by rw[e1]; exact hc.b,by rw[e1]; exact hc.i,by rw[e1]; exact hc.c1,by rw[e1]; exact hc.c2,by rw[e1]; exact hc.no,by rw[e1]; exact hc.yes,by rw[e1]; exact hc.q⟩
  ·rw[kP c c0,E' rfl] at h0;have h0:(0:Int)<=-1:=h0;omega
 ·rename_i hg;have hg:MO F c=false:=by simpa using hg
  refine⟨⟨pa,fun d d0 d1=>pc d d0 (by rw[<-f.cs]; exact d1) fun _=>hg⟩,hO,Bd2,fun h0=>?_,CR4⟩;unfold MO at hg;rw[Ii h0,Bool.true_and,I0] at hg;exact⟨by simpa using hg.1,by simpa using hg.2⟩
theorem zhu{W:Q7}(p:VI W):∀c:Nat,c<=W.IE.length->VI (JO W c)/\(JO W c).IE.length=W.IE.length/\(JO W c).tasks=W.tasks/\QX W.ID (JO W c).ID/\∀d:Int,0<=d->d<(c:Int)->Dn (JO W c) d
 | 0,_=>⟨p,rfl,rfl,QX.refl _,fun d a b=>by omega⟩
 | c+1,hc=>by
  obtain⟨a,e,et,eg,ih⟩:=zhu p c Qo;obtain⟨p1,o,dn⟩:=zqz a (c:=(c:Int)) Qo (by rw[e]; omega);refine⟨p1,o.len.trans e,o.t.trans et,eg.trans o.g,fun d d0 d1=>?_⟩
  by_cases h:d=(c:Int)
  ·subst h; exact dn
  ·exact(ih d d0 Qo).oth a o d0 (by rw[e]; omega) h
theorem zno{K:Int}{W:Q7}(sw:SW K W)(p:VI W)(hK:0<=K):VI (Qh W)/\Fr W (Qh W)/\∀d:Int,0<=d->d<(W.IE.length:Int)->Dn (Qh W) d:=by
 obtain⟨a,e⟩:=AH p W.IE.length (I8 _);obtain⟨s1,_⟩:=Oy (F:=K) (K:=K+Qn) (sw.sf.mono (I3 _) (by simp only[Qn]; omega)) (I3 _) W.IE.length (I8 _);obtain⟨s2,b2⟩:=TL s1 8 (I8 _);have p2:=a.BE2 b2 s2.w.a;have e2:(YX (YN W W.IE.length) 8).IE.length=W.IE.length:=by rw[b2.c,e]
 obtain⟨p3,e3,_,_,dn⟩:=zhu p2 W.IE.length (by rw[e2]; exact I8 _);exact⟨p3,(Tq sw hK).2,dn⟩
theorem zvv{K:Int}{W:Q7}(sw:SW K W)(hK:K<=100000000000000000)(p:VI W)(hl:Nr W)(dn:∀d:Int,0<=d->d<(W.IE.length:Int)->Dn W d):XA W/\zw5 W:=by
 have tm:∀k c:Int,Q6 W.ID k=true->0<=c->c<(W.IE.length:Int)->ZF (Qc W k c).floor=true/\ZF (Qc W k c).v=true:=fun k c hu c0 c1=>by
  have:=sw.s k c hu c0 c1;exact⟨Y2.2 Qo,Y2.2 Qo⟩
 have tv:∀t:Int,0<=t->t<12->ZF (Q8 W t).v=true:=fun t t0 t1=>by
  have:=sw.tv t t0 t1;exact Y2.2 Qo
 refine⟨⟨p.a,fun t t0 t1=>?_,fun k c k0 k1 c0 c1=>?_,fun c c0 c1=>?_⟩,fun k c hu c0 c1 hB=>(dn c c0 c1).fl k hu hB⟩
 ·rcases p.t t t0 t1 with hz | ⟨n,hx⟩
  ·exact .inl hz
  ·obtain⟨d0,d1⟩:=p.l t t0 t1 n;exact .inr ⟨n,hx.st,hx.g,hx.n,hx.m,hx.m0,tv t t0 t1,hx.s,hx.u,hx.l1,hx.l2,hl t t0 t1 n,fun h1=>(Dl (tv t t0 t1) (tm _ _ hx.g d0 d1).1).2 (hx.f h1)⟩
 ·have bW:=p.a.gl
  have hu:Q6 W.ID k=true:=by
   cases hb:(gi W.ID k).used with
   | true=>exact Q5.2 ⟨k0,Qo,hb⟩
   | false=>
    have:=((p.a.grp k k0 k1).1 hb).l;omega
  have hsl:=p.a.sl hu;have c1:c<(W.IE.length:Int):=Qo;have hs:=p.s k c hu c0 c1;have ht:=tm k c hu c0 c1;have hw:=sw.s k c hu c0 c1;exact⟨ht.1,ht.2,hs.s,hw.2.2.2.2.1,hw.2.2.2.2.2,hs.root,fun hz=>(dn c c0 c1).on k hu hz,fun hz ho=>(Dl ht.2 (tm _ c (p.a.up hu hz) c0 c1).1).2 (hs.st hz ho)⟩
 ·have hc:=p.c c c0 c1;have jV:=p.a.t;refine⟨hc.b,hc.i,hc.c1,by have:=hc.c2; omega,hc.no,fun h0=>?_⟩;obtain⟨y1,y2,y3⟩:=hc.yes h0;obtain⟨z1,z2⟩:=(dn c c0 c1).cu h0
  have hs:(Q8 W (gi W.IE c).cur).state=1:=by
   unfold ZE at z2;rw[A'] at z2;exact Iz z2.1
  obtain⟨q1,q2⟩:=hc.q h0 hs z1;refine⟨y1,y2,y3,z1,z2,?_⟩;unfold P7 VU;rw[A',List.all_eq_true];exact⟨Ii q1,fun x hx=>Ii (q2 x hx).2⟩
theorem YC{α β:Type}[Inhabited α]{f:α->β}(l:List α)(k:Int){x:α}(h:f x=f (gi l k))(i:Int):f (gi (l.set k.toNat x) i)=f (gi l i):=by
 unfold gi at *;simp only[List.getD_eq_getElem?_getD,List.getElem?_set] at *
 by_cases e:k.toNat=i.toNat
 ·rw[E' e];split
  ·rw[<-e]; simpa using h
  ·rename_i hl;have:l[i.toNat]? = none:=List.getElem?_eq_none_iff.2 Qo;rw[this]
 ·rw[C' e]
structure VL (W W':Q7):Prop where
 g:QX W.ID W'.ID
 m:∀i:Int,(gi W'.ID i).IE=(gi W.ID i).IE
 w:∀i:Int,(gi W'.ID i).weight=(gi W.ID i).weight
 len:W'.IE.length=W.IE.length
 u:∀i:Int,(gi W'.IE i).up=(gi W.IE i).up
theorem VL.refl(W:Q7):VL W W:=⟨QX.refl _,fun _=>rfl,fun _=>rfl,rfl,fun _=>rfl⟩
theorem VL.trans{A B C:Q7}(h:VL A B)(k:VL B C):VL A C:=⟨h.g.trans k.g,fun i=>(k.m i).trans (h.m i),fun i=>(k.w i).trans (h.w i),k.len.trans h.len,fun i=>(k.u i).trans (h.u i)⟩
theorem zjw{W:Q7}{g:Int}{x:Zr}(u:x.used=(gi W.ID g).used)(p:x.parent=(gi W.ID g).parent)(n:x.name=(gi W.ID g).name)(m:x.IE=(gi W.ID g).IE)(w:x.weight=(gi W.ID g).weight):VL W (Rp W g x):=
 ⟨⟨H',fun i=>YC (f:=Zr.used) _ _ u i,fun i=>YC (f:=Zr.parent) _ _ p i,fun i=>YC (f:=Zr.name) _ _ n i⟩,fun i=>YC (f:=Zr.IE) _ _ m i,fun i=>YC (f:=Zr.weight) _ _ w i,rfl,fun _=>rfl⟩
theorem Cu(W:Q7)(g c:Int)(s:K0):VL W (RM W g c s):=zjw rfl rfl rfl rfl rfl
theorem zjv(W:Q7)(g:Int)(b:Jj):VL W (WQ W g b):=zjw rfl rfl rfl rfl rfl
theorem zjy(W:Q7)(t:Int)(x:Pi):VL W (IU W t x):=⟨QX.refl _,fun _=>rfl,fun _=>rfl,rfl,fun _=>rfl⟩
theorem zfi{W:Q7}{c:Int}{x:Pf}(u:x.up=(gi W.IE c).up):VL W (RW W c x):=⟨QX.refl _,fun _=>rfl,fun _=>rfl,H',fun i=>YC (f:=Pf.up) _ _ u i⟩
theorem Lo(W:Q7)(c:Int):VL W (RC W c):=zfi rfl
theorem F2(W:Q7)(c d:Int):∀k:Nat,VL W (ZV W c d k)
 | 0=>VL.refl _
 | k+1=>by
  simp only[ZV];split
  ·exact(F2 W c d k).trans (Cu _ _ _ _)
  ·exact F2 W c d k
theorem GV(W:Q7)(c:Int):∀j:Nat,VL W (XI W c j)
 | 0=>VL.refl _
 | j+1=>(GV W c j).trans (F2 _ _ _ _)
theorem Ct(W:Q7):∀c:Nat,VL W (YN W c)
 | 0=>VL.refl _
 | c+1=>(Ct W c).trans (GV (YN W c) (c:Int) 3)
theorem F0(W:Q7)(k:Int):∀c:Nat,VL W (YD W k c)
 | 0=>VL.refl _
 | c+1=>by
  simp only[YD];split
  ·exact(F0 W k c).trans (zjv _ _ _)
  ·exact F0 W k c
theorem F1(W:Q7):∀k:Nat,VL W (YX W k)
 | 0=>VL.refl _
 | k+1=>by
  simp only[YX];split
  ·exact(F1 W k).trans (F0 _ _ _)
  ·exact F1 W k
theorem GU(W:Q7)(c:Int):∀k:Nat,VL W (Z5 W c k)
 | 0=>VL.refl _
 | k+1=>by
  simp only[Z5];split
  ·exact(GU W c k).trans (Cu _ _ _ _)
  ·exact GU W c k
theorem znr(W:Q7)(c:Int):VL W (VG W c):=by
 have h:=(GV W c 3).trans (GU (QR W c) c 8);unfold VG;split
 ·exact h.trans (Lo _ _)
 ·exact h
theorem zc1(W:Q7):∀c:Nat,VL W (JO W c)
 | 0=>VL.refl _
 | c+1=>(zc1 W c).trans (znr (JO W c) (c:Int))
theorem zjx(W:Q7):VL W (Qh W):=((Ct W W.IE.length).trans (F1 (YN W W.IE.length) 8)).trans (zc1 (LU (YN W W.IE.length)) W.IE.length)
theorem VL.ups{W W':Q7}(h:VL W W'):J8 W'.IE=J8 W.IE:=zfm h.len fun j _=>h.u j
theorem VL.pin{W W':Q7}(h:VL W W')(g u:Int):V7 W'.ID g u=V7 W.ID g u:=by
 unfold V7;rw[show Z2 W'.ID g=Z2 W.ID g from h.g.path 3 g]
 congr 1
 funext s x
 rw[h.m]
theorem VL.wh{W W':Q7}(h:VL W W')(g m:Int):Qv W' g m=Qv W g m:=by
 unfold Qv;rw[h.ups,h.pin]
theorem VL.loc{W W':Q7}(h:VL W W')(ht:W'.tasks=W.tasks)(hl:Nr W):Nr W':=fun t t0 t1 n=>by
 rw[XN ht] at n ⊢;rw[h.wh];exact hl t t0 t1 n
theorem Cr{K:Int}{W:Q7}(sw:SW K W)(hK:0<=K)(gV:K+UV<=100000000000000000)(p:VI W)(hl:Nr W):XA (Qh W)/\zw5 (Qh W):=by
 obtain⟨p1,hf,dn⟩:=zno sw p hK;exact zvv (Tq sw hK).1 gV p1 ((zjx W).loc hf.t hl) fun d d0 d1=>dn d d0 (by rw[<-hf.c]; exact d1)
theorem zia.Bo4{W W':Q7}{k c:Int}(h:zia W k c)(e:Qc W' k c=Qc W k c)(ep:k≠0->(Qc W' (gi W'.ID k).parent c).floor=(Qc W (gi W.ID k).parent c).floor):zia W' k c:=
 ⟨by rw[e]; exact h.s,by rw[e]; exact h.root,fun hz ho=>by
  rw[e] at ho;have:=h.st hz ho;unfold UW at this ⊢;rw[e,ep hz]; exact this⟩
theorem VI.IU{W:Q7}(p:VI W){t:Int}(t0:0<=t)(t1:t<12){x:Pi}(hx:x.state=0/\x=VV\/x.state≠0/\H7 W x/\0<=x.R9/\x.R9<(W.IE.length:Int))(hc:∀c:Int,0<=c->c<(W.IE.length:Int)->(gi W.IE c).cur=t->x.state=1->x.R9=c->x.v-(Qc W x.group c).floor<=Z9 (gi W.IE c).WS (Qf x.nice)/\∀y∈Z2 W.ID x.group,UW W y c/\(Qc W y c).v-(Qc W (gi W.ID y).parent c).floor<=Z9 (gi W.IE c).WS (Qc W y c).w):VI (IU W t x):=by
 have hl:=p.a.t;have e:∀i:Int,0<=i->Q8 (YtnclplgaicdapaaGreatDoor.IU W t x) i=if t=i then x else Q8 W i:=fun i i0=>QC _ _ t0 Qo i0
 refine⟨⟨p.a.tk H',fun i a b=>?_,fun i a b n=>?_,fun k c hu c0 c1=>?_⟩,fun c c0 c1=>?_⟩
 ·rw[e i a];split
  ·rcases hx with h | ⟨h1,h2,_⟩
   ·exact .inl h
   ·exact .inr ⟨h1,h2.st,h2.g,h2.n,h2.m,h2.m0,h2.s,h2.u,h2.l1,h2.l2,h2.f⟩
  ·rcases p.t i a b with h | ⟨h1,h2⟩
   ·exact .inl h
   ·exact .inr ⟨h1,h2.st,h2.g,h2.n,h2.m,h2.m0,h2.s,h2.u,h2.l1,h2.l2,h2.f⟩
 ·rw[e i a] at n ⊢;split
  ·rename_i h;rw[E' h] at n;rcases hx with h | ⟨_,_,h2⟩
   ·exact Is h.1 n
   ·exact h2
  ·rename_i h;rw[C' h] at n;exact p.l i a b n
 ·exact(p.s k c hu c0 c1).Bo4 rfl fun _=>rfl
 ·have h:=p.c c c0 c1;refine⟨h.b,h.i,h.c1,h.c2,h.no,h.yes,fun h0=>?_⟩;rw[e _ h0];split
  ·rename_i he;exact fun h1 h2=>hc c c0 c1 he.symm h1 h2
  ·exact h.q h0
def Gz(p:Nat->Bool):Nat->Int
 | 0 => -1
 | k+1=>if (decide (Gz p k<0)&&p k)=true then (k:Int) else Gz p k
theorem PV(p:Nat->Bool):∀k:Nat,(Gz p k = -1/\∀j,j<k->p j=false)\/(0<=Gz p k/\Gz p k<(k:Int)/\p (Gz p k).toNat=true/\∀j:Nat,(j:Int)<Gz p k->p j=false)
 | 0=>.inl ⟨rfl,fun j hj=>Is hj (Nat.not_lt_zero j)⟩
 | k+1=>by
  simp only[Gz];rcases PV p k with ⟨h1,h2⟩ | ⟨h1,h2,h3,h4⟩
  ·cases hp:p k with
   | true=>
    rw[h1,E' (by rfl)];exact .inr ⟨Qo,Qo,by simpa using hp,fun j hj=>h2 j Qo⟩
   | false=>
    rw[C' Qs,h1];refine .inl ⟨rfl,fun j hj=>?_⟩
    by_cases e:j=k
    ·rw[e]; exact hp
    ·exact h2 j Qo
  ·rw[C' (by rw[decide_eq_false (by omega:¬Gz p k<0)]; simp)];exact .inr ⟨h1,Qo,h3,h4⟩
theorem zkv{p:Nat->Bool}{n:Nat}(h:∀j,j<n->p j=false):Gz p n = -1:=by
 rcases PV p n with ⟨h1,_⟩ | ⟨h1,h2,h3,_⟩
 ·exact h1
 ·rw[h _ Qo] at h3; cases h3
theorem zku{p:Nat->Bool}{n:Nat}{a:Int}(a0:0<=a)(a1:a<(n:Int))(hp:p a.toNat=true)(hn:∀j:Nat,(j:Int)<a->p j=false):Gz p n=a:=by
 rcases PV p n with ⟨_,h2⟩ | ⟨h1,h2,h3,h4⟩
 ·rw[h2 _ Qo] at hp; cases hp
 ·by_cases l:Gz p n<a
  ·rw[hn _ Qo] at h3; cases h3
  ·by_cases g:a<Gz p n
   ·rw[h4 _ Qo] at hp; cases hp
   ·omega
def OT(W:Q7)(j:Nat):Bool:=(Q8 W (j:Int)).state==0
def Vy(W:Q7):Int:=Gz (OT W) 12
noncomputable def TK(W:Q7)(g n x:Int):Int:=if Qf n=0\/Ow x=false\/x=0 then 1 else if Q6 W.ID g=false then 2 else if Vy W<0 then 3 else if QH W=false then 10 else 0
def MN(W:Q7)(g x:Int):Int:=Pe W (Qv W g x)
def Kw(W:Q7)(g n x:Int):Pi:=⟨1,g,MN W g x,n,x,(Qc W g (MN W g x)).floor,0,0,0⟩
def zgi(W:Q7)(g n x:Int):Q7:=Qh (RC (IU W (Vy W) (Kw W g n x)) (MN W g x))
noncomputable def Vd(W:Q7)(bar:Int)(W':Q7)(a:Int):Q7×Int×Int:=if Qx W=false then (Mi,-1,1) else if bar≠0 then (W,-1,bar) else (W',a,0)
def TB(r:Q7×Int×Int)(w:Wo)(v:Va)(w':Wo):Prop:=∃n m',v=.tuple #[.agg (Qa r.1 m').toArray,.int .i64 r.2.1,.int .i64 r.2.2]/\Y8 n w.heap.size w' r.1 m'/\Q0 [] w w'
structure zv8 (W:Q7) (g n x:Int):Prop where
 w:Qf n≠0
 m:Ow x=true
 m0:x≠0
 u:Q6 W.ID g=true
 f0:0<=Vy W
 f1:Vy W<12
 f2:(Q8 W (Vy W)).state=0
 r:QH W=true
 sw:SW Qj W
 c0:0<=MN W g x
 c1:MN W g x<(W.IE.length:Int)
 ch:Ze (Qv W g x) (MN W g x)=true
 sw2:SW Qj (IU W (Vy W) (Kw W g n x))
theorem zkt{W:Q7}{g n x:Int}(hW:Qx W=true)(hb:TK W g n x=0):zv8 W g n x:=by
 have wp:=Qi.1 hW;unfold TK at hb
 split at hb
 ·cases hb
 ·rename_i h1
  split at hb
  ·cases hb
  ·rename_i h2
   split at hb
   ·cases hb
   ·rename_i h3
    split at hb
    ·cases hb
    ·rename_i h4;have h4:QH W=true:=by simpa using h4
     have h2:Q6 W.ID g=true:=by simpa using h2
     have sw:=P8 wp (Qi.1 h4)
     have hf:0<=Vy W/\Vy W<12/\OT W (Vy W).toNat=true:=by
      rcases PV (OT W) 12 with ⟨a,_⟩ | ⟨a,b,c,_⟩
      ·unfold Vy at h3; omega
      ·exact⟨a,b,c⟩
     obtain⟨c0,c1,ch⟩:=Lk wp.a g x;have hs:=sw.s g _ h2 c0 c1;have e:(((Vy W).toNat:Nat):Int)=Vy W:=Qo;refine⟨fun h=>h1 (.inl h),?_,fun h=>h1 (.inr (.inr h)),h2,hf.1,hf.2.1,?_,h4,sw,c0,c1,ch,sw.IU hf.1 hf.2.1 (x:=Kw W g n x) (fun _=>⟨h2,c0,c1⟩) hs.1 hs.2.1⟩
     ·cases hm:Ow x with
      | true=>rfl
      | false=>exact Is (.inr (.inl hm)) h1
     ·have:=hf.2.2;unfold OT at this;rw[e] at this;exact Iz this
section
variable {W W':Q7}{m:MW}{w:Wo}{bar a:Int}
theorem TB.bad{w':Wo}(hW:Qx W=false)(hx:Q0 [] w w'):TB (Vd W bar W' a) w (.tuple #[.agg (Qa Mi zrj).toArray,.int .i64 (-1),.int .i64 1]) w':=by
 rw[show Vd W bar W' a=(Mi,-1,1) from E' hW];exact⟨0,zrj,rfl,Y8.zero _ _,hx⟩
theorem TB.no{n:Nat}{bs:List Nat}{w':Wo}{m':MW}(hW:Qx W=true)(hb:bar≠0)(hk:Wk n bs w w' W m'){c:Int}(hc:bar=c):TB (Vd W bar W' a) w (.tuple #[.agg (Qa W m').toArray,.int .i64 (-1),.int .i64 c]) w':=by
 rw[show Vd W bar W' a=(W,-1,c) by unfold Vd; rw[C' (by rw[hW]; decide),E' hb,hc]];exact⟨n,m',rfl,hk.fin⟩
theorem TB.ok{n:Nat}{bs:List Nat}{w':Wo}{m':MW}(hW:Qx W=true)(hb:bar=0)(hk:Wk n bs w w' W' m'):TB (Vd W bar W' a) w (.tuple #[.agg (Qa W' m').toArray,.int .i64 a,.int .i64 0]) w':=by
 rw[show Vd W bar W' a=(W',a,0) by unfold Vd; rw[C' (by rw[hW]; decide),C' (by simpa using hb)]];exact⟨n,m',rfl,hk.fin⟩
theorem MS{g n x:Int}(h:Xb [] w W m)(hl:Xh W) :
  Cz YZ #[.agg (Qa W m).toArray,.int .i64 g,.int .i64 n,.int .i64 x] w fun e w'=>∃v,e=.returned v/\TB (Vd W (TK W g n x) (zgi W g n x) (Vy W)) w v w':=by
 refine Bb W.now m.cO W.IE.length m.cC m.tO W.tasks.length m.tC m.gO W.ID.length m.gC g n x (R:=fun v w'=>TB (Vd W (TK W g n x) (zgi W g n x) (Vy W)) w v w') ?_;intro y hy y1 cY wr R6 SY;refine I4 (Zb (h.ext R6) hl) ?_;rintro e wv (⟨hW,he,SL⟩ | ⟨hW,m',he,hM,SL⟩)
 ·exact⟨_,_,_,_,_,_,_,_,_,_,_,he,Qe SL SY,fun _ R2 Rm=>TB.bad hW ((R6.trans SL).fresh Rm fun z hm=>.inl (Yv hy cY z hm)),fun g=>by simp at g⟩
 have hK:=Wk.begin hy cY R6 SY hM SL;have hr:=hK.rd;have wp:=Qi.1 hW;have jV:=wp.a.t;refine⟨_,_,_,_,_,_,_,_,_,_,_,he,Qe SL SY,fun g=>by split at g <;> simp at g,fun _=>⟨_,ZH,_,fun _=>YY,fun g1 O' Rm=>?_,fun g1=>⟨_,Yt hr.g,fun g2 Rt Rm=>?_,fun g2=>⟨⟨Qo,Qo⟩,?_⟩⟩⟩⟩
 ·have hb:TK W g n x=1:=by
   unfold TK;rw[E'];simp only[Iv,It,IC] at g1;rcases g1 with (g1 | g1) | g1
   ·exact .inl g1
   ·exact .inr (.inl g1)
   ·exact .inr (.inr g1)
  exact TB.no hW (by rw[hb]; decide) (hK.step Rm) hb
 ·have n1:¬(Qf n=0\/Ow x=false\/x=0):=by
   simp only[I0,beq_eq_false_iff_ne,I7,ne_eq] at g1;rintro (h | h | h)
   ·exact g1.1.1 h
   ·rw[g1.1.2] at h; cases h
   ·exact g1.2 h
  have hb:TK W g n x=2:=by unfold TK; rw[C' n1,E' (by simpa using g2)]
  exact TB.no hW (by rw[hb]; decide) (hK.step Rm) hb
 have n1:¬(Qf n=0\/Ow x=false\/x=0):=by
  simp only[I0,beq_eq_false_iff_ne,I7,ne_eq] at g1;rintro (h | h | h)
  ·exact g1.1.1 h
  ·rw[g1.1.2] at h; cases h
  ·exact g1.2 h
 have hu:Q6 W.ID g=true:=by simpa using g2
 have n2:¬Q6 W.ID g=false:=by rw[hu]; decide
 refine⟨fun vs w1=>∃a t:Int,vs=[.int .i64 a,.int .i64 t]/\-1<=t/\t<12/\(a = -1/\(∀j:Nat,t<(j:Int)->j<12->OT W j=false)\/t<a/\a<12/\OT W a.toNat=true/\∀j:Nat,t<(j:Int)->(j:Int)<a->OT W j=false)/\Q0 [y,y1] wv w1,
  fun vs _=>(Y5 1 vs+1).toNat,fun w1 uV _=>⟨-1,_,rfl,Qo,Qo,.inl ⟨rfl,fun j h1 h2=>by omega⟩,uV⟩,?_⟩
 rintro av tv Rr gZ ⟨a,t,aQ,ht0,ht1,AO4,hxw⟩;simp only[I5,I6,true_and,and_true] at aQ;obtain⟨rfl,rfl⟩:=aQ;have hK1:=hK.step hxw;have uU:=hK1.rd;refine⟨fun IQ=>?_,fun RH=>?_⟩
 ·have IQ:=Ot IQ;have e:((tv.toNat:Nat):Int)=tv:=Qo;have qB:OT W tv.toNat=((Q8 W tv).state==0):=by unfold OT; rw[e]
  refine⟨uU.t.ix QL IQ Qo,_,uU.t.f IQ Qo (j:=0) rfl,fun g3=>⟨⟨Qo,Qo⟩,fun RR SK _=>⟨⟨tv,tv-1,rfl,Qo,Qo,.inr ⟨Qo,ht1,by rw[qB]; exact g3,fun j h1 h2=>by omega⟩,hxw.trans SK⟩,?_⟩⟩,fun g3=>⟨⟨Qo,Qo⟩,fun Sn cU _=>⟨⟨av,tv-1,rfl,Qo,Qo,?_,hxw.trans cU⟩,?_⟩⟩⟩
  ·simp only[Y5,Ig,List.getElem?_cons_succ]; omega
  ·have g3:OT W tv.toNat=false:=by rw[qB]; exact g3
   have one:∀j:Nat,tv-1<(j:Int)->¬tv<(j:Int)->OT W j=false:=fun j h1 h2=>by
    have:j=tv.toNat:=Qo;rw[this]; exact g3
   rcases AO4 with ⟨h1,h2⟩ | ⟨h1,h2,h3,h4⟩
   ·exact .inl ⟨h1,fun j j1 j2=>if h:tv<(j:Int) then h2 j h j2 else one j j1 h⟩
   ·exact .inr ⟨Qo,h2,h3,fun j j1 j2=>if h:tv<(j:Int) then h4 j h j2 else one j j1 h⟩
  ·simp only[Y5,Ig,List.getElem?_cons_succ]; omega
 ·have RH:=Ou RH;have ht:tv = -1:=Qo;subst ht
  have sI:av=Vy W:=by
   rcases AO4 with ⟨h1,h2⟩ | ⟨h1,h2,h3,h4⟩
   ·rw[h1]; exact(zkv fun j hj=>h2 j Qo hj).symm
   ·exact(zku Qo h2 h3 fun j hj=>h4 j Qo hj).symm
  subst sI;refine⟨fun g4 SO lY=>?_,fun g4=>⟨fun g5 W8 rH=>?_,fun g5=>?_⟩⟩
  ·have g4:=Ot g4;have hb:TK W g n x=3:=by unfold TK; rw[C' n1,C' n2,E' g4]
   exact TB.no hW (by rw[hb]; decide) (hK1.step lY) hb
  ·have g4:=Ou g4;have bH:¬QH W=true:=fun hr=>by rw[E' hr] at g5; simp at g5
   have hb:TK W g n x=10:=by unfold TK; rw[C' n1,C' n2,C' g4,E' (by simpa using bH)]
   rw[C' bH];exact TB.no hW (by rw[hb]; decide) (hK1.step rH) hb
  have g4:=Ou g4;have bH:QH W=true:=Ir fun hr=>by rw[C' hr] at g5; simp at g5
  have hb:TK W g n x=0:=by unfold TK; rw[C' n1,C' n2,C' g4,C' (by rw[bH]; decide)]
  have hf:=zkt hW hb;obtain⟨u0,u1,_⟩:=Q5.1 hu;have hsl:=wp.a.sl hu;have c0:=hf.c0;have c1:=hf.c1;have f0:=hf.f0;have f1:=hf.f1;have SP:Wk 8 [y,y1] w (RD Rr m'.tO (Int.toNat (Vy W)*9) (YT (Kw W g n x))) (IU W (Vy W) (Kw W g n x)) m':=hK1.RD (hK1.own.AE6 f0 (by rw[jV]; exact f1) (j:=0) (vs:=YT (Kw W g n x)) (x:=Kw W g n x) (by simp[YT]) (by simp[YT])) LO;refine⟨_,XH uU wp.a.c2 wp.a.tree hu,_,MT uU wp.a (zpq wp),uU.g.ix u0 u1,_,_,_,uU.g.S3 u0 u1,(uU.g.IF g u0 u1).ix ZK c0 (by rw[hsl]; exact c1),(Qc W g (MN W g x)).floor,zh7.f (uU.g.IF g u0 u1) c0 (by rw[hsl]; exact c1) (j:=0) rfl,uU.t.ix QL f0 (by rw[jV]; exact f1),zfv hK1.own hK1.nb f0 (by rw[jV]; exact f1) (j:=0) (k:=9) Qd,fun WY kW hs9=>?_⟩;have e5:Qa (IU W (Vy W) (Kw W g n x)) m'=Qa W m':=HH _ _ _ _;have dQ:=SP.step kW;have aG:=Zu dQ.own c0 (show MN W g x<((IU W (Vy W) (Kw W g n x)).IE.length:Int) from c1);rw[e5] at aG;refine I4 aG ?_;rintro e2 Rx ⟨aQ,kR⟩;refine⟨_,_,_,_,_,_,_,_,_,_,aQ,dQ.kept kR hs9,fun Sj AJ0 rG=>?_⟩;have hK7:=(dQ.SX kR hs9).step AJ0;have sH:=Qu hK7.own (hf.sw2.RC c0 c1) Qd Qd hK7.base;refine I4 sH ?_;rintro e3 Sk ⟨m2,fH,hy5⟩;exact⟨_,_,_,_,_,_,_,_,_,_,fH,hK7.kept hy5 rG,fun W8 rH=>TB.ok hW hb ((hK7.SX hy5 rG).step rH)⟩
end
section
variable {base pb:Nat}{W W':Q7}{m:MW}{w:Wo}
end
structure J0 (W:Q7):Prop where
 wp:XA W
 fl:zw5 W
theorem Zs{K:Int}{W:Q7}(sw:SW K W)(hK:0<=K)(gV:K+UV<=100000000000000000)(p:VI W)(hl:Nr W):J0 (Qh W):=by
 obtain⟨a,b⟩:=Cr sw hK gV p hl;exact⟨a,b⟩
theorem Nr.RC{W:Q7}(h:Nr W)(c:Int):Nr (RC W c):=(Lo W c).loc rfl h
theorem Nr.IU{W:Q7}(h:Nr W)(ha:WA W){t:Int}(t0:0<=t)(t1:t<12){x:Pi}(hx:x.state≠0->Ze (Qv W x.group x.mask) x.R9=true):Nr (IU W t x):=fun i i0 i1 n=>by
 have hl:=ha.t;have e:Q8 (YtnclplgaicdapaaGreatDoor.IU W t x) i=if t=i then x else Q8 W i:=QC _ _ t0 Qo i0;rw[e] at n ⊢;rw[(zjy W t x).wh]
 split at n
 ·rename_i he;rw[E' he]; exact hx n
 ·rename_i he;rw[C' he]; exact h i i0 i1 n
theorem zr5(W:Q7)(t c:Int)(x:Pi):RC (IU W t x) c=IU (RC W c) t x:=rfl
theorem Tx{W:Q7}(p:VI W){t:Int}(t0:0<=t)(t1:t<12)(n:(Q8 W t).state≠0):H7 W (Q8 W t):=by
 rcases p.t t t0 t1 with h | h
 ·exact Is h.1 n
 ·exact h.2
theorem zmv{W:Q7}{t:Int}(hW:Qx W=true)(hb:Ve W t=0):J0 (zdw W t):=by
 have wp:=Qi.1 hW;obtain⟨h1,h2,sw,sw2⟩:=zf1 hW hb;obtain⟨t0,t1,n⟩:=YH h1;have hl:=wp.a.t;have p:=Xa wp;have h:=Tx p t0 Qo n;have nH:=Uc wp;refine Zs sw2 Qd Qd (p.IU t0 Qo (.inr ⟨by show (2:Int)≠0; decide,⟨.inr rfl,h.g,h.n,h.m,h.m0,h.s,h.u,h.l1,h.l2,fun h=>by cases h⟩,p.l t t0 Qo n⟩) fun c c0 c1 _ hs _=>by cases hs) (nH.IU wp.a t0 Qo fun _=>nH t t0 Qo n)
theorem zpd{W:Q7}{t:Int}(hW:Qx W=true)(hb:TI W t=0):J0 (Fg W t):=by
 have wp:=Qi.1 hW;obtain⟨h1,_,sw,_,sw2⟩:=zee hW hb;obtain⟨t0,t1,n⟩:=YH h1;have hl:=wp.a.t;have p:=Xa wp;obtain⟨c0,c1⟩:=p.l t t0 Qo n
 have key:VI (QV W t)/\Nr (QV W t):=by
  unfold QV;split
  ·exact⟨p.RC c0 c1,(Uc wp).RC _⟩
  ·exact⟨p,Uc wp⟩
 exact Zs sw2 Qd Qd (key.1.IU t0 Qo (.inl ⟨rfl,rfl⟩) fun c c0 c1 _ hs _=>by cases hs) (key.2.IU key.1.a t0 Qo fun h=>Is rfl h)
theorem Ni{W:Q7}(p:VI W){t c:Int}(t0:0<=t)(t1:t<12){x:Pi}(n:x.state≠0)(hx:H7 W x)(hc:x.R9=c)(c0:0<=c)(c1:c<(W.IE.length:Int)):VI (RC (IU W t x) c):=by
 rw[zr5];have hl:(RC W c).IE.length=W.IE.length:=H';refine(p.RC c0 c1).IU t0 t1 (.inr ⟨n,⟨hx.st,hx.g,hx.n,hx.m,hx.m0,hx.s,hx.u,hx.l1,hx.l2,hx.f⟩,by rw[hl,hc]; exact⟨c0,c1⟩⟩) fun d d0 d1 rF _ hd=>?_
 rw[hc] at hd;subst hd;have e1:gi (RC W c).IE c=Xx (gi W.IE c):=(QC _ _ c0 c1 c0).trans (E' rfl);rw[e1] at rF;have rF:(-1:Int)=t:=rF;omega
theorem zvc(f v w:Int):f<=f+X8 (v-f) w/\f+X8 (v-f) w-f<=Zv w:=by
 have:=ZW (v-f) w;omega
theorem zpf{W:Q7}{t n:Int}(hW:Qx W=true)(hb:Ok W t n=0):J0 (KN W t n):=by
 have wp:=Qi.1 hW;have hq:=zle hW hb;obtain⟨t0,t1,tn⟩:=YH hq.th;have hl:=wp.a.t;have p:=Xa wp;have hw:Qf n≠0:=fun h=>by unfold Ok at hb; rw[E' h] at hb; cases hb
 have h:=Tx p t0 Qo tn;obtain⟨c0,c1⟩:=p.l t t0 Qo tn;have nH:=Uc wp;have hL:Nr (IU W t (XL W t n)):=nH.IU wp.a t0 Qo fun _=>nH t t0 Qo tn
 have hT:H7 W (XL W t n):=⟨h.st,h.g,hw,h.m,h.m0,h.s,h.u,h.l1,h.l2,fun hs=>by
  have hs:(Q8 W t).state=1:=hs;rw[zld hs];exact zvc _ _ _⟩
 have hK:K1+UV<=100000000000000000:=by simp only[K1,Qn,UV]; decide
 have hK0:0<=K1:=by simp only[K1,Qn]; decide
 unfold KN;split
 ·rename_i hs
  have hlv:QV (IU W t (XL W t n)) t=if (gi W.IE (Q8 W t).R9).cur=t then RC (IU W t (XL W t n)) (Q8 W t).R9 else IU W t (XL W t n):=by
   unfold QV;rw[F7 t0 t1]; rfl
  have s2:=hq.s2;rw[hlv] at s2 ⊢;split
  ·rename_i rF;rw[E' rF] at s2;exact Zs s2 hK0 hK (Ni p t0 Qo tn hT rfl c0 c1) (hL.RC _)
  ·rename_i rF;rw[C' rF] at s2;refine Zs s2 hK0 hK (p.IU t0 Qo (.inr ⟨tn,hT,c0,c1⟩) fun d d0 d1 hd _ hx=>?_) hL;have hx:(Q8 W t).R9=d:=hx;rw[hx] at rF;exact Is hd rF
 ·rename_i hs;exact Zs hq.s1 hK0 hK (p.IU t0 Qo (.inr ⟨tn,hT,c0,c1⟩) fun d d0 d1 hd hx _=>Is hx hs) hL
theorem zph{W:Q7}{t:Int}(hW:Qx W=true)(hb:Pq W t=0):J0 (Fp W t):=by
 have wp:=Qi.1 hW;obtain⟨h1,h2,_,sf,c0,c1⟩:=zl2 hW hb;obtain⟨t0,t1,tn⟩:=YH h1;have hl:=wp.a.t;have p:=Xa wp;have h:=Tx p t0 Qo tn;have nH:=Uc wp
 have hT:H7 W (VH W t (Pb W t)):=⟨.inl rfl,h.g,h.n,h.m,h.m0,h.s,h.u,h.l1,h.l2,fun _=>by
  have:=ZW ((Q8 W t).v-(Qc W (Q8 W t).group (Q8 W t).R9).floor) (Qf (Q8 W t).nice);show (Qc W (Q8 W t).group (Pb W t)).floor<=(Qc W (Q8 W t).group (Pb W t)).floor+Ew W t/\(Qc W (Q8 W t).group (Pb W t)).floor+Ew W t-(Qc W (Q8 W t).group (Pb W t)).floor<=Zv (Qf (Q8 W t).nice);unfold Ew;exact⟨Qo,Qo⟩⟩
 have hwh:Ze (Qv W (Q8 W t).group (Q8 W t).mask) (Pb W t)=true:=by
  unfold Pb;split
  ·exact(Lk wp.a _ _).2.2
  ·exact nH t t0 Qo tn
 exact Zs ((zfq sf t0 t1 tn c0 c1).RC c0 c1).w (by simp only[Qn]; decide) (by simp only[Qn,UV]; decide) (Ni p t0 Qo (show (1:Int)≠0 by decide) hT rfl c0 c1) ((nH.IU wp.a t0 Qo (x:=VH W t (Pb W t)) fun _=>hwh).RC _)
def Hv(l u:Int):Int:=if Yx l 0 8000000=true/\Yx u 0 1000000=true then l-Int.tdiv l 8+u else 0
def zad(x:Pi):Pi:={ x with used:=0,load:=Y1 (Hv x.load (Y1 x.used 1000000)) 8000000 }
def TZ(W:Q7):Nat->Q7
 | 0=>W
 | t+1=>IU (TZ W t) (t:Int) (zad (Q8 (TZ W t) (t:Int)))
def KM(next p now:Int):Nat->Int
 | 0=>next
 | i+1=>if KM next p now i<=now+((i:Int)+1) then KM next p now i+p else KM next p now i
structure zn5 (next p now v:Int):Prop where
 gt:now<v
 rM:∃j:Nat,v=next+p*(j:Int)/\(j=0\/v-p<=now)
theorem GH{next p now:Int}(hp:1<=p)(hn:now<next):∀i:Nat,zn5 next p (now+(i:Int)) (KM next p now i)
 | 0=>⟨by simp only[KM]; omega,0,by simp only[KM]; omega,.inl rfl⟩
 | i+1=>by
  obtain⟨h1,j,h2,h3⟩:=GH hp hn i;simp only[KM]
  push_cast
  split
  ·refine⟨Qo,j+1,?_,.inr Qo⟩;rw[h2]; push_cast; rw[Int.mul_add,Int.mul_one,Int.add_assoc]
  ·exact⟨Qo,j,h2,h3.imp id fun h=>by omega⟩
theorem zso{next p now v v':Int}(hp:1<=p)(h:zn5 next p now v)(h':zn5 next p now v'):v=v':=by
 obtain⟨h1,j,h2,h3⟩:=h;obtain⟨k1,k,k2,k3⟩:=h'
 have key:∀a b:Nat,a<b->p*(a:Int)+p<=p*(b:Int):=fun a b hab=>by
  have:p*((a:Int)+1)<=p*(b:Int):=Int.mul_le_mul_of_nonneg_left Qo Qo;rw[Int.mul_add,Int.mul_one] at this;exact this
 rcases Nat.lt_trichotomy j k with h | h | h
 ·have:=key j k h; omega
 ·subst h; omega
 ·have:=key k j h; omega
def Xs(now:Int)(n:Nat)(G:Zr):Zr:=if (G.used&&(G.IT.I' != 0))=true/\G.next<=now+(n:Int) then { G with next:=KM G.next G.period now n,IT:=U1 G.IT } else G
theorem zje{now:Int}{G:Zr}(h:G.IT.I'≠0->now<G.next):Xs now 0 G=G:=by
 unfold Xs;rw[C'];rintro⟨h1,h2⟩;simp only[A',Iu,ne_eq] at h1;have:=h h1.2;simp at h2;omega
def VD(W:Q7)(n:Nat):Nat->Q7
 | 0=>{ W with now:=W.now+(n:Int) }
 | k+1=>Rp (VD W n k) (k:Int) (Xs W.now n (gi W.ID (k:Int)))
def ZI(W:Q7)(n:Nat):Q7:=VD W n 8
noncomputable def MY(W:Q7)(n:Int):Int:=if Yx n 1 1000=false then 1 else if QH W=false then 10 else 0
def zc7(W:Q7)(n:Int):Q7:=Qh (TZ (ZI W n.toNat) 12)
theorem Li(now:Int)(n:Nat)(G:Zr):(Xs now n G).used=G.used/\(Xs now n G).parent=G.parent/\(Xs now n G).name=G.name/\(Xs now n G).IF=G.IF/\(Xs now n G).weight=G.weight/\(Xs now n G).IE=G.IE/\(Xs now n G).sum=G.sum/\(Xs now n G).period=G.period/\(Xs now n G).IT.I'=G.IT.I':=by
 unfold Xs; split <;> exact⟨rfl,rfl,rfl,rfl,rfl,rfl,rfl,rfl,rfl⟩
theorem Tm(W:Q7)(n:Nat):∀k:Nat,(VD W n k).ID.length=W.ID.length/\(VD W n k).now=W.now+(n:Int)/\(VD W n k).IE=W.IE/\(VD W n k).tasks=W.tasks
 | 0=>⟨rfl,rfl,rfl,rfl⟩
 | k+1=>by
  obtain⟨a,b,c,d⟩:=Tm W n k;exact⟨by show (List.set _ _ _).length=_; rw[H']; exact a,b,c,d⟩
theorem Ma(W:Q7)(n:Nat):∀k:Nat,k<=W.ID.length->∀i:Int,0<=i->gi (VD W n k).ID i=if i<(k:Int) then Xs W.now n (gi W.ID i) else gi W.ID i
 | 0,_,i,i0=>by rw[C' Qo]; rfl
 | k+1,hk,i,i0=>by
  have ih:=Ma W n k Qo i i0;have hl:=(Tm W n k).1;show gi (Rp (VD W n k) (k:Int) _).ID i=_;rw[Ym Qo Qo i0]
  by_cases e:(k:Int)=i
  ·subst e;rw[E' rfl,E' Qo]
  ·rw[C' e,ih]
   by_cases h:i<(k:Int)
   ·rw[E' h,E' Qo]
   ·rw[C' h,C' Qo]
theorem zkn(W:Q7):∀k:Nat,(TZ W k).ID=W.ID/\(TZ W k).now=W.now/\(TZ W k).IE=W.IE/\(TZ W k).tasks.length=W.tasks.length
 | 0=>⟨rfl,rfl,rfl,rfl⟩
 | k+1=>by
  obtain⟨a,b,c,d⟩:=zkn W k;exact⟨a,b,c,by show (List.set _ _ _).length=_; rw[H']; exact d⟩
theorem zko{K:Int}{W:Q7}(h:SW K W):∀k:Nat,k<=12->SW K (TZ W k)
 | 0,_=>h
 | k+1,hk=>by
  have ih:=zko h k Qo;have hv:=ih.tv (k:Int) Qo Qo;exact ih.IU Qo Qo (x:=zad (Q8 (TZ W k) (k:Int))) (fun hs=>ih.t (k:Int) Qo Qo hs) hv.1 hv.2
theorem zgf{b:Jj}(h:VK b):VK (U1 b)/\(U1 b).locals.length=b.locals.length:=by
 have hd:=h.dl;refine⟨⟨h.q1,h.q2,by simp only[U1,List.length_replicate]; have:=h.l1; omega,by simp only[U1,List.length_replicate]; have:=h.l2; omega,by simp[U1],by simp only[U1]; have:=h.q1; omega,I3 _,by simp[U1],by simp only[U1]; have:=h.q1; omega,fun c c0 c1=>?_,?_⟩,by simp[U1,hd]⟩
 ·simp only[U1,List.length_replicate] at c1 ⊢;rw[O8 _ _ c0 c1,O8 _ _ c0 c1];have:=h.q1;exact⟨I3 _,Qo,fun h=>by cases h⟩
 ·simp only[U1,List.length_replicate];rw[F3 _ _ (I8 _)]; omega
theorem zqc{W W':Q7}{n:Nat}{k:Int}{G:Zr}(hg:zh8 W k G)(hu:G.used=true)(hn:W'.now=W.now+(n:Int))(hc:W'.IE.length=W.IE.length):zh8 W' k (Xs W.now n G):=by
 obtain⟨_,_,_,u4,u5,u6,u7,u8,u9⟩:=Li W.now n G;refine⟨by rw[u5]; exact hg.w1,by rw[u5]; exact hg.w2,by rw[u6]; exact hg.m,by rw[u6]; exact hg.m0,by rw[u7]; exact hg.s,by rw[u4,hc]; exact hg.len,fun h=>by rw[u5,u6,u9]; exact hg.root h,fun hq=>?_,fun hq=>?_⟩
 ·rw[u9] at hq
  have:Xs W.now n G=G:=by
   unfold Xs;rw[C'];rintro⟨h1,_⟩;simp only[A',Iu,ne_eq] at h1;exact h1.2 hq
  rw[this];exact hg.none hq
 ·rw[u9] at hq;obtain⟨b1,b2,b3,b4,b5,b6⟩:=hg.IT hq;rw[hn,hc];unfold Xs;split
  ·obtain⟨f1,f2⟩:=zgf b1;have hj:=GH b3 b5 n;refine⟨f1,by show (U1 G.IT).locals.length=_; rw[f2]; exact b2,b3,b4,hj.gt,?_⟩;obtain⟨h1,j,h2,h3⟩:=hj;show KM G.next G.period W.now n-(W.now+(n:Int))<=G.period;rcases h3 with rfl | h3
   ·simp at h2; omega
   ·omega
  ·rename_i hcnd;have IQ:W.now+(n:Int)<G.next:=Int.not_le.1 fun hle=>hcnd ⟨by rw[hu]; simpa using hq,hle⟩
   exact⟨b1,b2,b3,b4,IQ,Qo⟩
theorem GP(W:Q7)(n:Nat):∀k:Nat,k<=W.ID.length->QX W.ID (VD W n k).ID
 | 0,_=>QX.refl _
 | k+1,hk=>by
  have ih:=GP W n k Qo;have hl:=(Tm W n k).1;have e:=Ma W n k Qo (k:Int) Qo;rw[C' Qo] at e;obtain⟨u1,u2,u3,_⟩:=Li W.now n (gi W.ID (k:Int));exact ih.trans (Jg (W:=VD W n k) (g:=(k:Int)) (x:=Xs W.now n (gi W.ID (k:Int))) Qo Qo (by rw[u1,e]) (by rw[u2,e]) (by rw[u3,e]))
theorem zqd{K:Int}{W:Q7}{n:Nat}(h:SW K W)(h1:W.now+(n:Int)<=100000000000000000):SW K (ZI W n):=by
 have hl:=h.a.gl;have hT:=GP W n 8 Qo;obtain⟨l1,l2,l3,l4⟩:=Tm W n 8
 have e:∀i:Int,0<=i->i<8->gi (ZI W n).ID i=Xs W.now n (gi W.ID i):=fun i a b=>by
  have:=Ma W n 8 Qo i a
  rwa[E' (show i<((8:Nat):Int) by omega)] at this
 have n1:=h.a.n1;have et:∀t:Int,Q8 (ZI W n) t=Q8 W t:=fun t=>by unfold Q8; rw[show (ZI W n).tasks=W.tasks from l4]
 have ec:(ZI W n).IE=W.IE:=l3;have hT:QX W.ID (ZI W n).ID:=hT;refine⟨⟨by rw[show (ZI W n).now=_ from l2]; omega,by rw[show (ZI W n).now=_ from l2]; exact h1,by rw[ec]; exact h.a.c1,by rw[ec]; exact h.a.c2,by rw[show (ZI W n).tasks=W.tasks from l4]; exact h.a.t,hT.tree h.a.tree,by rw[ec]; exact h.a.ups,fun k a b=>?_⟩,fun t a b hs=>?_,fun t a b=>?_,fun k c u a b=>?_,fun c a b=>?_⟩
 ·have hg:=h.a.grp k a b;obtain⟨u1,u2,u3,u4,u5,u6,u7,u8,u9⟩:=Li W.now n (gi W.ID k);unfold Pt;rw[e k a b];refine⟨fun hu=>?_,fun hu=>?_⟩
  ·rw[u1] at hu
   have:Xs W.now n (gi W.ID k)=gi W.ID k:=by
    unfold Xs;rw[C'];rintro⟨h1,_⟩;rw[hu] at h1;cases h1
   rw[this];exact hg.1 hu
  ·rw[u1] at hu;exact zqc (hg.2 hu) hu l2 (by rw[ec])
 ·rw[et] at hs ⊢;rw[hT.dT,ec];exact h.t t a b hs
 ·rw[et]; exact h.tv t a b
 ·rw[hT.dT] at u;rw[ec] at b;have hk:=Q5.1 u
  have:Qc (ZI W n) k c=Qc W k c:=by
   unfold Qc;rw[e k hk.1 Qo,(Li W.now n (gi W.ID k)).2.2.2.1]
  rw[this];exact h.s k c u a b
 ·rw[ec] at b ⊢;exact h.cu c a b
theorem zvq{W:Q7}(ha:WA W):ZI W 0=W:=by
 have hl:=ha.gl;obtain⟨l1,l2,l3,l4⟩:=Tm W 0 8
 have hg:(ZI W 0).ID=W.ID:=ziw l1 fun k hk=>by
  have hk8:k<8:=by have:(ZI W 0).ID.length=W.ID.length:=l1; omega
  have:=Ma W 0 8 Qo (k:Int) Qo;rw[E' Qo] at this;refine this.trans (zje fun hq=>?_);have hgp:=ha.grp (k:Int) Qo Qo
  cases hu:(gi W.ID (k:Int)).used with
  | true=>exact((hgp.2 hu).IT hq).2.2.2.2.1
  | false=>
   have:=(hgp.1 hu).b;exact Is (by unfold Tl at this; simp only[A',It] at this; exact this.1.1.1.1) hq
 have h2:(ZI W 0).now=W.now:=by rw[show (ZI W 0).now=_ from l2]; simp
 have h3:(ZI W 0).IE=W.IE:=l3;have h4:(ZI W 0).tasks=W.tasks:=l4;generalize ZI W 0=V at hg h2 h3 h4;cases V;cases W;simp only at hg h2 h3 h4;subst hg; subst h2; subst h3; subst h4;rfl
theorem zly{W:Q7}{n:Int}(hW:Qx W=true)(hb:MY W n=0):Yx n 1 1000=true/\QH W=true/\SW Qj W/\W.now<=Qj/\SW Qj (ZI W n.toNat)/\SW Qj (TZ (ZI W n.toNat) 12):=by
 have wp:=Qi.1 hW;unfold MY at hb
 split at hb
 ·cases hb
 ·rename_i h1
  split at hb
  ·cases hb
  ·rename_i h3;have h1:Yx n 1 1000=true:=by simpa using h1
   have h3:QH W=true:=by simpa using h3
   have hr:=Qi.1 h3;have sw:=P8 wp hr;have hn:=hr.n;have hi:=Qt.1 h1;have hh:Qj=50000000000000000:=rfl;have s1:=zqd (n:=n.toNat) sw Qo;exact⟨h1,h3,sw,hn,s1,zko s1 12 (I8 _)⟩
section
variable {W W':Q7}{m:MW}{w:Wo}{bar:Int}
theorem zru{l u:Int}(h1:Yx l 0 8000000=true)(h2:Yx u 0 1000000=true):0<=Int.tdiv l 8/\Int.tdiv l 8<=l:=by
 have:=Qt.1 h1;rw[Int.tdiv_eq_ediv_of_nonneg this.1];omega
theorem En{bs:List Nat}{l u:Int}:PX bs Vn #[I l,I u] w (I (Hv l u)):=
 EN l u fun wr hx=>⟨_,Qm,_,fun _=>Qm,fun g=>(by
  unfold Hv;rw[C'];rintro⟨h1,h2⟩;rw[h1,h2] at g
  cases g),fun g=>by
  have h1:Yx l 0 8000000=true:=by cases h:Yx l 0 8000000 <;> simp_all
  have h2:Yx u 0 1000000=true:=by cases h:Yx u 0 1000000 <;> simp_all
  have hb:=zru h1 h2;have i1:=Qt.1 h1;have i2:=Qt.1 h2;refine⟨⟨Qd,Qo,Qo⟩,⟨Qo,Qo⟩,⟨Qo,Qo⟩,?_⟩;unfold Hv;rw[E' ⟨h1,h2⟩]⟩
theorem zjs{W:Q7}{k:Int}(h0:0<=k)(h1:k<(W.ID.length:Int)):Rp W k (gi W.ID k)=W:=by
 unfold Rp;rw[zhp h0 h1]
theorem BB{n:Int}(h:Xb [] w W m)(hl:Xh W) :
  Cz T7 #[.agg (Qa W m).toArray,I n] w fun e w'=>∃v,e=.returned v/\QJ (Yp W (MY W n) (zc7 W n)) w v w':=by
 refine Bf _ _ _ _ _ _ _ _ _ _ n (R:=fun v w'=>QJ (Yp W (MY W n) (zc7 W n)) w v w') ?_;intro x hx x1 So wr R6 SY;refine I4 (Zb (h.ext R6) hl) ?_;rintro e wv (⟨hW,he,hy⟩ | ⟨hW,m',he,hM,hy⟩)
 ·exact⟨_,_,_,_,_,_,_,_,_,_,_,he,Qe hy SY,false,fun g=>by simp at g,fun _ R2 Rm=>QJ.bad hW ((R6.trans hy).fresh Rm fun y hm=>.inl (Yv hx So y hm)),fun g=>by simp at g⟩
 have hK:=Wk.begin hx So R6 SY hM hy;have uS:((if QH W=true then 0 else 10:Int)==1)=false:=by split <;> rfl
 refine⟨_,_,_,_,_,_,_,_,_,_,_,he,Qe hy SY,_,fun _=>Qm,fun g R2 Rm=>?_,fun g=>⟨fun g3 O' Rm=>?_,fun g3=>?_⟩⟩
 ·rw[uS] at g;have g:Yx n 1 1000=false:=by simpa using g
  have hb:MY W n=1:=by unfold MY; rw[E' g]
  exact QJ.no hW (by rw[hb]; decide) (hK.step Rm) hb
 ·rw[uS] at g;have g:Yx n 1 1000=true:=by simpa using g
  have bH:¬QH W=true:=fun hr=>by rw[E' hr] at g3; simp at g3
  have hb:MY W n=10:=by unfold MY; rw[C' (by rw[g]; decide),E' (by simpa using bH)]
  rw[C' bH];exact QJ.no hW (by rw[hb]; decide) (hK.step Rm) hb
 rw[uS] at g;have g:Yx n 1 1000=true:=by simpa using g
 have bH:QH W=true:=Ir fun hr=>by rw[C' hr] at g3; simp at g3
 have hb:MY W n=0:=by unfold MY; rw[C' (by rw[g]; decide),C' (by rw[bH]; decide)]
 obtain⟨_,_,sw,CU0,sp,sd⟩:=zly hW hb;have hn:=Qt.1 g;obtain⟨N,rfl⟩:=Int.eq_ofNat_of_zero_le (show 0<=n by omega);have hE:zc7 W (N:Int)=Qh (TZ (ZI W N) 12):=by unfold zc7; rw[Ih]
 rw[Ih] at sp sd;rw[hE];have bW:=sw.a.gl;have jV:=sw.a.t;have hn1:=sw.a.n1;have hh:Qj=50000000000000000:=rfl;refine⟨⟨Qo,Qo⟩,?_⟩;refine P1 W.ID.length 0 rfl (fun k w2=>k<=8/\∃m2,Wk 8 [x,x1] w w2 (VD W N k) m2/\m2={ m' with ms:=m2.ms }) (fun w2 Rm _=>⟨Qd,m',(show Wk 8 [x,x1] w wv (VD W N 0) m' from ⟨hK.s,⟨⟨hK.own.c,hK.own.t,hK.own.g,hK.own.len⟩,hK.nb⟩⟩).step Rm,rfl⟩) fun k w2 gZ ⟨hk8,m2,gV,hd2⟩=>?_
 obtain⟨l1,l2,l3,l4⟩:=Tm W N k;have eG:=Ma W N k Qo (k:Int) Qo;rw[C' Qo] at eG;have aL:VD W N (k+1)=Rp (VD W N k) (k:Int) (Xs W.now N (gi W.ID (k:Int))):=rfl;have AD7:k=8->ZI W N=VD W N k:=fun e=>by rw[e]; rfl
 have B88:(k:Int)<(W.ID.length:Int)->Rp (VD W N k) (k:Int) (gi W.ID (k:Int))=VD W N k:=fun IQ=>by
  have:=zjs (W:=VD W N k) (k:=(k:Int)) Qo Qo
  rwa[eG] at this
 have emg:m2.gO=m'.gO:=by rw[hd2]
 have emc:m2.gC=m'.gC:=by rw[hd2]
 refine⟨fun IQ=>?_,fun RH=>?_⟩
 ·have IQ:=Ot IQ;generalize VD W N k=V at gV l1 l2 l3 l4 eG aL AD7 B88;have hr:=gV.rd;have B18:(k:Int)<(V.ID.length:Int):=Qo;have Wz:Ix m'.gO W.ID.length (k:Int):=by have:=hr.g.ix (i:=(k:Int)) Qo B18; rwa[l1,emg] at this
  have hcs:=hr.g.cells (k:Int) Qo B18;rw[eG,emg] at hcs;refine⟨Wz,_,_,_,_,_,_,_,_,_,_,_,_,_,_,_,_,_,_,_,_,hcs,fun b2 cD=>⟨fun g4=>⟨⟨Qo,Qo⟩,fun w3 Rm _=>Z7 Qo ⟨Qo,m2,?_,hd2⟩⟩,fun g4 RR SK kK=>?_⟩⟩
  ·have:Xs W.now N (gi W.ID (k:Int))=gi W.ID (k:Int):=by
    unfold Xs;rw[C'];rintro⟨a,b⟩;simp only[Iv,IC,It,Ik] at g4;simp only[A',Iu,ne_eq] at a;rcases g4 with (h1 | h1) | h1
    ·rw[a.1] at h1; cases h1
    ·exact a.2 h1
    ·omega
   rw[aL,this,B88 IQ];exact gV.step Rm
  ·simp only[I0,I7,beq_eq_false_iff_ne,ne_eq,decide_eq_false_iff_not] at g4;obtain⟨⟨hu,hq⟩,DI9⟩:=g4;have kQ:=(sw.a.grp (k:Int) Qo Qo).2 hu;obtain⟨nG,hbl,hp1,mS,hnx,hnp⟩:=kQ.IT hq
   have hP:Xs W.now N (gi W.ID (k:Int))={ gi W.ID (k:Int) with next:=KM (gi W.ID (k:Int)).next (gi W.ID (k:Int)).period W.now N,IT:=U1 (gi W.ID (k:Int)).IT }:=by
    unfold Xs;rw[E' ⟨by rw[hu]; simpa using hq,Qo⟩]
   have hJ:=GH hp1 hnx N;have nF:=(gV.add cD).step (SK.mono fun y hy=>Ib _ hy);have hr5:=nF.o.rd0;have hLo:=hr5.g.locals (k:Int) Qo B18;have hDo:=hr5.g.RI (k:Int) Qo B18;rw[eG] at hLo hDo;refine I4 (Jb (op:=⟨4,0,0⟩) nG hLo hDo) ?_;rintro e Rx ⟨pb,he,hO,SL⟩;have Co5:YI (gi W.ID (k:Int)).IT ⟨4,0,0⟩=(U1 (gi W.ID (k:Int)).IT,0):=by unfold YI; rw[E' rfl]
   rw[Co5] at he hO
   dsimp only at he hO
   refine⟨_,_,_,_,_,_,_,_,_,_,he,Qe SL kK,fun b3 hb3=>?_⟩;have dQ:=(nF.R4 SL).add hb3
   have hOb:∀y∈Zz pb,y∉QD 8 m2/\y∉[x,x1]++[b2]++[b3]:=fun y hy=>by
    have:=hO.lt y hy;refine⟨fun hm=>by have:=(nF.own.lt y hm).2; omega,fun hm=>?_⟩;rcases Io.1 hm with h1 | h1
    ·have:=kK y h1; omega
    ·have:y=b3:=by simpa using h1
     omega
   have hO4:QW w.heap.size Rx (U1 (gi W.ID (k:Int)).IT) pb:=hO.mono nF.base;refine⟨fun vs w'=>∃v:Int,vs=Yb { gi W.ID (k:Int) with next:=v,IT:=U1 (gi W.ID (k:Int)).IT } (VS (m2.ms k) pb)/\(∃j:Nat,v=(gi W.ID (k:Int)).next+(gi W.ID (k:Int)).period*(j:Int)/\(j=0\/v-(gi W.ID (k:Int)).period<=W.now+(N:Int)))/\0<=v/\Wk 8 ([x,x1]++[b2]++[b3]) w w' V m2/\QW w.heap.size w' (U1 (gi W.ID (k:Int)).IT) pb,fun vs _=>(W.now+(N:Int)+1-Y5 6 vs).toNat,fun SO lY hs7=>⟨(gi W.ID (k:Int)).next,by simp[Yb,VS],⟨0,Qs,.inl rfl⟩,Qo,dQ.step (lY.mono fun y hy=>Ib _ hy),hO4.ext lY fun y hy hm=>(hOb y hy).2 (Ib _ hm)⟩,?_⟩;rintro l0 a1 a2 a3 a4 a5 a6 a7 a8 a9 a10 DB8 DB7 DB6 DC1 DC0 DB9 DC4 DC3 DC2 bI fU ⟨v,hv,hj,hv0,dB,hO5⟩;simp only[Yb,Z4,List.cons_append,List.nil_append,I5,Value.bool.injEq,I6,Value.string.injEq,Iw,true_and,and_true] at hv;obtain⟨rfl,rfl,rfl,rfl,rfl,rfl,rfl,rfl,rfl,rfl,rfl,⟨rfl,rfl,rfl⟩,⟨rfl,rfl,rfl⟩,rfl,rfl,rfl⟩:=hv;refine⟨fun hle=>?_,fun hgt=>?_⟩
   ·have hle:=Ot hle;refine⟨⟨Qo,Qo⟩,fun W8 rH hs8=>⟨⟨a6+(gi W.ID (k:Int)).period,rfl,?_,Qo,dB.step rH,hO5.ext rH fun y hy=>(hOb y hy).2⟩,?_⟩⟩
    ·obtain⟨j,h1,_⟩:=hj;exact⟨j+1,by rw[h1]; push_cast; rw[Int.mul_add,Int.mul_one,Int.add_assoc],.inr Qo⟩
    ·show (_-(a6+(gi W.ID (k:Int)).period)).toNat<(_-a6).toNat;omega
   ·have hgt:=Ou hgt;have hv6:a6=KM (gi W.ID (k:Int)).next (gi W.ID (k:Int)).period W.now N:=zso hp1 ⟨Qo,hj⟩ hJ;have uJ:=CE dB.own dB.nb (i:=(k:Int)) Qo Qo (j:=0) (k:=14) Qd;rw[emg] at uJ;refine⟨Wz,uJ,⟨Qo,Qo⟩,fun WY kW hs9=>Z7 Qo ⟨Qo,TP m2 k (VS (m2.ms k) pb),?_,by rw[hd2]; rfl⟩⟩;rw[aL];have rN:=dB.gr (g:=(k:Int)) Qo Qo (G:=Xs W.now N (gi W.ID (k:Int))) (p:=pb) (j:=0) (vs:=Yb (Xs W.now N (gi W.ID (k:Int))) (VS (m2.ms k) pb)) (by rw[hP]; exact hO5) hOb (by rw[eG]; exact(Li _ _ _).2.2.2.1) (by simp[Yb]) (by simp[Yb]);refine(rN.step (w':=WY) ?_).sub fun y hy=>Ib _ (Ib _ hy)
    rw[hP,<-hv6,emg];exact kW
 ·have RH:=Ou RH;rw[<-AD7 Qo] at gV l1 l2 l3 l4;have emt:m2.tO=m'.tO:=by rw[hd2]
  refine P1 W.tasks.length 0 rfl (fun t w2=>t<=12/\Wk 8 [x,x1] w w2 (TZ (ZI W N) t) m2) (fun w2 Rm _=>⟨Qd,gV.step Rm⟩) fun t w2 fU ⟨Cu9,nF⟩=>?_
  obtain⟨q1,q2,q3,q4⟩:=zkn (ZI W N) t;have B69:TZ (ZI W N) (t+1)=IU (TZ (ZI W N) t) (t:Int) (zad (Q8 (TZ (ZI W N) t) (t:Int))):=rfl;have B70:t=12->TZ (ZI W N) 12=TZ (ZI W N) t:=fun e=>by rw[e]
  generalize hU:TZ (ZI W N) t=U at nF q1 q2 q3 q4 B69 B70;have hr:=nF.rd;refine⟨fun IQ=>?_,fun bU Sr AE0 A93=>?_⟩
  ·have IQ:=Ot IQ;have t1:(t:Int)<(U.tasks.length:Int):=by rw[q4,l4]; exact IQ
   have Wz:Ix m'.tO W.tasks.length (t:Int):=by have:=hr.t.ix QL (i:=(t:Int)) Qo t1; rwa[q4,l4,emt] at this
   have hcs:=hr.t (t:Int) Qo t1;rw[emt] at hcs;have uJ:=zfv nF.own nF.nb (i:=(t:Int)) Qo t1 (j:=0) (k:=9) Qd;rw[emt] at uJ;refine⟨Wz,_,_,_,_,_,_,_,_,_,hcs,fun b4 hb4=>⟨_,XY,_,En,_,XY,Wz,uJ,⟨Qo,Qo⟩,fun Sm A32 AP0=>Z7 Qo ⟨Qo,?_⟩⟩⟩;rw[B69];have SP:=nF.own.AE6 (i:=(t:Int)) Qo t1 (j:=0) (vs:=YT (zad (Q8 U (t:Int)))) (x:=zad (Q8 U (t:Int))) (by simp[YT]) (by simp[YT]);have dQ:=nF.RD SP LO;rw[emt] at dQ;exact dQ.step A32
  ·have bU:=Ou bU;rw[B70 Qo] at sd ⊢;have dQ:=nF.step AE0;have Rn:=Qu dQ.own sd Qd Qd dQ.base
   have e5:Qa U m2=[I (W.now+(N:Int)),.slice m'.cO W.IE.length m'.cC,.slice m'.tO W.tasks.length m'.tC,.slice m'.gO W.ID.length m'.gC]:=by
    unfold Qa;rw[q2,q3,q4,q1,l1,l2,l3,l4,hd2]
   rw[e5] at Rn;refine I4 Rn ?_;rintro e2 Rx ⟨m3,aQ,SL⟩;exact⟨_,_,_,_,_,_,_,_,_,_,aQ,dQ.kept SL A93,fun T' Br9=>QJ.ok hW hb ((dQ.SX SL A93).step Br9)⟩
structure Mn (base pb:Nat) (w0:Wo) (m0:MW) (w:Wo) (W:Q7) (m:MW):Prop where
 own:Y8 8 base w W m
 pt:w.heap[pb]? = some (.cells (Qa W m).toArray Q3 (0,0))
 pn:pb∉QD 8 m
 ext:Q0 (pb::QD 8 m0) w0 w
 sub:∀x∈QD 8 m,x∈QD 8 m0\/w0.heap.size<=x
section
variable {base pb:Nat}{w0 w':Wo}{m0 m':MW}
theorem Mn.start(h:PW base pb w W m):Mn base pb w m w W m:=⟨h.own,h.pt,h.pn,Q0.refl _ _,fun _ hx=>.inl hx⟩
end
end
theorem VI.same{W W':Q7}(p:VI W)(ha:WA W')(ht:W'.tasks=W.tasks)(hc:W'.IE=W.IE)(hT:QX W.ID W'.ID)(hs:∀k c:Int,Qc W' k c=Qc W k c):VI W':=by
 have est:∀k c:Int,UW W' k c↔UW W k c:=fun k c=>by
  unfold UW;rw[hT.p,hs,hs]
 refine⟨⟨ha,fun t t0 t1=>?_,fun t t0 t1 n=>by rw[XN ht] at n ⊢; rw[hc]; exact p.l t t0 t1 n,fun k c hk c0 c1=>?_⟩,fun c c0 c1=>?_⟩
 ·rw[XN ht];rcases p.t t t0 t1 with h | ⟨h1,h2⟩
  ·exact .inl h
  ·exact .inr ⟨h1,h2.st,by rw[hT.dT]; exact h2.g,h2.n,h2.m,h2.m0,h2.s,h2.u,h2.l1,h2.l2,fun h=>by rw[hs]; exact h2.f h⟩
 ·rw[hT.dT] at hk;rw[hc] at c1;exact(p.s k c hk c0 c1).Bo4 (hs _ _) fun _=>by rw[hT.p,hs]
 ·rw[hc] at c1;have h:=p.c c c0 c1;refine⟨by rw[hc]; exact h.b,by rw[hc]; exact h.i,by rw[hc]; exact h.c1,by rw[hc]; exact h.c2,by rw[hc]; exact h.no,by rw[hc]; exact h.yes,fun h0 h1 h2=>?_⟩;rw[hc,XN ht] at *;obtain⟨q1,q2⟩:=h.q h0 h1 h2;refine⟨by rw[hs]; exact q1,fun y hy=>?_⟩;rw[VE hT] at hy;rw[est,hT.p,hs,hs];exact q2 y hy
theorem zts{W W':Q7}(hT:QX W.ID W'.ID)(hm:∀i:Int,(gi W'.ID i).IE=(gi W.ID i).IE)(hu:J8 W'.IE=J8 W.IE)(g m:Int):Qv W' g m=Qv W g m:=by
 unfold Qv
 have hp:V7 W'.ID g (J8 W.IE)=V7 W.ID g (J8 W.IE):=by
  unfold V7;rw[show Z2 W'.ID g=Z2 W.ID g from hT.path 3 g]
  congr 1
  funext s x
  rw[hm]
 rw[hu,hp]
theorem Nr.same{W W':Q7}(h:Nr W)(ht:W'.tasks=W.tasks)(hT:QX W.ID W'.ID)(hm:∀i:Int,(gi W'.ID i).IE=(gi W.ID i).IE)(hu:J8 W'.IE=J8 W.IE):Nr W':=fun t t0 t1 n=>by
 rw[XN ht] at n ⊢;rw[zts hT hm hu];exact h t t0 t1 n
theorem zju{W:Q7}{g:Int}{x:Zr}(s:x.IF=(gi W.ID g).IF)(k c:Int):Qc (Rp W g x) k c=Qc W k c:=by
 unfold Qc;rw[show (gi (Rp W g x).ID k).IF=(gi W.ID k).IF from YC (f:=Zr.IF) _ _ s k]
theorem zsh{W:Q7}{g q p:Int}(hW:Qx W=true)(hb:zgx W g q p=0):J0 (zsz W g q p):=by
 have wp:=Qi.1 hW;obtain⟨hu,hz,_,_,sw,sw2⟩:=zpr hW hb;obtain⟨u0,u1,_⟩:=Q5.1 hu;have h:=zeu (W:=W) (g:=g) (q:=q) (p:=p);have hT:=Jg (W:=W) (x:=PF W g q p) u0 u1 h.1 h.2.1 h.2.2.1;exact Zs sw2 Qd Qd ((Xa wp).same sw2.a rfl rfl hT (zju h.2.2.2.1)) ((Uc wp).same rfl hT (fun i=>YC (f:=Zr.IE) _ _ h.2.2.2.2.2.1 i) rfl)
theorem zpg{W:Q7}{n:Int}(hW:Qx W=true)(hb:MY W n=0):J0 (zc7 W n):=by
 have wp:=Qi.1 hW;obtain⟨_,_,sw,_,sp,sd⟩:=zly hW hb;have bW:=wp.a.gl;obtain⟨l1,l2,l3,l4⟩:=Tm W n.toNat 8;have hT:QX W.ID (ZI W n.toNat).ID:=GP W n.toNat 8 Qo
 have key:∀i:Int,(gi (ZI W n.toNat).ID i).IF=(gi W.ID i).IF/\(gi (ZI W n.toNat).ID i).IE=(gi W.ID i).IE:=fun i=>by
  have hu:=Li W.now n.toNat (gi W.ID ((i.toNat:Nat):Int));have e:=Ma W n.toNat 8 Qo ((i.toNat:Nat):Int) Qo;rw[Ak (ZI W n.toNat).ID i,Ak W.ID i];unfold ZI;rw[e];split
  ·exact⟨hu.2.2.2.1,hu.2.2.2.2.2.1⟩
  ·exact⟨rfl,rfl⟩
 have p1:VI (ZI W n.toNat):=(Xa wp).same sp.a l4 l3 hT fun k c=>by unfold Qc; rw[(key k).1]
 have q1:Nr (ZI W n.toNat):=(Uc wp).same l4 hT (fun i=>(key i).2) (by rw[show (ZI W n.toNat).IE=W.IE from l3])
 have all:∀k:Nat,k<=12->VI (TZ (ZI W n.toNat) k)/\Nr (TZ (ZI W n.toNat) k):=by
  intro k
  induction k with
  | zero=>exact fun _=>⟨p1,q1⟩
  | succ k ih=>
   intro hk;obtain⟨a,b⟩:=ih Qo;show VI (IU (TZ (ZI W n.toNat) k) (k:Int) (zad (Q8 (TZ (ZI W n.toNat) k) (k:Int))))/\Nr (IU (TZ (ZI W n.toNat) k) (k:Int) (zad (Q8 (TZ (ZI W n.toNat) k) (k:Int))));generalize TZ (ZI W n.toNat) k=V at a b
   by_cases hs:(Q8 V (k:Int)).state=0
   ·have hz:Q8 V (k:Int)=VV:=by
     rcases a.t (k:Int) Qo Qo with h | h
     ·exact h.2
     ·exact Is hs h.1
    rw[hz];have hd:zad VV=VV:=Qd;rw[hd];exact⟨a.IU Qo Qo (.inl ⟨rfl,rfl⟩) fun c _ _ _ h _=>(by cases h),b.IU a.a Qo Qo fun h=>Is rfl h⟩
   ·have h:=Tx a (t:=(k:Int)) Qo Qo hs;have hlo:=a.l (k:Int) Qo Qo hs
    have hld:0<=(zad (Q8 V (k:Int))).load/\(zad (Q8 V (k:Int))).load<=8000000:=by
     have h1:=h.l1;have h2:=h.l2;have h3:=Y2.1 h.u
     have ht:0<=Int.tdiv (Q8 V (k:Int)).load 8/\Int.tdiv (Q8 V (k:Int)).load 8<=(Q8 V (k:Int)).load:=by
      rw[Int.tdiv_eq_ediv_of_nonneg h1];omega
     show 0<=Y1 (Hv (Q8 V (k:Int)).load (Y1 (Q8 V (k:Int)).used 1000000)) 8000000/\Y1 (Hv (Q8 V (k:Int)).load (Y1 (Q8 V (k:Int)).used 1000000)) 8000000<=8000000;have hm:0<=Y1 (Q8 V (k:Int)).used 1000000:=by unfold Y1; split <;> omega
     have hbt:0<=Hv (Q8 V (k:Int)).load (Y1 (Q8 V (k:Int)).used 1000000):=by unfold Hv; split <;> omega
     generalize Hv (Q8 V (k:Int)).load (Y1 (Q8 V (k:Int)).used 1000000)=y at hbt;unfold Y1
     split <;> omega
    refine⟨a.IU Qo Qo (.inr ⟨hs,⟨h.st,h.g,h.n,h.m,h.m0,h.s,by show ZF 0=true; decide,hld.1,hld.2,h.f⟩,hlo⟩) fun c c0 c1 rF h1 h2=>?_,b.IU a.a Qo Qo fun _=>b (k:Int) Qo Qo hs⟩;have hc:=(a.c c c0 c1).q (by rw[rF]; omega);rw[rF] at hc;exact hc h1 h2
 obtain⟨p2,q2⟩:=all 12 (I8 _);exact Zs sd Qd Qd p2 q2
theorem Ci{W:Q7}(p:VI W){t g c:Int}(t0:0<=t)(t1:t<12)(n:(Q8 W t).state≠0)(hg:Q6 W.ID g=true)(c0:0<=c)(c1:c<(W.IE.length:Int)):VI (UT W t g c):=by
 have h:=Tx p t0 t1 n
 have hT:H7 W (PH W t g c):=⟨h.st,hg,h.n,h.m,h.m0,h.s,h.u,h.l1,h.l2,fun _=>by
  have:=ZW ((Q8 W t).v-(Qc W (Q8 W t).group (Q8 W t).R9).floor) (Qf (Q8 W t).nice);show (Qc W g c).floor<=(Qc W g c).floor+Ew W t/\(Qc W g c).floor+Ew W t-(Qc W g c).floor<=Zv (Qf (Q8 W t).nice);unfold Ew;exact⟨Qo,Qo⟩⟩
 unfold UT;split
 ·exact Ni p t0 t1 n hT rfl c0 c1
 ·rename_i hs;exact p.IU t0 t1 (.inr ⟨n,hT,c0,c1⟩) fun d _ _ _ h _=>Is h hs
theorem Nm(W:Q7)(t g c:Int):VL W (UT W t g c):=by
 unfold UT;split
 ·exact(zjy _ _ _).trans (Lo _ _)
 ·exact zjy _ _ _
theorem zjm{W:Q7}(hl:W.tasks.length=12){t g c:Int}(t0:0<=t)(t1:t<12){i:Int}(i0:0<=i):Q8 (UT W t g c) i=if t=i then PH W t g c else Q8 W i:=by
 have e:Q8 (IU W t (PH W t g c)) i=if t=i then PH W t g c else Q8 W i:=QC _ _ t0 Qo i0;unfold UT;split
 ·exact e
 ·exact e
theorem zll{W:Q7}(p:VI W):∀k:Nat,k<=12->VI (JN W k)/\VL W (JN W k)/\(∀t:Int,0<=t->t<(k:Int)->(Q8 (JN W k) t).state≠0->Ze (Qv (JN W k) (Q8 (JN W k) t).group (Q8 (JN W k) t).mask) (Q8 (JN W k) t).R9=true)
 | 0,_=>⟨p,VL.refl _,fun t a b=>by omega⟩
 | k+1,hk=>by
  obtain⟨a,b,d⟩:=zll p k Qo;simp only[JN];generalize JN W k=V at a b d;have hl:=a.a.t;split
  ·rename_i hm;unfold KK at hm;simp only[A',Iu,ne_eq] at hm;have h:=Tx a (t:=(k:Int)) Qo Qo hm.1;have hf:=Lv a.a (Q8 V (k:Int)).group (Q8 V (k:Int)).mask;have hw:=L5 a.a (Q8 V (k:Int)).group (Q8 V (k:Int)).mask;refine⟨Ci a Qo Qo hm.1 h.g hf.1 hf.2,b.trans (Nm _ _ _ _),fun t t0 t1 n=>?_⟩;rw[(Nm V _ _ _).wh];rw[zjm hl Qo Qo t0] at n ⊢
   split at n
   ·rename_i he;rw[E' he];exact D0 hw.1 hw.2
   ·rename_i he;rw[C' he];exact d t t0 Qo n
  ·rename_i hm;refine⟨a,b,fun t t0 t1 n=>?_⟩
   by_cases he:t=(k:Int)
   ·subst he;have hm:KK V (k:Int)=false:=by simpa using hm
    unfold KK at hm;rw[show ((Q8 V (k:Int)).state != 0)=true by simpa using n,Bool.true_and] at hm
    simpa using hm
   ·exact d t t0 Qo n
theorem Nl{W:Q7}(sf:SF Qj (Qj+Qn) W)(p:VI W):J0 (Qh (LN W)):=by
 obtain⟨a,b,d⟩:=zll p 12 (I8 _);exact Zs (Lm sf (I3 _)).1.w (by simp only[Qn]; decide) (by simp only[Qn,UV]; decide) a d
theorem zsl{W:Q7}{t x:Int}(hW:Qx W=true)(hb:GR W t x=0):J0 (zqi W t x):=by
 have wp:=Qi.1 hW;obtain⟨h1,_,sf⟩:=zqj hW hb;obtain⟨t0,t1,tn⟩:=YH h1;have hl:=wp.a.t;have p:=Xa wp;have h:=Tx p t0 Qo tn
 have hx:Ow x=true/\x≠0:=by
  unfold GR at hb
  split at hb
  ·cases hb
  ·rename_i hn;exact⟨by cases hm:Ow x with | true=>rfl | false=>exact Is (.inl hm) hn,fun e=>hn (.inr e)⟩
 refine Nl sf (p.IU t0 Qo (.inr ⟨tn,⟨h.st,h.g,h.n,hx.1,hx.2,h.s,h.u,h.l1,h.l2,h.f⟩,p.l t t0 Qo tn⟩) fun c c0 c1 rF h1 h2=>?_);have hc:=(p.c c c0 c1).q (by rw[rF]; omega);rw[rF] at hc;exact hc h1 h2
theorem zsg{W:Q7}{g x:Int}(hW:Qx W=true)(hb:zgl W g x=0):J0 (zo7 W g x):=by
 have wp:=Qi.1 hW;obtain⟨hu,_,_,sf,hT⟩:=zo8 hW hb;exact Nl sf ((Xa wp).same sf.w.a rfl rfl hT (zju rfl))
theorem H7.gr{W W':Q7}{x:Pi}(h:H7 W x)(e:W'.ID=W.ID):H7 W' x:=
 ⟨h.st,by rw[e]; exact h.g,h.n,h.m,h.m0,h.s,h.u,h.l1,h.l2,fun hs=>by unfold Qc; rw[e]; exact h.f hs⟩
theorem zu4{W:Q7}{c:Int}(hW:Qx W=true)(hb:UE W c false 0=0):J0 (zwr W c):=by
 have wp:=Qi.1 hW;obtain⟨c0,c1,_,sf⟩:=zuc hW hb;have p:=Xa wp;refine Nl sf ⟨⟨sf.w.a,fun t t0 t1=>(p.t t t0 t1).imp id fun h=>⟨h.1,h.2.gr rfl⟩,fun t t0 t1 n=>?_,fun k d hk d0 d1=>?_⟩,fun d d0 d1=>?_⟩
 ·have:=p.l t t0 t1 n;show _/\_<(((W.IE.set c.toNat _).length:Nat):Int);rw[H']; exact this
 ·have d1:d<(((W.IE.set c.toNat (MZ (gi W.IE c) true)).length:Nat):Int):=d1;rw[H'] at d1;exact(p.s k d hk d0 d1).Bo4 rfl fun _=>rfl
 ·have d1:d<(((W.IE.set c.toNat (MZ (gi W.IE c) true)).length:Nat):Int):=d1;rw[H'] at d1;have h:=p.c d d0 d1;have e:gi (RW W c (MZ (gi W.IE c) true)).IE d=if c=d then MZ (gi W.IE c) true else gi W.IE d:=QC _ _ c0 c1 d0
  have eb:(gi (RW W c (MZ (gi W.IE c) true)).IE d).cur=(gi W.IE d).cur/\(gi (RW W c (MZ (gi W.IE c) true)).IE d).WS=(gi W.IE d).WS/\(gi (RW W c (MZ (gi W.IE c) true)).IE d).busy=(gi W.IE d).busy/\(gi (RW W c (MZ (gi W.IE c) true)).IE d).idle=(gi W.IE d).idle/\((gi W.IE d).up=true->(gi (RW W c (MZ (gi W.IE c) true)).IE d).up=true):=by
   rw[e];split
   ·rename_i he; subst he; exact⟨rfl,rfl,rfl,rfl,fun _=>rfl⟩
   ·exact⟨rfl,rfl,rfl,rfl,id⟩
  obtain⟨e1,e2,e3,e4,e5⟩:=eb;refine⟨by rw[e3]; exact h.b,by rw[e4]; exact h.i,by rw[e1]; exact h.c1,by rw[e1]; exact h.c2,by rw[e1,e2]; exact h.no,fun h0=>?_,?_⟩
  ·rw[e1] at h0;have:=h.yes h0;exact⟨e5 this.1,by rw[e2]; exact this.2⟩
  ·rw[e1,e2]; exact h.q
theorem zsk{W:Q7}{c:Int}(hW:Qx W=true)(hb:UE W c true (KO W)=0):J0 (zp8 W c):=by
 have wp:=Qi.1 hW;obtain⟨c0,c1,_,sf⟩:=zp9 hW hb;have p:=Xa wp;have hl:(RW W c (MZ (gi W.IE c) false)).IE.length=W.IE.length:=H';have sfE:=sf.RC c0 (by rw[hl]; exact c1)
 have hcs:RC (RW W c (MZ (gi W.IE c) false)) c=RW W c (Xx (MZ (gi W.IE c) false)):=by
  have e:gi (RW W c (MZ (gi W.IE c) false)).IE c=MZ (gi W.IE c) false:=(QC _ _ c0 c1 c0).trans (E' rfl);unfold RC;rw[e];simp[RW,List.set_set]
 show J0 (Qh (LN (RC (RW W c (MZ (gi W.IE c) false)) c)));rw[hcs] at sfE ⊢;refine Nl sfE ⟨⟨sfE.w.a,fun t t0 t1=>(p.t t t0 t1).imp id fun h=>⟨h.1,h.2.gr rfl⟩,fun t t0 t1 n=>?_,fun k d hk d0 d1=>?_⟩,fun d d0 d1=>?_⟩
 ·have:=p.l t t0 t1 n;show _/\_<(((W.IE.set c.toNat _).length:Nat):Int);rw[H']; exact this
 ·have d1:d<(((W.IE.set c.toNat (Xx (MZ (gi W.IE c) false))).length:Nat):Int):=d1;rw[H'] at d1;exact(p.s k d hk d0 d1).Bo4 rfl fun _=>rfl
 ·have d1:d<(((W.IE.set c.toNat (Xx (MZ (gi W.IE c) false))).length:Nat):Int):=d1;rw[H'] at d1;have h:=p.c d d0 d1;have e:gi (RW W c (Xx (MZ (gi W.IE c) false))).IE d=if c=d then Xx (MZ (gi W.IE c) false) else gi W.IE d:=QC _ _ c0 c1 d0
  by_cases he:c=d
  ·subst he;have e:=e.trans (E' rfl);refine⟨by rw[e]; exact h.b,by rw[e]; exact h.i,by rw[e]; show (-1:Int)<=-1; decide,by rw[e]; show (-1:Int)<12; decide,fun _=>by rw[e]; rfl,fun h0=>?_,fun h0=>?_⟩
   ·rw[e] at h0;have h0:(0:Int)<=-1:=h0;omega
   ·rw[e] at h0;have h0:(0:Int)<=-1:=h0;omega
  ·have e:=e.trans (C' he);exact⟨by rw[e]; exact h.b,by rw[e]; exact h.i,by rw[e]; exact h.c1,by rw[e]; exact h.c2,by rw[e]; exact h.no,by rw[e]; exact h.yes,by rw[e]; exact h.q⟩
def CB(W:Q7)(g c x:Int):K0:={ Qc W g c with v:=if (Qc W g c).on=true then (Qc W (gi W.ID g).parent c).floor+X8 ((Qc W g c).v-(Qc W (gi W.ID g).parent c).floor) x else (Qc W g c).v,w:=x }
def zfr(W:Q7)(g c:Int):Bool:=decide ((gi W.IE c).cur>=0)&&VQ 3 W.ID g (Q8 W (gi W.IE c).cur).group
def Jy(W:Q7)(g c x:Int):Q7:=RM W g c (CB W g c x)
def MJ(W:Q7)(g c x:Int):Q7:=if (Qc W g c).w=x then W else if zfr (Jy W g c x) g c=true then RC (Jy W g c x) c else Jy W g c x
def G5(W:Q7):Prop:=∀c:Int,0<=c->c<(W.IE.length:Int)->(gi W.IE c).cur>=0->Q6 W.ID (Q8 W (gi W.IE c).cur).group=true
theorem zkm{W:Q7}(wp:XA W):G5 W:=fun c c0 c1 h=>by
 have hc:=wp.c c c0 c1;have hy:=hc.yes h;have hl:=hy.2.2.2.2.1;have c2:=hc.c2;have ht:=wp.a.t;unfold ZE at hl;simp only[A',It] at hl;rcases wp.t (gi W.IE c).cur h Qo with h1 | h1
 ·rw[h1.1] at hl; exact Is hl.1 Qd
 ·exact h1.2.g
theorem G5.RM{W:Q7}(h:G5 W){g c:Int}{s:K0}(u0:0<=g)(u1:g<(W.ID.length:Int)):G5 (RM W g c s):=fun d d0 d1 hc=>by
 rw[(Xu u0 u1).dT];exact h d d0 d1 hc
theorem G5.RC{W:Q7}(h:G5 W){c:Int}(c0:0<=c)(c1:c<(W.IE.length:Int)):G5 (RC W c):=fun d d0 d1 hc=>by
 have d1:d<(((W.IE.set c.toNat (Xx (gi W.IE c))).length:Nat):Int):=d1;rw[H'] at d1;have hg:gi (YtnclplgaicdapaaGreatDoor.RC W c).IE d=if c=d then Xx (gi W.IE c) else gi W.IE d:=QC _ _ c0 c1 d0;rw[hg] at hc ⊢
 split at hc
 ·exact Is hc (by show ¬(-1:Int)>=0; decide)
 ·rename_i hn;rw[C' hn];exact h d d0 d1 hc
theorem ztr{F K:Int}{W:Q7}(h:SF F K W)(hk:F+Qn<=K){g c x:Int}(hu:Q6 W.ID g=true)(hz:g≠0)(c0:0<=c)(c1:c<(W.IE.length:Int))(x1:1<=x)(x2:x<=20):SF F K (Jy W g c x):=by
 have hp:=h.w.a.up hu hz;have s1:=h.w.s g c hu c0 c1;have s2:=h.w.s _ c hp c0 c1;have f1:=h.f g c hu c0 c1;have f2:=h.f _ c hp c0 c1;have lc:=ZW ((Qc W g c).v-(Qc W (gi W.ID g).parent c).floor) x;have lm:=ZU x;refine h.RM hu c0 c1 s1.1 f1 (by show (Qc W g c).floor<=K; omega) ?_ ?_ x1 x2
 ·simp only[CB]; split <;> omega
 ·simp only[CB]; simp only[Qn] at hk; split <;> omega
theorem zl3{F K:Int}{W:Q7}(h:SF F K W)(hk:F+Qn<=K)(hc:G5 W){g c x:Int}(hu:Q6 W.ID g=true)(hz:g≠0)(c0:0<=c)(c1:c<(W.IE.length:Int))(x1:1<=x)(x2:x<=20):SF F K (MJ W g c x)/\Fr W (MJ W g c x)/\G5 (MJ W g c x):=by
 obtain⟨u0,u1,_⟩:=Q5.1 hu;have hv:=ztr h hk hu hz c0 c1 x1 x2;have hf:Fr W (Jy W g c x):=(M9 u0 u1).fr;have hc2:G5 (Jy W g c x):=hc.RM u0 u1;unfold MJ;split
 ·exact⟨h,Fr.refl _,hc⟩
 ·split
  ·exact⟨hv.RC c0 c1,hf.trans (Aj _ _),hc2.RC c0 c1⟩
  ·exact⟨hv,hf,hc2⟩
def L4(W:Q7)(g x:Int):Nat->Q7
 | 0=>W
 | c+1=>MJ (L4 W g x c) g (c:Int) x
theorem zfs{F K:Int}{W:Q7}(h:SF F K W)(hk:F+Qn<=K)(hc:G5 W){g x:Int}(hu:Q6 W.ID g=true)(hz:g≠0)(x1:1<=x)(x2:x<=20):∀c:Nat,c<=W.IE.length->SF F K (L4 W g x c)/\Fr W (L4 W g x c)/\G5 (L4 W g x c)
 | 0,_=>⟨h,Fr.refl _,hc⟩
 | c+1,hn=>by
  obtain⟨a,b,d⟩:=zfs h hk hc hu hz x1 x2 c Qo;obtain⟨a2,b2,d2⟩:=zl3 a hk d (g:=g) (c:=(c:Int)) (x:=x) (by rw[b.g.dT]; exact hu) hz Qo (by rw[b.c]; omega) x1 x2;exact⟨a2,b.trans b2,d2⟩
def Mh(W:Q7)(g x:Int):Zr:={ gi W.ID g with weight:=x }
noncomputable def zh4(W:Q7)(g x:Int):Int:=Pz W g (Yx x 1 20)
def zrc(W:Q7)(g x:Int):Q7:=Qh (L4 (Rp W g (Mh W g x)) g x W.IE.length)
theorem zrd{W:Q7}{g x:Int}(hW:Qx W=true)(hb:zh4 W g x=0):Yx x 1 20=true/\g≠0/\Q6 W.ID g=true/\QH W=true/\SF Qj (Qj+Qn) W/\SF Qj (Qj+Qn) (Rp W g (Mh W g x))/\G5 (Rp W g (Mh W g x))/\QX W.ID (Rp W g (Mh W g x)).ID:=by
 obtain⟨h1,h2,h3,h4⟩:=zek hb;have wp:=Qi.1 hW;have sw:=P8 wp (Qi.1 h4);obtain⟨u0,u1,hg⟩:=wp.a.u h3;have hx:=Qt.1 h1;have hl:=wp.a.gl;have s1:=sw.Rp (x:=Mh W g x) h3 rfl rfl rfl rfl ⟨hx.1,hx.2,hg.m,hg.m0,hg.s,hg.len,fun h=>Is h h2,hg.none,hg.IT⟩;have hT:QX W.ID (Rp W g (Mh W g x)).ID:=Jg u0 Qo rfl rfl rfl;refine⟨h1,h2,h3,h4,sw.sf.mono (I3 _) (by simp only[Qn]; decide),s1.sf.mono (I3 _) (by simp only[Qn]; decide),fun d d0 d1 hc=>?_,hT⟩;rw[hT.dT];exact zkm wp d d0 d1 hc
theorem zq9{gs:List Zr}(ht:ZX gs){g h:Int}(u1:Q6 gs g=true)(u2:Q6 gs h=true):Of gs g h=VQ 3 gs g h:=by
 unfold Of;rw[u1,u2,show TQ gs=true from @Ii _ (Classical.propDecidable _) ht];rfl
section
variable {base:Nat}{W W':Q7}{m:MW}{w:Wo}{bar:Int}
theorem M2{F K:Int}(h:Y8 8 base w W m)(pU:SF F K W)(hk:F+Qn<=K)(hK:K<=1000000000000000000)(hcu:G5 W){g c x:Int}(hu:Q6 W.ID g=true)(hz:g≠0)(c0:0<=c)(c1:c<(W.IE.length:Int)) :
  Cz Jp #[.agg (Qa W m).toArray,I g,I c,I x] w fun e w'=>e=.returned (.agg (Qa W m).toArray)/\Mv 8 base [] w m w' (MJ W g c x) m:=by
 refine(Ea _ _ _ _ _ _ _ _ _ _ g c x (R:=fun v w'=>v=.agg (Qa W m).toArray/\Mv 8 base [] w m w' (MJ W g c x) m) ?_).mono fun e w' ⟨v,he,hv,h3⟩=>⟨by rw[he,hv],h3⟩
 intro y hy y1 cY;obtain⟨u0,u1,_⟩:=Q5.1 hu;have bW:=pU.w.a.gl;have jV:=pU.w.a.t;have hsl:=pU.w.a.sl hu;have hp:=pU.w.a.up hu hz;obtain⟨p0,p1,_⟩:=Q5.1 hp;have hpl:=pU.w.a.sl hp;have s1:=pU.w.s g c hu c0 c1;have s2:=pU.w.s _ c hp c0 c1;have lc:=ZW ((Qc W g c).v-(Qc W (gi W.ID g).parent c).floor) x;have lm:=ZU x;have hM:=Mv.two h hy cY;have hr:=(Mv.start h).rd;have Wz:=hr.g.ix (i:=g) u0 u1;have AI8:=(hr.g.IF g u0 u1).ix ZK c0 Qo;have hcx:=hr.c.ix Y0 c0 c1;have uJ:=zuf h Qs (i:=g) (bs:=[]) u0 Qo c0 Qo (j:=0) (k:=5) Qd;have hcr:=pU.w.cu c c0 c1;have uC:decide ((gi W.IE c).cur>=0)=true->(gi W.IE c).cur<(W.tasks.length:Int):=fun _=>by omega
 have hT:QX W.ID (Jy W g c x).ID:=Xu u0 u1
 have hE:(decide ((gi W.IE c).cur>=0)&&Of (Jy W g c x).ID g (gi W.tasks (gi W.IE c).cur).group)=zfr (Jy W g c x) g c:=by
  unfold zfr;show _=(decide ((gi W.IE c).cur>=0)&&VQ 3 (Jy W g c x).ID g (Q8 W (gi W.IE c).cur).group)
  by_cases hc:(gi W.IE c).cur>=0
  ·rw[zq9 (hT.tree pU.w.a.tree) (by rw[hT.dT]; exact hu) (by rw[hT.dT]; exact hcu c c0 c1 hc)]; rfl
  ·rw[decide_eq_false hc]; rfl
 have hlen:(Jy W g c x).ID.length=W.ID.length:=hT.len;have zN:Fr W (Jy W g c x):=(M9 u0 u1).fr;have eW:Qa (Jy W g c x) m=Qa W m:=Om zN;have eE:Qa (RC (Jy W g c x) c) m=Qa W m:=Om (zN.trans (Aj _ _));refine⟨Wz,_,_,_,hr.g.S3 u0 u1,AI8,_,_,_,_,_,(hr.g.IF g u0 u1) c c0 Qo,fun b2 cD=>⟨fun g1 wr hx=>⟨rfl,?_⟩,fun g1=>⟨fun g2=>?_,fun g2=>?_⟩⟩⟩
 ·have g1:(Qc W g c).w=x:=Iz g1;unfold MJ;rw[E' g1];exact(Mv.start h).R4 hx
 ·have hss:CB W g c x=⟨(Qc W g c).floor,(Qc W g c).on,(Qc W (gi W.ID g).parent c).floor+X8 ((Qc W g c).v-(Qc W (gi W.ID g).parent c).floor) x,x,(Qc W g c).sum⟩:=by
   unfold CB;rw[E' (show (Qc W g c).on=true from g2)]
  have SP:=AG pU h hk hu rfl c0 c1 (CB W g c x);rw[hss] at SP;have cX:=((hM.add cD).SX SP (N3 Qo));have hV:RM W g c ⟨(Qc W g c).floor,(Qc W g c).on,(Qc W (gi W.ID g).parent c).floor+X8 ((Qc W g c).v-(Qc W (gi W.ID g).parent c).floor) x,x,(Qc W g c).sum⟩=Jy W g c x:=by unfold Jy; rw[hss]
  rw[hV] at cX;have tG:=cX.rd;have CD5:=cX.close;have bH:=CD5.rd;refine⟨Wz,_,hr.g.parent u0 u1,hr.g.ix p0 p1,_,_,_,hr.g.S3 p0 p1,(hr.g.IF _ p0 p1).ix ZK c0 Qo,_,zh7.f (hr.g.IF _ p0 p1) c0 Qo (j:=0) rfl,⟨by show _<=(Qc W g c).v-(Qc W (gi W.ID g).parent c).floor; omega,by show (Qc W g c).v-(Qc W (gi W.ID g).parent c).floor<=_; omega⟩,_,PD,⟨by show _<=(Qc W (gi W.ID g).parent c).floor+X8 ((Qc W g c).v-(Qc W (gi W.ID g).parent c).floor) x; omega,by show (Qc W (gi W.ID g).parent c).floor+X8 ((Qc W g c).v-(Qc W (gi W.ID g).parent c).floor) x<=_; omega⟩,Wz,_,_,_,hr.g.S3 u0 u1,AI8,uJ,hcx,(gi W.IE c).cur,?_⟩;refine⟨zwc.f bH.c c0 c1 (j:=1) rfl,fun gc=>bH.t.ix QL (Ot gc) (uC gc),_,fun gc=>zrh.f bH.t (Ot gc) (uC gc) (j:=1) rfl,_,fun gc=>by rw[<-hlen]; exact Ti bH.g (by have:=Zc; omega),fun gc R2 Rm gZ=>?_,fun gc Rt Rm=>?_⟩
  ·have he:zfr (Jy W g c x) g c=true:=by rw[<-hE]; exact gc
   have vA:=cX.step (Rm.of_nil);have Rn:=Zu vA.own c0 c1;rw[eW,eE] at Rn;refine I4 Rn ?_;rintro e wv ⟨kE,SL⟩;refine⟨_,_,_,_,_,_,_,_,_,_,kE,vA.kept SL gZ,fun O' SZ=>⟨rfl,?_⟩⟩;unfold MJ;rw[C' (show ¬(Qc W g c).w=x from ne_of_beq_false g1),E' he];exact((vA.call SL gZ).step SZ).close
  ·have he:zfr (Jy W g c x) g c=false:=by rw[<-hE]; exact gc
   refine⟨rfl,?_⟩;unfold MJ;rw[C' (show ¬(Qc W g c).w=x from ne_of_beq_false g1),C' (by rw[he]; decide)];exact(cX.step Rm.of_nil).close
 ·have hss:CB W g c x=⟨(Qc W g c).floor,(Qc W g c).on,(Qc W g c).v,x,(Qc W g c).sum⟩:=by
   unfold CB;rw[C' (by rw[show (Qc W g c).on=false from g2]; decide)]
  have SP:=AG pU h hk hu rfl c0 c1 (CB W g c x);rw[hss] at SP;have cX:=((hM.add cD).SX SP (N3 Qo));have hV:RM W g c ⟨(Qc W g c).floor,(Qc W g c).on,(Qc W g c).v,x,(Qc W g c).sum⟩=Jy W g c x:=by unfold Jy; rw[hss]
  rw[hV] at cX;have tG:=cX.rd;have CD5:=cX.close;have bH:=CD5.rd;refine⟨Wz,_,_,_,hr.g.S3 u0 u1,AI8,uJ,hcx,(gi W.IE c).cur,?_⟩;refine⟨zwc.f bH.c c0 c1 (j:=1) rfl,fun gc=>bH.t.ix QL (Ot gc) (uC gc),_,fun gc=>zrh.f bH.t (Ot gc) (uC gc) (j:=1) rfl,_,fun gc=>by rw[<-hlen]; exact Ti bH.g (by have:=Zc; omega),fun gc R2 Rm gZ=>?_,fun gc Rt Rm=>?_⟩
  ·have he:zfr (Jy W g c x) g c=true:=by rw[<-hE]; exact gc
   have vA:=cX.step (Rm.of_nil);have Rn:=Zu vA.own c0 c1;rw[eW,eE] at Rn;refine I4 Rn ?_;rintro e wv ⟨kE,SL⟩;refine⟨_,_,_,_,_,_,_,_,_,_,kE,vA.kept SL gZ,fun O' SZ=>⟨rfl,?_⟩⟩;unfold MJ;rw[C' (show ¬(Qc W g c).w=x from ne_of_beq_false g1),E' he];exact((vA.call SL gZ).step SZ).close
  ·have he:zfr (Jy W g c x) g c=false:=by rw[<-hE]; exact gc
   refine⟨rfl,?_⟩;unfold MJ;rw[C' (show ¬(Qc W g c).w=x from ne_of_beq_false g1),C' (by rw[he]; decide)];exact(cX.step Rm.of_nil).close
theorem HR{g x:Int}(h:Xb [] w W m)(hl:Xh W) :
  Cz UN #[.agg (Qa W m).toArray,I g,I x] w fun e w'=>∃v,e=.returned v/\QJ (Yp W (zh4 W g x) (zrc W g x)) w v w':=by
 refine Hy _ _ _ _ _ _ _ _ _ _ g x (R:=fun v w'=>QJ (Yp W (zh4 W g x) (zrc W g x)) w v w') ?_;intro y hy y1 cY;refine⟨_,J7,fun wr R6 SY=>?_⟩;refine I4 (Ux (g:=g) (ok:=Yx x 1 20) (h.ext R6) hl) ?_;rintro e wv (⟨hW,he,SL⟩ | ⟨hW,m',he,hM,SL⟩)
 ·exact⟨_,_,_,_,_,_,_,_,_,_,_,he,Qe SL SY,fun _ R2 Rm=>QJ.bad hW ((R6.trans SL).fresh Rm fun z hm=>.inl (Yv hy cY z hm)),fun g=>by simp at g⟩
 have hK:=Wk.begin hy cY R6 SY hM SL;refine⟨_,_,_,_,_,_,_,_,_,_,_,he,Qe SL SY,fun g1 R2 Rm=>QJ.no hW (by simpa[zh4] using g1) (hK.step Rm) rfl,fun g1=>?_⟩;have hb:zh4 W g x=0:=by simpa[zh4] using g1
 have hr:=hK.rd;obtain⟨Cr2,hz,hu,zV,_,sf,hcu,hT⟩:=zrd hW hb;have hxr:=Qt.1 Cr2;obtain⟨u0,u1,_⟩:=Q5.1 hu;have bW:W.ID.length=8:=by have:=sf.w.a.gl; rwa[hT.len] at this
 have Wz:=hr.g.ix (i:=g) u0 u1;have SP:Wk 8 [y,y1] w (RD wv m'.gO (Int.toNat g*14+3) [I x]) (Rp W g (Mh W g x)) m':=hK.RD (hK.own.BE3 u0 Qo (g:=Mh W g x) rfl rfl rfl (j:=3) (vs:=[I x]) rfl Qs) Dq;have uJ:=CE hK.own hK.nb (i:=g) u0 Qo (j:=3) (k:=1) Qd;have e0:Qa (Rp W g (Mh W g x)) m'=Qa W m':=by simp[Qa,Rp]
 have huV:Q6 (Rp W g (Mh W g x)).ID g=true:=by rw[hT.dT]; exact hu
 have qW:(Rp W g (Mh W g x)).IE.length=W.IE.length:=rfl;have hE:zrc W g x=Qh (L4 (Rp W g (Mh W g x)) g x W.IE.length):=rfl;rw[hE];have hc4:=sf.w.a.c2;generalize Rp W g (Mh W g x)=V at SP sf hcu hT e0 huV qW hc4;refine⟨Wz,uJ,fun vs w1=>∃(k:Nat),vs=I (k:Int)::Qa W m'/\k<=W.IE.length/\Wk 8 [y,y1] w w1 (L4 V g x k) m',Zo W.IE.length 0,fun w1 uV _=>⟨0,rfl,Ie _,SP.step uV⟩,?_⟩;rintro c1 l RZ Sa Sh S9 Sf Sg S4 S5 S7 Rx gZ ⟨k,aQ,hk,gV⟩;obtain⟨hS,hf,hc2⟩:=zfs sf (I3 _) hcu huV hz hxr.1 hxr.2 k Qo;have aL:L4 V g x (k+1)=MJ (L4 V g x k) g (k:Int) x:=rfl;have AD7:k=W.IE.length->L4 V g x W.IE.length=L4 V g x k:=fun e=>by rw[e]
 have eU:Qa (L4 V g x k) m'=Qa W m':=(Om hf).trans e0;have hcU:=hf.c;have huU:Q6 (L4 V g x k).ID g=true:=by rw[hf.g.dT]; exact huV
 simp only[Qa,I5,I6,Iw,true_and,and_true] at aQ;obtain⟨rfl,rfl,⟨rfl,rfl,rfl⟩,⟨rfl,rfl,rfl⟩,rfl,rfl,rfl⟩:=aQ;generalize L4 V g x k=U at gV hS hf hc2 aL AD7 eU hcU huU;refine⟨fun IQ Rt Rm fU=>?_,fun RH RR SK kK=>?_⟩
 ·have IQ:=Ot IQ;have nF:=gV.step Rm;have Rn:=M2 nF.own hS (I3 _) (by simp only[Qn]; decide) hc2 (g:=g) (c:=(k:Int)) (x:=x) huU hz Qo Qo;rw[eU] at Rn;refine I4 Rn ?_;rintro e Sk ⟨fH,jW⟩;refine⟨_,_,_,_,_,_,_,_,_,_,fH,nF.kept jW fU,⟨Qo,Qo⟩,fun Ry SZ _=>⟨⟨k+1,rfl,Qo,?_⟩,?_⟩⟩
  ·rw[aL];exact(nF.SX jW fU).step SZ
  ·simp only[Zo,Xl,Y5,Ig]; omega
 ·have RH:=Ou RH;rw[AD7 Qo];have dB:=gV.step SK;have Rn:=Qu dB.own hS.w (by simp only[Qn]; decide) (by simp only[Qn]; decide) dB.base;rw[eU] at Rn;refine I4 Rn ?_;rintro e2 Rx ⟨m2,aQ,SL⟩;exact⟨_,_,_,_,_,_,_,_,_,_,aQ,dB.kept SL kK,fun Ry SK=>QJ.ok hW hb ((dB.SX SL kK).step SK)⟩
section
variable {pb:Nat}
end
end
def zwk(W:Q7)(t b c:Int):Bool:=(HZ W c==0)||decide (HZ W c+Qf (Q8 W t).nice<=HZ W b-Qf (Q8 W t).nice)
def zbv(W:Q7)(b c:Int)(t:Nat):Bool:=(((Q8 W (t:Int)).R9==b)&&U5 W (t:Int) c)&&zwk W (t:Int) b c
def TJ(W:Q7)(b c:Int):Nat->Nat->Int
 | 0,_ => -1
 | f+1,j=>if zbv W b c j=true then (j:Int) else TJ W b c f (j+1)
theorem zmp{W:Q7}{b c:Int}{f j:Nat}(h:zbv W b c j=true):TJ W b c (f+1) j=(j:Int):=E' h
theorem ziu{W:Q7}{b c:Int}{f j:Nat}(h:zbv W b c j=false):TJ W b c (f+1) j=TJ W b c f (j+1):=C' (by rw[h]; decide)
noncomputable def zg9(W:Q7)(c:Int):Nat->Nat->Int
 | 0,_ => -1
 | f+1,k=>if TF W c (k:Int)<0 then zg9 W c f (k+1) else if TJ W (TF W c (k:Int)) c 12 0<0 then zg9 W c f (k+1) else TJ W (TF W c (k:Int)) c 12 0
noncomputable def Mb(W:Q7)(c:Int):Int:=zg9 W c (Ng (W.IE.length:Int)).toNat 0
theorem zhb{W:Q7}{c:Int}{f k:Nat}(h:TF W c (k:Int)<0):zg9 W c (f+1) k=zg9 W c f (k+1):=E' h
theorem zha{W:Q7}{c:Int}{f k:Nat}(h:TJ W (TF W c (k:Int)) c 12 0<0):zg9 W c (f+1) k=zg9 W c f (k+1):=by
 simp only[zg9]
 by_cases h0:TF W c (k:Int)<0
 ·rw[E' h0]
 ·rw[C' h0,E' h]
theorem zhc{W:Q7}{c:Int}{f k:Nat}(h0:¬TF W c (k:Int)<0)(h:¬TJ W (TF W c (k:Int)) c 12 0<0):zg9 W c (f+1) k=TJ W (TF W c (k:Int)) c 12 0:=by
 simp only[zg9];rw[C' h0,C' h]
theorem AI{W:Q7}(wp:XA W)(c:Int):0<=HZ W c/\HZ W c<=240:=by
 have:=UX (Fi W c) W.tasks.length;have ht:=wp.a.t;unfold HZ;omega
section
variable {W:Q7}{m:MW}{w:Wo}{bs:List Nat}{p:OA}
theorem AA{t b c:Int}(h:Xb bs w W m)(wp:XA W)(t0:0<=t)(t1:t<(W.tasks.length:Int)):PX bs O4 #[.agg (Qa W m).toArray,I t,I b,I c] w (.bool (zwk W t b c)):=
 C5 _ _ _ _ _ _ _ _ _ _ t b c fun wr hx=>by
  have h:=(h.ext hx).less (cs:=[]) Qs;have r1:=AI wp c;have r2:=AI wp b;have r3:0<=Qf (gi W.tasks t).nice/\Qf (gi W.tasks t).nice<=20:=XP _;exact fun _ _=>⟨_,Vz h wp,h.t.ix QL t0 t1,_,h.t.f t0 t1 (j:=3) rfl,_,ZH,fun _=>⟨Qo,Qo⟩,_,fun _=>Vz h wp,fun _=>⟨Qo,Qo⟩,rfl⟩
theorem AB{c:Int}(h:Xb bs w W m)(wp:XA W)(c0:0<=c)(c1:c<(W.IE.length:Int)):PX bs O5 #[.agg (Qa W m).toArray,I c] w (I (Mb W c)):=
 C7 _ _ _ _ _ _ _ _ _ _ c fun wr hx=>by
  have h:=(h.ext hx).less (cs:=[]) Qs;have hlv:=zk6 (W.IE.length:Int);have jV:=wp.a.t;intro _ _;refine Xg 2 0 rfl (fun k=>(k:Int)<=Ng (W.IE.length:Int)/\zg9 W c ((Ng (W.IE.length:Int)).toNat-k) k=Mb W c) ⟨hlv.1,rfl⟩ fun k ⟨hk,hI⟩=>⟨_,Oi,fun IQ=>?_,fun RH=>?_⟩
  ·have IQ:=Ot IQ;have ek:(Ng (W.IE.length:Int)).toNat-k=((Ng (W.IE.length:Int)).toNat-(k+1))+1:=Qo;rw[ek] at hI;have nxt:zg9 W c ((Ng (W.IE.length:Int)).toNat-(k+1)) (k+1)=Mb W c->((k+1:Nat):Int)<=Ng (W.IE.length:Int)/\zg9 W c ((Ng (W.IE.length:Int)).toNat-(k+1)) (k+1)=Mb W c:=fun hp=>⟨Qo,hp⟩
   refine⟨_,HP,_,HT h wp c0 c1,fun g=>⟨⟨Qo,Qo⟩,QA Qo (nxt ?_)⟩,fun g=>?_⟩
   ·rw[<-hI,zhb (show TF W c (k:Int)<0 from Ot g)]
   ·have g:¬TF W c (k:Int)<0:=Ou g;refine Xg 12 0 rfl (fun j=>j<=12/\TJ W (TF W c (k:Int)) c (12-j) j=TJ W (TF W c (k:Int)) c 12 0) ⟨Ie _,rfl⟩ fun j ⟨hj,hF⟩=>⟨fun RU=>?_,fun bU=>?_⟩
    ·have RU:=Ot RU;have uE:j<12:=Qo;rw[show 12-j=(12-(j+1))+1 by omega] at hF;refine⟨h.t.ix QL Qo RU,_,h.t.f Qo RU (j:=2) rfl,_,fun _=>MU h wp Qo RU c0 c1,_,fun _=>AA h wp Qo RU,fun g2=>?_,fun g2=>⟨⟨Qo,Qo⟩,QA uE ⟨Qo,?_⟩⟩⟩
     ·have g2:zbv W (TF W c (k:Int)) c j=true:=g2;rw[zmp g2] at hF;rw[<-hI,zhc g (by rw[<-hF]; omega),<-hF]
     ·have g2:zbv W (TF W c (k:Int)) c j=false:=g2;rw[<-hF,ziu g2]
    ·have bU:=Ou bU;have:j=12:=Qo;subst this;refine⟨⟨Qo,Qo⟩,QA Qo (nxt ?_)⟩;rw[<-hI,zha (by rw[<-hF]; show (-1:Int)<0; decide)]
  ·have RH:=Ou RH;have:(Ng (W.IE.length:Int)).toNat-k=0:=Qo;rw[this] at hI;rw[<-hI]; rfl
theorem zjk(W:Q7)(c:Int) : -1<=Mb W c:=by
 have hf:∀(b:Int) (f j:Nat),-1<=TJ W b c f j:=fun b f=>by
  induction f with
  | zero=>intro j; exact I3 _
  | succ f ih=>
   intro j;simp only[TJ];split
   ·omega
   ·exact ih _
 have hp:∀(f k:Nat),-1<=zg9 W c f k:=fun f=>by
  induction f with
  | zero=>intro k; exact I3 _
  | succ f ih=>
   intro k;simp only[zg9];split
   ·exact ih _
   ·split
    ·exact ih _
    ·exact hf _ _ _
 exact hp _ _
end
def zaa(W:Q7)(g:Int)(j:Nat):Int:=Aq W g (j:Int)
theorem OS(W:Q7)(g c:Int)(h:W.tasks.length=12):0<=Aq W g c/\Aq W g c<=240:=by
 have:=UX (Ap W g c) W.tasks.length;unfold Aq;omega
def zve(a b:Int):Int:=if a>b then a else b
def P6(W:Q7)(g c:Int):Int:=
 if XR (zaa W g) W.IE.length=0 then (gi W.ID g).weight else zve 1 (Int.tdiv ((gi W.ID g).weight*Aq W g c) (XR (zaa W g) W.IE.length))
theorem zur{a b:Int}(ha:0<=a)(ha2:a<=100000)(hb:0<b):Qq .i64 (Int.tdiv a b):=by
 have h1:=Int.tdiv_nonneg ha (Int.le_of_lt hb);have h2:Int.tdiv a b<=a:=by rw[Int.tdiv_eq_ediv_of_nonneg ha]; exact Int.ediv_le_self _ ha
 exact⟨Qo,Qo⟩
theorem zav{a b:Int}{w:Wo}{bs:List Nat}:PX bs Yq #[I a,I b] w (I (zve a b)):=VA
section
variable {W:Q7}{m:MW}{w:Wo}{bs:List Nat}{p:OA}
theorem zjt{g c:Int}(wp:TU W)(hu:Q6 W.ID g=true):0<=(gi W.ID g).weight*Aq W g c/\(gi W.ID g).weight*Aq W g c<=4800:=by
 have hw:=(wp.a.u hu).2.2;have hi:=OS W g c wp.a.t;have w1:=hw.w1;have w2:=hw.w2;refine⟨Int.mul_nonneg Qo hi.1,?_⟩;have:=Int.mul_le_mul w2 hi.2 hi.1 (show (0:Int)<=20 by decide);omega
theorem DZ{g:Int}(wp:TU W)(k:Nat):0<=XR (zaa W g) k/\XR (zaa W g) k<=(k:Int)*240:=UX (fun j=>OS W g (j:Int) wp.a.t) k
theorem BG{g c:Int}(h:Xb bs w W m)(wp:TU W)(hl:Xh W)(hu:Q6 W.ID g=true):PX bs Tc #[.agg (Qa W m).toArray,I g,I c] w (I (P6 W g c)):=
 BV _ _ _ _ _ _ _ _ _ _ g c fun wr hx=>by
  have h:=(h.ext hx).less (cs:=[]) Qs;have qW:=wp.a.c2;obtain⟨u1,u2,_⟩:=Q5.1 hu;intro _ _;refine TN W.IE.length 0 rfl (fun x k=>k<=W.IE.length/\x=XR (zaa W g) k) ⟨Ie _,rfl⟩ fun x k ⟨hk,R6⟩=>⟨fun IQ=>?_,fun RH=>⟨fun g2=>⟨h.g.ix u1 u2,_,(h.g.cells g u1 u2).get 3 _ rfl,?_⟩,fun g2=>?_⟩⟩
  ·have IQ:=Ot IQ;have hr:=DZ (g:=g) wp k;have hi:=OS W g (k:Int) wp.a.t;exact⟨_,M3 h wp hl hu,⟨Qo,Qo⟩,⟨Qo,Qo⟩,QF Qo ⟨Qo,by simp only[XR]; rw[R6]; rfl⟩⟩
  ·have RH:=Ou RH;have:k=W.IE.length:=Qo;subst this;unfold P6;rw[E' (by rw[<-R6]; simpa using g2)]
  ·have RH:=Ou RH;have:k=W.IE.length:=Qo;subst this;have hr:=DZ (g:=g) wp W.IE.length;have hp:=zjt (c:=c) wp hu;have gA:x≠0:=by simpa using g2
   refine⟨h.g.ix u1 u2,_,(h.g.cells g u1 u2).get 3 _ rfl,Aq W g c,M3 h wp hl hu,⟨Qo,Qo⟩,⟨gA,zur hp.1 Qo Qo⟩,_,zav,?_⟩;unfold P6;rw[C' (by rw[<-R6]; exact gA),R6]
end
theorem zpb{gs:List Zr}(ht:ZX gs){g:Int}:∀h:Int,Q6 gs h=true->g∈Z2 gs h->VQ 3 gs g h=true:=
 P3 ht (fun hx=>by rw[show Z2 gs 0=[] from Zi _ _] at hx; cases hx) fun h hu hz ih hx=>by
  by_cases e:h=g
  ·subst e; simp[VQ]
  ·rw[zb8 ht hu hz e];rw[Yl ht hu hz] at hx;rcases Ij.1 hx with e2 | e2
   ·exact Is e2.symm e
   ·exact ih e2
theorem zlu(W:Q7)(g c x:Int):VL W (MJ W g c x):=by
 unfold MJ;split
 ·exact VL.refl _
 ·split
  ·exact(Cu _ _ _ _).trans (Lo _ _)
  ·exact Cu _ _ _ _
theorem VI.wei{W:Q7}(p:VI W){g c x:Int}(hu:Q6 W.ID g=true)(hz:g≠0)(c0:0<=c)(c1:c<(W.IE.length:Int)):VI (MJ W g c x):=by
 obtain⟨u0,u1,_⟩:=Q5.1 hu;have hl:=p.a.gl;have hsl:=p.a.sl hu;have uQ:c<((gi W.ID g).IF.length:Int):=Qo;have e:∀{i j:Int},0<=i->0<=j->Qc (Jy W g c x) i j=if g=i/\c=j then CB W g c x else Qc W i j:=fun hi hj=>Jf u0 u1 c0 uQ hi hj
 have hT:QX W.ID (Jy W g c x).ID:=Xu u0 u1
 have ef:∀{i j:Int},0<=i->0<=j->(Qc (Jy W g c x) i j).floor=(Qc W i j).floor:=fun {i j} hi hj=>by
  rw[e hi hj]; split
  ·rename_i h; obtain⟨rfl,rfl⟩:=h; rfl
  ·rfl
 have hpu:=p.a.up hu hz;have p0:=(Q5.1 hpu).1
 have same:∀{i j:Int},Q6 W.ID i=true->i≠0->0<=j->¬(g=i/\c=j)->UW W i j->UW (Jy W g c x) i j:=fun {i j} iu iz j0 hn h=>by
  unfold UW at h ⊢;rw[hT.p,ef (Q5.1 (p.a.up iu iz)).1 j0,e (Q5.1 iu).1 j0,C' hn];exact h
 have hA:PreA (Jy W g c x):=by
  refine⟨p.a.RM u0 Qo,fun t t0 t1=>?_,fun t t0 t1 n=>p.l t t0 t1 n,fun i j iu j0 j1=>?_⟩
  ·rcases p.t t t0 t1 with h | ⟨n,h⟩
   ·exact .inl h
   ·exact .inr ⟨n,h.st,by rw[hT.dT]; exact h.g,h.n,h.m,h.m0,h.s,h.u,h.l1,h.l2,fun h1=>by
     show (Qc (Jy W g c x) (Q8 W t).group (Q8 W t).R9).floor<=(Q8 W t).v/\(Q8 W t).v-(Qc (Jy W g c x) (Q8 W t).group (Q8 W t).R9).floor<=_;rw[ef (Q5.1 h.g).1 (p.l t t0 t1 n).1]; exact h.f h1⟩
  ·rw[hT.dT] at iu;have hs:=p.s i j iu j0 j1;have i0:=(Q5.1 iu).1
   by_cases h:g=i/\c=j
   ·obtain⟨rfl,rfl⟩:=h;refine⟨by rw[e i0 j0,E' ⟨rfl,rfl⟩]; exact hs.s,fun h0=>Is h0 hz,fun _ ho=>?_⟩;rw[e i0 j0,E' ⟨rfl,rfl⟩] at ho;have ho:(Qc W g c).on=true:=ho;unfold UW;rw[hT.p,ef p0 j0,e i0 j0,E' ⟨rfl,rfl⟩];simp only[CB];rw[E' ho];have:=ZW ((Qc W g c).v-(Qc W (gi W.ID g).parent c).floor) x;omega
   ·refine⟨by rw[e i0 j0,C' h]; exact hs.s,by rw[e i0 j0,C' h]; exact hs.root,fun iz ho=>?_⟩;rw[e i0 j0,C' h] at ho;exact same iu iz j0 h (hs.st iz ho)
 have hC:∀d:Int,0<=d->d<(W.IE.length:Int)->(d=c->zfr (Jy W g c x) g c=false)->zuj (Jy W g c x) d:=fun d d0 d1 hd=>by
  have h:=p.c d d0 d1;refine⟨h.b,h.i,h.c1,h.c2,h.no,h.yes,fun h0 h1 h2=>?_⟩;obtain⟨q1,q2⟩:=h.q h0 h1 h2
  have hcu:Q6 W.ID (Q8 W (gi W.IE d).cur).group=true:=by
   rcases p.t _ h0 h.c2 with hz | ⟨_,hx⟩
   ·have h1:(Q8 W (gi W.IE d).cur).state=1:=h1;have h3:(Q8 W (gi W.IE d).cur).state=0:=hz.1;rw[h3] at h1; cases h1
   ·exact hx.g
  refine⟨by show (Q8 W (gi W.IE d).cur).v-(Qc (Jy W g c x) (Q8 W (gi W.IE d).cur).group d).floor<=_; rw[ef (Q5.1 hcu).1 d0]; exact q1,fun y hy=>?_⟩;have hy:y∈Z2 W.ID (Q8 W (gi W.IE d).cur).group:=by rw[<-VE hT]; exact hy
  obtain⟨yu,yz⟩:=Yu p.a.tree _ hcu y hy;have y0:=(Q5.1 yu).1
  have hn:¬(g=y/\c=d):=by
   rintro⟨rfl,rfl⟩;have h3:=hd rfl;unfold zfr at h3;have h4:=zpb (hT.tree p.a.tree) (g:=g) (Q8 W (gi W.IE c).cur).group (by rw[hT.dT]; exact hcu) (by rw[VE hT]; exact hy);rw[show (gi (Jy W g c x).IE c).cur=(gi W.IE c).cur from rfl,Ii (show (gi W.IE c).cur>=0 from h0),Bool.true_and] at h3;rw[show (Q8 (Jy W g c x) (gi W.IE c).cur).group=(Q8 W (gi W.IE c).cur).group from rfl,h4] at h3;cases h3
  obtain⟨s1,s2⟩:=q2 y hy;refine⟨same yu yz d0 hn s1,?_⟩;rw[hT.p,ef (Q5.1 (p.a.up yu yz)).1 d0,e y0 d0,C' hn];exact s2
 unfold MJ;split
 ·exact p
 ·split
  ·refine⟨hA.RC c0 c1,fun d d0 d1=>?_⟩;have hlen:(YtnclplgaicdapaaGreatDoor.RC (Jy W g c x) c).IE.length=W.IE.length:=H';have kP:gi (YtnclplgaicdapaaGreatDoor.RC (Jy W g c x) c).IE d=if c=d then Xx (gi W.IE c) else gi W.IE d:=QC _ _ c0 c1 d0;rw[hlen] at d1
   by_cases ed:c=d
   ·subst ed;have h:=p.c c c0 c1;rw[E' rfl] at kP;have n1:(Xx (gi W.IE c)).cur = -1:=rfl;exact⟨by rw[kP]; exact h.b,by rw[kP]; exact h.i,by rw[kP,n1]; exact I3 _,by rw[kP,n1]; decide,fun _=>by rw[kP]; rfl,fun h=>by rw[kP,n1] at h; omega,fun h=>by rw[kP,n1] at h; omega⟩
   ·have h:=hC d d0 d1 fun hd=>Is hd.symm ed
    rw[C' ed] at kP;exact⟨by rw[kP]; exact h.b,by rw[kP]; exact h.i,by rw[kP]; exact h.c1,by rw[kP]; exact h.c2,by rw[kP]; exact h.no,by rw[kP]; exact h.yes,by rw[kP]; exact h.q⟩
  ·rename_i he;exact⟨hA,fun d d0 d1=>hC d d0 d1 fun _=>by simpa using he⟩
theorem SW.tu{K:Int}{W:Q7}(h:SW K W):TU W:=⟨h.a,fun t0 t1 hs=>h.li t0 t1 hs⟩
theorem zlw{f:Nat->Int}(h:∀j,0<=f j):∀m:Nat,0<=XR f m
 | 0=>I3 _
 | m+1=>by
  have ih:=zlw h m;have:=h m;simp only[XR];omega
theorem zlv{f:Nat->Int}(h:∀j,0<=f j){k:Nat}:∀n:Nat,k<n->f k<=XR f n
 | 0,hk=>Is hk (Nat.not_lt_zero k)
 | n+1,hk=>by
  simp only[XR];have hn:=zlw h
  by_cases e:k=n
  ·subst e; have:=hn k; omega
  ·have:=zlv h (k:=k) n Qo;have:=h n;omega
theorem zhr{W:Q7}(wp:TU W){g c:Int}(hu:Q6 W.ID g=true)(c0:0<=c)(c1:c<(W.IE.length:Int)):1<=P6 W g c/\P6 W g c<=(gi W.ID g).weight:=by
 have hg:=(wp.a.u hu).2.2;have w1:=hg.w1;have hi:=OS W g c wp.a.t
 have vB:Aq W g c<=XR (zaa W g) W.IE.length:=by
  have:=zlv (f:=zaa W g) (fun j=>(OS W g (j:Int) wp.a.t).1) (k:=c.toNat) W.IE.length Qo;unfold zaa at this
  rwa[show ((c.toNat:Nat):Int)=c by omega] at this
 unfold P6;split
 ·omega
 ·rename_i hn
  have hp:0<XR (zaa W g) W.IE.length:=by
   have:=(DZ (g:=g) wp W.IE.length).1;omega
  have hq:Int.tdiv ((gi W.ID g).weight*Aq W g c) (XR (zaa W g) W.IE.length)<=(gi W.ID g).weight:=by
   rw[Int.tdiv_eq_ediv_of_nonneg (Int.mul_nonneg Qo hi.1)];refine Int.ediv_le_of_le_mul hp ?_;exact Int.mul_le_mul_of_nonneg_left vB Qo
  unfold zve
  split <;> omega
theorem zhq{W:Q7}(wp:TU W){g c:Int}(hu:Q6 W.ID g=true)(c0:0<=c)(c1:c<(W.IE.length:Int)):1<=P6 W g c/\P6 W g c<=20:=by
 have h:=zhr wp hu c0 c1;have:=(wp.a.u hu).2.2.w2;omega
def Pv(W:Q7)(c:Int):Nat->Q7
 | 0=>W
 | k+1=>if k≠0/\(gi (Pv W c k).ID (k:Int)).used=true then MJ (Pv W c k) (k:Int) c (P6 (Pv W c k) (k:Int) c) else Pv W c k
def UC(W:Q7)(c:Int):Q7:=Qh (Pv W c 8)
noncomputable def VO(W:Q7)(c:Int):Int:=Mb (UC W c) c
noncomputable def zds(W:Q7)(c:Int):Q7:=if VO W c<0 then UC W c else Qh (UT (UC W c) (VO W c) (Q8 (UC W c) (VO W c)).group c)
noncomputable abbrev Hu(W:Q7)(c:Int):Int:=UE W c true 0
structure ztv (W V:Q7):Prop where
 sf:SF Qj (Qj+Qn) V
 fr:Fr W V
 cu:G5 V
 pre:VI V
 sta:VL W V
theorem zdr{W:Q7}(wp:XA W)(hr:PM W){c:Int}(c0:0<=c)(c1:c<(W.IE.length:Int)):∀k:Nat,k<=8->ztv W (Pv W c k)
 | 0,_=>⟨Me (P8 wp hr),Fr.refl _,zkm wp,Xa wp,VL.refl _⟩
 | k+1,hk=>by
  have ih:=zdr wp hr c0 c1 k Qo;simp only[Pv];split
  ·rename_i h;have hl:=ih.sf.w.a.gl;have hu:Q6 (Pv W c k).ID (k:Int)=true:=Q5.2 ⟨Qo,Qo,h.2⟩;have uQ:c<((Pv W c k).IE.length:Int):=by rw[ih.fr.c]; exact c1
   have hs:=zhq ih.sf.w.tu hu c0 uQ;obtain⟨a,b,d⟩:=zl3 ih.sf (I3 _) ih.cu hu Qo c0 uQ hs.1 hs.2;exact⟨a,ih.fr.trans b,d,ih.pre.wei hu Qo c0 uQ,ih.sta.trans (zlu _ _ _ _)⟩
  ·exact ih
theorem zdt{W:Q7}{c:Int}(hW:Qx W=true)(hb:Hu W c=0):0<=c/\c<(W.IE.length:Int)/\ztv W (Pv W c 8)/\XA (UC W c)/\SW (Qj+Qn+UV) (UC W c)/\Fr W (UC W c):=by
 obtain⟨h1,_,_,h4⟩:=zd1 hb;have wp:=Qi.1 hW;obtain⟨c0,c1⟩:=Tt h1;have hB:=zdr wp (Qi.1 h4) c0 c1 8 (I8 _);have hs:=Tq hB.sf.w (by simp only[Qn]; decide);exact⟨c0,c1,hB,(Cr hB.sf.w (by simp only[Qn]; decide) (by simp only[Qn,UV]; decide) hB.pre (hB.sta.loc hB.fr.t (Uc wp))).1,hs.1,hB.fr.trans hs.2⟩
theorem Af{W:Q7}{b c:Int}:∀f j:Nat,0<=TJ W b c f j->∃i:Nat,TJ W b c f j=(i:Int)/\j<=i/\i<j+f/\zbv W b c i=true
 | 0,j,h=>by
  have:(0:Int)<=-1:=h;omega
 | f+1,j,h=>by
  simp only[TJ] at h ⊢;split
  ·rename_i hp;exact⟨j,rfl,I8 _,Qo,hp⟩
  ·rename_i hp;rw[C' hp] at h;obtain⟨i,a,b',c',d⟩:=Af f (j+1) h;exact⟨i,a,Qo,Qo,d⟩
theorem zcr{W:Q7}{c:Int}(h:¬Mb W c<0):∃(i:Nat) (b:Int),Mb W c=(i:Int)/\i<12/\zbv W b c i=true:=by
 have key:∀f k:Nat,0<=zg9 W c f k->∃(i:Nat) (b:Int),zg9 W c f k=(i:Int)/\i<12/\zbv W b c i=true:=fun f=>by
  induction f with
  | zero=>intro k h; have:(0:Int)<=-1:=h; omega
  | succ f ih=>
   intro k h
   by_cases h0:TF W c (k:Int)<0
   ·rw[zhb h0] at h ⊢; exact ih _ h
   ·by_cases h1:TJ W (TF W c (k:Int)) c 12 0<0
    ·rw[zha h1] at h ⊢; exact ih _ h
    ·rw[zhc h0 h1] at h ⊢;obtain⟨i,a,_,b,d⟩:=Af 12 0 h;exact⟨i,_,a,Qo,d⟩
 exact key _ _ (by have:=zjk W c; unfold Mb at *; omega)
theorem ztf{W:Q7}{c:Int}(h:¬Mb W c<0):0<=Mb W c/\Mb W c<12/\(Q8 W (Mb W c)).state=1:=by
 obtain⟨i,b,e,hi,hp⟩:=zcr h;unfold zbv at hp;simp only[A'] at hp;rw[e];exact⟨Qo,Qo,(Fe hp.1.2).1⟩
theorem zsw{W V:Q7}(hl:Xh W)(ha:WA V)(hT:QX W.ID V.ID):Xh V:=by
 have h1:=ha.c2;have h2:=ha.t;have h3:=ha.gl;have hm:=Zc;have hn1:=ha.n1;have hn2:=ha.n2;refine⟨Qo,Qo,Qo,fun i a b=>?_⟩;have hb:=PP ha a Qo;have hg:=ha.grp i a Qo;refine⟨by rw[hT.n]; exact(hl.f i a (by rw[<-hT.len]; exact b)).nm,?_,Qo,Qo,Qo⟩
 cases hu:(gi V.ID i).used with
 | false=>rw[(hg.1 hu).ne]; exact⟨Qd,Qd⟩
 | true=>
  have hg:=hg.2 hu
  by_cases hq:(gi V.ID i).IT.I'=0
  ·rw[(hg.none hq).2.2]; exact⟨Qd,Qd⟩
  ·have:=hg.IT hq;exact⟨Qo,Qo⟩
theorem zkh{W:Q7}{c:Int}(hW:Qx W=true)(hb:Hu W c=0)(hp:¬VO W c<0):0<=VO W c/\VO W c<12/\(Q8 (UC W c) (VO W c)).state=1/\Q6 (UC W c).ID (Q8 (UC W c) (VO W c)).group=true/\SF (Qj+Qn+UV) (Qj+Qn+UV+Qn) (UC W c)/\
  SF (Qj+Qn+UV) (Qj+Qn+UV+Qn) (UT (UC W c) (VO W c) (Q8 (UC W c) (VO W c)).group c):=by
 obtain⟨c0,c1,_,wp,sw,fr⟩:=zdt hW hb;obtain⟨p0,p1,ps⟩:=ztf hp;have sf:SF (Qj+Qn+UV) (Qj+Qn+UV+Qn) (UC W c):=sw.sf.mono (I3 _) (by simp only[Qn]; omega);have hu:=(sw.t _ p0 p1 (show (Q8 (UC W c) (VO W c)).state≠0 by unfold VO; rw[ps]; decide)).1;exact⟨p0,p1,ps,hu,sf,(Nk sf (I3 _) p0 p1 hu c0 (by rw[fr.c]; exact c1)).2⟩
section
variable {base pb:Nat}{W W':Q7}{m:MW}{w:Wo}
theorem HO{c:Int}(h:Xb [] w W m)(hl:Xh W) :
  Cz UK #[.agg (Qa W m).toArray,I c] w fun e w'=>∃v,e=.returned v/\QJ (Yp W (Hu W c) (zds W c)) w v w':=by
 refine Hw _ _ _ _ _ _ _ _ _ _ c (R:=fun v w'=>QJ (Yp W (Hu W c) (zds W c)) w v w') ?_;intro y hy y1 cY wr R6 SY;have hm0:=XJ;have sJ:=hl.c;refine I4 (Zb (h.ext R6) hl) ?_;rintro e wv (⟨hW,he,SL⟩ | ⟨hW,m',he,hM,SL⟩)
 ·exact⟨_,_,_,_,_,_,_,_,_,_,_,he,Qe SL SY,fun g=>by simp at g,true,fun g=>by simp at g,fun _ R2 Rm=>QJ.bad hW ((R6.trans SL).fresh Rm fun z hm=>.inl (Yv hy cY z hm)),fun g=>by simp at g⟩
 have hK:=Wk.begin hy cY R6 SY hM SL;have hr:=hK.rd;have wp:=Qi.1 hW;refine⟨_,_,_,_,_,_,_,_,_,_,_,he,Qe SL SY,fun _=>⟨Qo,Qo⟩,Xf W c,fun _=>Qm,fun g R2 Rm=>?_,fun g=>?_⟩
 ·have g:Xf W c=false:=by
   cases hc:Xf W c with
   | false=>rfl
   | true=>rw[hc] at g; split at g <;> simp at g
  have hb:Hu W c=1:=by unfold Hu UE; rw[E' g]
  exact QJ.no hW (by rw[hb]; decide) (hK.step Rm) hb
 have g:Xf W c=true:=by
  cases hc:Xf W c with
  | true=>rfl
  | false=>rw[hc] at g; simp at g
 obtain⟨c0,c1⟩:=Tt g;refine⟨hr.c.ix Y0 c0 c1,_,hr.c.f c0 c1 (j:=0) rfl,fun g2 O' Rm=>?_,fun g2=>⟨fun g3 Rt Rm=>?_,fun g3=>?_⟩⟩
 ·have g2:(gi W.IE c).up=false:=by simpa using g2
  have hb:Hu W c=6:=by unfold Hu UE; rw[C' (by rw[g]; decide),E' (by rw[g2]; decide)]
  exact QJ.no hW (by rw[hb]; decide) (hK.step Rm) hb
 ·have g2:(gi W.IE c).up=true:=by simpa using g2
  have bH:¬QH W=true:=fun hr=>by rw[E' hr] at g3; simp at g3
  have hb:Hu W c=10:=by unfold Hu; rw[L9 g g2 rfl,E' (by simpa using bH)]
  rw[C' bH];exact QJ.no hW (by rw[hb]; decide) (hK.step Rm) hb
 have g2:(gi W.IE c).up=true:=by simpa using g2
 have bH:QH W=true:=Ir fun hr=>by rw[C' hr] at g3; simp at g3
 have hb:Hu W c=0:=by unfold Hu; rw[L9 g g2 rfl,C' (by rw[bH]; decide)]
 obtain⟨_,_,hB8,wpS,swS,frS⟩:=zdt hW hb;refine⟨fun vs w1=>∃k:Nat,vs=I (k:Int)::Qa W m'/\1<=k/\k<=8/\Wk 8 [y,y1] w w1 (Pv W c k) m',Zo 8 0,fun w1 uV _=>⟨1,rfl,Qd,Qd,hK.step uV⟩,?_⟩;rintro g1 l RZ Sa Sh S9 Sf Sg S4 S5 S7 Rx gZ ⟨k,aQ,hk1,hk8,hKk⟩;have hOk:=zdr wp (Qi.1 bH) c0 c1 k hk8;have e0:Qa (Pv W c k) m'=Qa W m':=Om hOk.fr;have aL:Pv W c (k+1)=if k≠0/\(gi (Pv W c k).ID (k:Int)).used=true then MJ (Pv W c k) (k:Int) c (P6 (Pv W c k) (k:Int) c) else Pv W c k:=rfl;have bW:=hOk.sf.w.a.gl;have Bp3:=wp.a.gl;simp only[Qa,I5,I6,Iw,true_and,and_true] at aQ;obtain⟨rfl,rfl,⟨rfl,rfl,rfl⟩,⟨rfl,rfl,rfl⟩,rfl,rfl,rfl⟩:=aQ;refine⟨fun IQ=>?_,fun RH Sj AJ0 rG=>?_⟩
 ·have IQ:=Ot IQ;have hrk:=hKk.rd;have Wz:=hrk.g.ix (i:=(k:Int)) Qo Qo;rw[bW] at Wz;rw[Bp3] at IQ ⊢;refine⟨Wz,_,UD ((hrk.g.cells (k:Int) Qo Qo).get 0 _ rfl),fun gu=>?_,fun gu=>⟨⟨Qo,Qo⟩,fun WY kW _=>⟨⟨k+1,by rw[<-Bp3]; rfl,Qo,Qo,?_⟩,?_⟩⟩⟩
  ·have hu:Q6 (Pv W c k).ID (k:Int)=true:=Q5.2 ⟨Qo,Qo,gu⟩;have uQ:c<((Pv W c k).IE.length:Int):=by rw[hOk.fr.c]; exact c1
   have hsh:=zhq hOk.sf.w.tu hu c0 uQ;have A30:=BG (c:=c) hrk hOk.sf.w.tu (zsw hl hOk.sf.w.a hOk.fr.g) hu;rw[e0] at A30;simp only[Qa] at A30;rw[Bp3] at A30;refine⟨_,A30,fun SO lY hs7=>?_⟩;have hK7:=hKk.step lY;have Rn:=M2 hK7.own hOk.sf (I3 _) (by simp only[Qn]; decide) hOk.cu (x:=P6 (Pv W c k) (k:Int) c) hu Qo c0 uQ;rw[e0] at Rn;simp only[Qa] at Rn;rw[Bp3] at Rn;refine I4 Rn ?_;rintro e1 Sk ⟨kE,jW⟩;refine⟨_,_,_,_,_,_,_,_,_,_,kE,hK7.kept jW hs7,⟨Qo,Qo⟩,fun W8 rH _=>⟨⟨k+1,by rw[<-Bp3]; rfl,Qo,Qo,?_⟩,?_⟩⟩
   ·rw[aL,E' ⟨Qo,gu⟩];exact(hK7.SX jW hs7).step rH
   ·simp only[Zo,Xl,Y5,Ig]; omega
  ·rw[aL,C' (by rintro⟨_,h⟩; rw[show (gi (Pv W c k).ID (k:Int)).used=false from gu] at h; cases h)];exact hKk.step kW
  ·simp only[Zo,Xl,Y5,Ig]; omega
 ·have RH:=Ou RH;have:k=8:=Qo;subst this;have AD5:=hKk.step AJ0;have Rn:=Qu AD5.own hB8.sf.w (by simp only[Qn]; decide) (by simp only[Qn]; decide) AD5.base;rw[e0] at Rn;refine I4 Rn ?_;rintro e3 Wy ⟨m2,fH,hy5⟩;have Bo9:Wk 8 [y,y1] w Wy (UC W c) m2:=AD5.SX hy5 rG;have CG5:=Bo9.rd;have CU7:=AB CG5 wpS c0 (by rw[frS.c]; exact c1);refine⟨_,_,_,_,_,_,_,_,_,_,fH,AD5.kept hy5 rG,_,CU7,fun g5=>?_,fun g5 Wp BN5=>?_⟩
  ·have g5:¬VO W c<0:=by have:=Ot g5; unfold VO; omega
   obtain⟨p0,p1,ps,hu,sf,sfP⟩:=zkh hW hb g5;have jV:=wpS.a.t;refine⟨CG5.t.ix QL p0 (by rw[jV]; exact p1),_,CG5.t.f p0 (by rw[jV]; exact p1) (j:=1) rfl,fun Sm A32 AP0=>?_⟩;have A80:=Bo9.step A32;refine I4 (Uh A80.own sf (I3 _) (by simp only[Qn,UV]; decide) (t:=VO W c) (g:=(Q8 (UC W c) (VO W c)).group) (c:=c) p0 p1 (by rw[ps]; decide) hu c0 (by rw[frS.c]; exact c1)) ?_;rintro e4 gT ⟨he4,hy6⟩;refine⟨_,_,_,_,_,_,_,_,_,_,he4,A80.kept hy6 AP0,fun Sr AE0 A93=>?_⟩;have B06:=(A80.SX hy6 AP0).step AE0
   have Ck6:Qa (UT (UC W c) (VO W c) (Q8 (UC W c) (VO W c)).group c) m2=Qa (UC W c) m2:=by
    obtain⟨q1,q2,q3,q4⟩:=zqk (UC W c) (VO W c) (Q8 (UC W c) (VO W c)).group c;simp only[Qa,q1,q2,q3,q4]
   have aG:=Qu B06.own sfP.w (by simp only[Qn,UV]; decide) (by simp only[Qn,UV]; decide) B06.base;rw[Ck6] at aG;refine I4 aG ?_;rintro e5 dV ⟨m3,he5,hy7⟩;refine⟨_,_,_,_,_,_,_,_,_,_,he5,B06.kept hy7 A93,fun T' Br9=>?_⟩;have hE:zds W c=Qh (UT (UC W c) (VO W c) (Q8 (UC W c) (VO W c)).group c):=by unfold zds; rw[C' g5]
   rw[hE];exact QJ.ok hW hb ((B06.SX hy7 A93).step Br9)
  ·have g5:VO W c<0:=by have:=Ou g5; unfold VO; omega
   have hE:zds W c=UC W c:=by unfold zds; rw[E' g5]
   rw[hE];exact QJ.ok hW hb (Bo9.step BN5)
end
theorem zgs{W:Q7}{g n x:Int}(hW:Qx W=true)(hb:TK W g n x=0):J0 (zgi W g n x):=by
 have wp:=Qi.1 hW;have h:=zkt hW hb;have p:=Xa wp
 have hT:H7 W (Kw W g n x):=⟨.inl rfl,h.u,h.w,h.m,h.m0,by show ZF 0=true; decide,by show ZF 0=true; decide,I3 _,by show (0:Int)<=8000000; decide,fun _=>by
  have:=(ZU (Qf n)).1;show (Qc W g (MN W g x)).floor<=(Qc W g (MN W g x)).floor/\(Qc W g (MN W g x)).floor-(Qc W g (MN W g x)).floor<=Zv (Qf n);omega⟩
 exact Zs (h.sw2.RC h.c0 h.c1) Qd Qd (Ni p h.f0 h.f1 (show (1:Int)≠0 by decide) hT rfl h.c0 h.c1) (((Uc wp).IU wp.a h.f0 h.f1 (x:=Kw W g n x) fun _=>h.ch).RC _)
theorem zsn{W:Q7}{g x:Int}(hW:Qx W=true)(hb:zh4 W g x=0):J0 (zrc W g x):=by
 have wp:=Qi.1 hW;obtain⟨h1,hz,hu,_,_,sf,cu,hT⟩:=zrd hW hb;have hx:=Qt.1 h1;have hu':Q6 (Rp W g (Mh W g x)).ID g=true:=by rw[hT.dT]; exact hu
 have p1:VI (Rp W g (Mh W g x)):=(Xa wp).same sf.w.a rfl rfl hT (zju rfl);have l1:Nr (Rp W g (Mh W g x)):=(Uc wp).same rfl hT (fun i=>YC (f:=Zr.IE) W.ID g (x:=Mh W g x) rfl i) rfl;have hlen:(Rp W g (Mh W g x)).IE.length=W.IE.length:=rfl;show J0 (Qh (L4 (Rp W g (Mh W g x)) g x W.IE.length));rw[<-hlen];generalize Rp W g (Mh W g x)=V at sf cu hu' p1 l1
 have all:∀k:Nat,k<=V.IE.length->VI (L4 V g x k)/\VL V (L4 V g x k):=by
  intro k
  induction k with
  | zero=>exact fun _=>⟨p1,VL.refl _⟩
  | succ k ih=>
   intro hk;obtain⟨a,b⟩:=ih Qo;exact⟨a.wei (by rw[b.g.dT]; exact hu') hz Qo (by rw[b.len]; omega),b.trans (zlu _ _ _ _)⟩
 obtain⟨a,b⟩:=all _ (I8 _);obtain⟨sf2,fr,_⟩:=zfs sf (I3 _) cu hu' hz hx.1 hx.2 V.IE.length (I8 _);exact Zs sf2.w (by simp only[Qn]; decide) (by simp only[Qn,UV]; decide) a (b.loc fr.t l1)
theorem zmg{W:Q7}{t c:Int}(h:U5 W t c=true):Ze (Qv W (Q8 W t).group (Q8 W t).mask) c=true:=by
 unfold U5 at h;simp only[A',IC,I0,I7] at h;exact h.1.2
theorem zse{W:Q7}{c:Int}(hW:Qx W=true)(hb:Hu W c=0):J0 (zds W c):=by
 have wp:=Qi.1 hW;obtain⟨c0,c1,hB,wpS,swS,frS⟩:=zdt hW hb;have iS:J0 (UC W c):=Zs hB.sf.w (by simp only[Qn]; decide) (by simp only[Qn,UV]; decide) hB.pre (hB.sta.loc hB.fr.t (Uc wp));unfold zds;split
 ·exact iS
 ·rename_i hp;obtain⟨p0,p1,ps,pu,_,sf⟩:=zkh hW hb hp;obtain⟨i,b,e,hi,ht⟩:=zcr hp;have e:VO W c=(i:Int):=e;unfold zbv at ht;simp only[A'] at ht;have hcd:=zmg ht.1.2;rw[<-e] at hcd;have cS:c<((UC W c).IE.length:Int):=by rw[frS.c]; exact c1
  clear hp iS swS frS hB ht e;have hK0:0<=Qj+Qn+UV+Qn:=Qd;have hK1:Qj+Qn+UV+Qn+UV<=100000000000000000:=Qd;have hcd:Ze (Qv (UC W c) (Q8 (UC W c) (VO W c)).group (Q8 (UC W c) (VO W c)).mask) c=true:=hcd;generalize VO W c=q at *;generalize UC W c=V at *;refine Zs sf.w hK0 hK1 (Ci (Xa wpS) p0 p1 (by rw[ps]; decide) pu c0 cS) fun t t0 t1 n=>?_
  rw[(Nm V _ _ _).wh];rw[zjm wpS.a.t p0 p1 t0] at n ⊢
  split at n
  ·rename_i he;rw[E' he];exact hcd
  ·rename_i he;rw[C' he];exact Uc wpS t t0 t1 n
def za5:K0:=⟨0,false,0,10,0⟩
def Ox(n:Nat)(p:Int)(name:ByteArray):Zr:=⟨true,p,name,10,15,0,0,0,⟨0,0,0,[],[]⟩,List.replicate n za5⟩
def Dz:Zr:=⟨false,0,⟨[].toArray⟩,0,0,0,0,0,⟨0,0,0,[],[]⟩,[]⟩
def Jx(n:Nat):Q7:=⟨0,List.replicate n ⟨true,-1,0,0,0⟩,List.replicate 12 VV,(List.replicate 8 Dz).set 0 (Ox n (-1) ⟨[].toArray⟩)⟩
section
variable {n:Nat}
theorem GG(k:Int)(k0:0<=k)(k1:k<8):gi (Jx n).ID k=if k=0 then Ox n (-1) ⟨[].toArray⟩ else Dz:=by
 have:=QC (List.replicate 8 Dz) (Ox n (-1) ⟨[].toArray⟩) (i:=0) (j:=k) (I3 _) Qd k0;show gi ((List.replicate 8 Dz).set (0:Int).toNat _) k=_;rw[this]
 by_cases h:k=0
 ·rw[E' h.symm,E' h]
 ·rw[C' fun e=>h e.symm,C' h,O8 _ _ k0 Qo]
theorem zp4:(Jx n).ID.length=8:=by simp[Jx]
theorem zp3(c:Int)(c0:0<=c)(c1:c<(n:Int)):gi (Jx n).IE c=⟨true,-1,0,0,0⟩:=O8 _ _ c0 c1
theorem zp5(t:Int)(t0:0<=t)(t1:t<12):Q8 (Jx n) t=VV:=O8 12 _ t0 Qo
theorem zvi(c:Int)(c0:0<=c)(c1:c<(n:Int)):Qc (Jx n) 0 c=za5:=by
 unfold Qc;rw[GG 0 (I3 _) Qd,E' rfl];exact O8 _ _ c0 c1
theorem zm9:ZX (Jx n).ID:=by
 have g0:gi (Jx n).ID 0=Ox n (-1) ⟨[].toArray⟩:=by rw[GG 0 (I3 _) Qd,E' rfl]
 have un:∀g:Int,1<=g->g<8->(gi (Jx n).ID g).used=true->False:=fun g a b h=>by
  rw[GG g Qo b,C' Qo] at h; cases h
 exact⟨zp4,by rw[g0]; rfl,by rw[g0]; rfl,by rw[g0]; rfl,fun g a b h=>(un g a b h).elim,fun g a b h=>(un g a b h).elim,fun g a b h=>(un g a b h).elim,fun g k a b d h=>(un g Qo d h).elim⟩
theorem zs7(n0:1<=n)(n1:n<=4):WA (Jx n):=by
 have qW:(Jx n).IE.length=n:=by simp[Jx]
 refine⟨I3 _,by show (0:Int)<=_; decide,Qo,Qo,by simp[Jx],zm9,F9 (c:=0) Qo (I3 _) Qo (by rw[zp3 0 (I3 _) Qo]),fun k k0 k1=>?_⟩;unfold Pt;rw[GG k k0 k1];split
 ·refine⟨fun h=>(by cases h),fun _=>⟨show (1:Int)<=10 by decide,show (10:Int)<=20 by decide,show Ow 15=true by decide,show (15:Int)≠0 by decide,show ZF 0=true by decide,by simp[Ox,qW],fun _=>⟨rfl,rfl,rfl⟩,fun _=>⟨show Tl ⟨0,0,0,[],[]⟩=true by decide,rfl,rfl⟩,fun h=>Is rfl h⟩⟩
 ·exact⟨fun _=>⟨rfl,rfl,rfl,rfl,rfl,rfl,rfl,rfl,Qd⟩,fun h=>by cases h⟩
theorem zsj(n0:1<=n)(n1:n<=4):J0 (Jx n):=by
 have ha:=zs7 n0 n1;have qW:(Jx n).IE.length=n:=by simp[Jx]
 have hmt:∀(k c:Int) (j:Nat),j<12->TY (Jx n) k c j=false:=fun k c j hj=>by
  unfold TY;rw[show gi (Jx n).tasks (j:Int)=VV from zp5 (j:Int) Qo Qo];rfl
 have hmg:∀(k c:Int) (j:Nat),j<8->J1 (Jx n) k c j=false:=fun k c j hj=>by
  unfold J1;rw[GG (j:Int) Qo Qo]
  by_cases h:(j:Int)=0
  ·rw[show decide (1<=j)=false from decide_eq_false Qo]; rfl
  ·rw[C' h];simp[Dz]
 refine⟨⟨ha,fun t t0 t1=>.inl ?_,fun k c k0 k1 c0 c1=>?_,fun c c0 c1=>?_⟩,fun k c hu c0 c1 hb=>?_⟩
 ·rw[zp5 t t0 t1]; exact⟨rfl,rfl⟩
 ·by_cases hk:k=0
  ·subst hk;rw[GG 0 k0 k1,E' rfl] at c1;have c1:c<(n:Int):=by simpa[Ox] using c1
   have e:=zvi c c0 c1;refine⟨?_,?_,?_,?_,?_,fun _=>?_,fun h=>Is rfl h,fun h=>Is rfl h⟩ <;> rw[e]
   ·decide
   ·decide
   ·decide
   ·decide
   ·decide
   ·exact⟨rfl,rfl,rfl⟩
  ·rw[GG k k0 k1,C' hk] at c1;have c1:c<0:=c1;omega
 ·rw[qW] at c1;have e:=zp3 c c0 c1;refine⟨by rw[e]; decide,by rw[e]; decide,by rw[e]; decide,by rw[e]; show (-1:Int)<((Jx n).tasks.length:Int); simp[Jx],fun _=>by rw[e],fun h=>?_⟩;rw[e] at h;have h:(0:Int)<=-1:=h;omega
 ·unfold ZN at hb;have hb:=Ot hb;rcases Zl (Zm (Jx n) k c) (Zn (Jx n) c) 20 with ⟨a,_⟩ | ⟨_,h2,h3,_⟩
  ·rw[a] at hb; omega
  ·exfalso
   have IQ:(QQ (Zm (Jx n) k c) (Zn (Jx n) c) 20).toNat<20:=Qo;generalize (QQ (Zm (Jx n) k c) (Zn (Jx n) c) 20).toNat=j at h3 IQ
   by_cases hj:j<12
   ·rw[VC hj,hmt k c j hj] at h3; cases h3
   ·rw[show j=12+(j-12) by omega,JK,hmg k c (j-12) Qo] at h3; cases h3
end
theorem zf6{gs:List Zr}(ht:ZX gs):∀(f:Nat) (h:Int),Q6 gs h=true->dep 3 gs h<=(f:Int)->dep f gs h=dep 3 gs h
 | 0,h,hu,hd=>by
  by_cases hz:h=0
  ·subst hz; rw[Yc,Yc]
  ·obtain⟨_,_,_,d,e,_⟩:=Y3 ht hu hz;omega
 | f+1,h,hu,hd=>by
  by_cases hz:h=0
  ·subst hz; rw[Yc,Yc]
  ·obtain⟨hp,_,_,d,e,e2,_⟩:=Y3 ht hu hz;have ih:=zf6 ht f _ hp Qo;show (if h=0 then 0 else if dep f gs (gi gs h).parent<0 then -1 else dep f gs (gi gs h).parent+1)=_;rw[C' hz,ih,e2,C' Qo,e]
structure CH (W:Q7) (a p:Int) (name:ByteArray):Prop where
 a1:1<=a
 a8:a<8
 fr:(gi W.ID a).used=false
 up:Q6 W.ID p=true
 nm:JM name=true
 no:∀h:Int,1<=h->h<8->(gi W.ID h).used=true->¬((gi W.ID h).parent=p/\(gi W.ID h).name=name)
 dp:dep 3 W.ID p≠3
def TW(W:Q7)(a p:Int)(name:ByteArray):Q7:=Rp W a (Ox W.IE.length p name)
section
variable {W:Q7}{a p:Int}{name:ByteArray}
theorem Fj(ha:WA W)(h:CH W a p name){i:Int}(hi:0<=i):gi (TW W a p name).ID i=if a=i then Ox W.IE.length p name else gi W.ID i:=Ym (by have:=h.a1; omega) (by have:=ha.gl; have:=h.a8; omega) hi
theorem zp1(h:CH W a p name){k:Int}(hu:Q6 W.ID k=true):a≠k:=fun e=>by
 have:=(Q5.1 hu).2.2;rw[<-e,h.fr] at this;cases this
theorem GF(ha:WA W)(h:CH W a p name){k:Int}(hu:Q6 W.ID k=true):gi (TW W a p name).ID k=gi W.ID k:=by
 rw[Fj ha h (Q5.1 hu).1,C' (zp1 h hu)]
theorem KJ(ha:WA W)(h:CH W a p name):gi (TW W a p name).ID a=Ox W.IE.length p name:=by
 rw[Fj ha h (by have:=h.a1; omega),E' rfl]
theorem zey(ha:WA W):(TW W a p name).ID.length=8:=by
 have:=ha.gl;simp[TW,Rp]; omega
theorem D1(ha:WA W)(h:CH W a p name){k:Int}:Q6 (TW W a p name).ID k=true↔Q6 W.ID k=true\/k=a:=by
 have bW:=ha.gl;have a1:=h.a1;have a8:=h.a8;rw[Q5,Q5,zey ha,bW];constructor
 ·rintro⟨x,y,z⟩;rw[Fj ha h x] at z
  by_cases e:a=k
  ·exact .inr e.symm
  ·rw[C' e] at z;exact .inl ⟨x,y,z⟩
 ·rintro (⟨x,y,z⟩ | rfl)
  ·refine⟨x,y,?_⟩;rw[Fj ha h x,C' fun e=>by rw[<-e,h.fr] at z; cases z];exact z
  ·refine⟨Qo,Qo,?_⟩;rw[KJ ha h]; rfl
theorem zja(ha:WA W)(h:CH W a p name):∀(f:Nat) (k:Int),Q6 W.ID k=true->dep f (TW W a p name).ID k=dep f W.ID k
 | 0,_,_=>rfl
 | f+1,k,hu=>by
  by_cases hz:k=0
  ·subst hz; rw[Yc,Yc]
  ·have ih:=zja ha h f _ (Y3 ha.tree hu hz).1;simp only[dep];rw[GF ha h hu,ih]
theorem ze0(ha:WA W)(h:CH W a p name):∀(f:Nat) (k:Int),Q6 W.ID k=true->U2 f (TW W a p name).ID k=U2 f W.ID k
 | 0,_,_=>rfl
 | f+1,k,hu=>by
  by_cases hz:k=0
  ·subst hz; rw[Zi,Zi]
  ·have ih:=ze0 ha h f _ (Y3 ha.tree hu hz).1;simp only[U2];rw[GF ha h hu,ih]
theorem zwn(ha:WA W)(h:CH W a p name):dep 3 (TW W a p name).ID a=dep 3 W.ID p+1/\0<=dep 3 W.ID p:=by
 have hr:=Kp ha h.up;have hd:=h.dp;have e:=zf6 ha.tree 2 p h.up Qo;refine⟨?_,hr.1⟩;show (if a=0 then 0 else if dep 2 (TW W a p name).ID (gi (TW W a p name).ID a).parent<0 then -1 else dep 2 (TW W a p name).ID (gi (TW W a p name).ID a).parent+1)=_;rw[C' (by have:=h.a1; omega),KJ ha h];show (if dep 2 (TW W a p name).ID p<0 then -1 else dep 2 (TW W a p name).ID p+1)=_;rw[zja ha h 2 p h.up,e,C' Qo]
theorem zs6(ha:WA W)(h:CH W a p name):ZX (TW W a p name).ID:=by
 have ht:=ha.tree;have bW:=ha.gl;have a1:=h.a1;have r:=GF ha h ha.root
 have sp:∀{g:Int},1<=g->g<8->(gi (TW W a p name).ID g).used=true->g=a\/(Q6 W.ID g=true/\gi (TW W a p name).ID g=gi W.ID g):=fun {g} b d hh=>by
  rcases (D1 ha h).1 (Q5.2 ⟨Qo,by rw[zey ha]; omega,hh⟩) with e | e
  ·exact .inr ⟨e,GF ha h e⟩
  ·exact .inl e
 refine⟨zey ha,by rw[r]; exact ht.ru,by rw[r]; exact ht.rp,by rw[r]; exact ht.rn,fun g b d hh=>?_,fun g b d hh=>?_,fun g b d hh=>?_,fun g k b d e hg hk=>?_⟩
 ·rcases sp b d hh with rfl | ⟨hu,e⟩
  ·rw[KJ ha h]; exact h.nm
  ·rw[e] at hh ⊢; exact ht.nm g b d hh
 ·rcases sp b d hh with rfl | ⟨hu,e⟩
  ·rw[KJ ha h]; exact(D1 ha h).2 (.inl h.up)
  ·rw[e] at hh ⊢; exact(D1 ha h).2 (.inl (ht.par g b d hh))
 ·rcases sp b d hh with rfl | ⟨hu,e⟩
  ·have:=zwn ha h; omega
  ·rw[zja ha h 3 g hu]; exact ht.dp g b d (Q5.1 hu).2.2
 ·rintro⟨q1,q2⟩;rcases sp Qo e hg with hga | ⟨hu,eg⟩
  ·rcases sp b Qo hk with hka | ⟨hu2,ek⟩
   ·omega
   ·rw[hga,KJ ha h,ek] at q1 q2;exact h.no k b Qo (Q5.1 hu2).2.2 ⟨q1,q2⟩
  ·rcases sp b Qo hk with hka | ⟨hu2,ek⟩
   ·rw[hka,KJ ha h,eg] at q1 q2;exact h.no g Qo e (Q5.1 hu).2.2 ⟨q1.symm,q2.symm⟩
   ·rw[eg,ek] at q1 q2;exact ht.uniq g k b d e (Q5.1 hu).2.2 (Q5.1 hu2).2.2 ⟨q1,q2⟩
end
section
variable {W:Q7}{a p:Int}{name:ByteArray}
theorem MB(ha:WA W)(h:CH W a p name){k c:Int}(hu:Q6 W.ID k=true):Qc (TW W a p name) k c=Qc W k c:=by
 unfold Qc;rw[GF ha h hu]
theorem zk9(ha:WA W)(h:CH W a p name){c:Int}(c0:0<=c)(c1:c<(W.IE.length:Int)):Qc (TW W a p name) a c=za5:=by
 unfold Qc;rw[KJ ha h];exact O8 _ _ c0 c1
theorem zk8(ha:WA W)(h:CH W a p name){k c:Int}(c0:0<=c)(c1:c<(W.IE.length:Int))(j:Nat)(hj:j<8):J1 (TW W a p name) k c j=J1 W k c j:=by
 have a1:=h.a1;unfold J1
 by_cases e:a=(j:Int)
 ·rw[<-e,zk9 ha h c0 c1,h.fr];show (_&&_&&za5.on)=_;simp[za5]
 ·rw[Fj ha h Qo,C' e]
  have:Qc (TW W a p name) (j:Int) c=Qc W (j:Int) c:=by
   unfold Qc;rw[Fj ha h Qo,C' e]
  rw[this]
theorem zp0(ha:WA W)(h:CH W a p name){k c:Int}(c0:0<=c)(c1:c<(W.IE.length:Int)):QU (TW W a p name) k c=QU W k c:=by
 unfold QU;rw[show VN (TY (TW W a p name) k c) (TW W a p name).tasks.length=VN (TY W k c) W.tasks.length from rfl,zey ha,ha.gl];rw[PN fun j hj=>zk8 ha h c0 c1 j hj]
theorem zez(wp:XA W)(h:CH W a p name){c:Int}(j:Nat)(hj:j<20):Zm W a c j=false:=by
 by_cases uE:j<12
 ·rw[VC uE];unfold TY;rcases wp.t (j:Int) Qo Qo with hz | ⟨_,hx⟩
  ·have:(gi W.tasks (j:Int)).state=0:=hz.1;rw[this]; rfl
  ·have hg:(gi W.tasks (j:Int)).group≠a:=fun e=>zp1 h hx.g e.symm
   rw[show ((gi W.tasks (j:Int)).group==a)=false by simpa using hg];simp
 ·rw[show j=12+(j-12) by omega,JK];unfold J1
  cases hu:(gi W.ID ((j-12:Nat):Int)).used with
  | false=>simp
  | true=>
   have hl:=wp.a.gl;have huu:Q6 W.ID ((j-12:Nat):Int)=true:=Q5.2 ⟨Qo,Qo,hu⟩
   by_cases h1:1<=j-12
   ·have hpu:=(Y3 wp.a.tree huu Qo).1;have hg:(gi W.ID ((j-12:Nat):Int)).parent≠a:=fun e=>zp1 h hpu e.symm
    rw[show ((gi W.ID ((j-12:Nat):Int)).parent==a)=false by simpa using hg];simp
   ·rw[show decide (1<=j-12)=false from decide_eq_false h1]; simp
theorem PO{p:Nat->Bool}:∀{n:Nat},(∀j,j<n->p j=false)->VN p n=false
 | 0,_=>rfl
 | n+1,h=>by simp only[VN]; rw[PO fun j hj=>h j Qo,h n Qo]; rfl
theorem zs5(wp:XA W)(h:CH W a p name){c:Int}:QU W a c=false:=by
 have hl:=wp.a.gl;have ht:=wp.a.t;unfold QU;rw[PO fun j hj=>by have:=zez wp h (c:=c) j Qo; rwa[VC Qo] at this,PO fun j hj=>by have:=zez wp h (c:=c) (12+j) Qo; rwa[JK] at this];rfl
theorem Eg{α β:Type}{f g:β->α->β}:∀(l:List α) (s:β),(∀(s:β) (x:α),x∈l->f s x=g s x)->l.foldl f s=l.foldl g s
 | [],_,_=>rfl
 | y::l,s,hl=>by
  rw[List.foldl_cons,List.foldl_cons,hl s y Ia];exact Eg l _ fun s x hx=>hl s x (I2 _ hx)
theorem zvf(ha:WA W)(h:CH W a p name){k:Int}(hu:Q6 W.ID k=true)(u:Int):V7 (TW W a p name).ID k u=V7 W.ID k u:=by
 have e:Z2 (TW W a p name).ID k=Z2 W.ID k:=ze0 ha h 3 k hu;unfold V7;rw[e];refine Eg _ _ fun s x hx=>?_
 have hxu:Q6 W.ID x=true:=by
  rcases Io.1 hx with hx | hx
  ·exact(Yu ha.tree k hu x hx).1
  ·rw[IA.1 hx]; exact ha.root
 rw[GF ha h hxu]
theorem zre{W W':Q7}(e:W'.IE=W.IE){k:Int}(hp:∀u:Int,V7 W'.ID k u=V7 W.ID k u)(m:Int):Qv W' k m=Qv W k m:=by
 unfold Qv;rw[e,hp]
theorem zwo(ha:WA W)(h:CH W a p name){k:Int}(hu:Q6 W.ID k=true)(m:Int):Qv (TW W a p name) k m=Qv W k m:=zre (W:=W) (W':=TW W a p name) rfl (zvf ha h hu) m
theorem zpe(iv:J0 W)(h:CH W a p name):J0 (TW W a p name):=by
 have wp:=iv.wp;have ha:=wp.a;have a1:=h.a1;have a8:=h.a8;have bW:=ha.gl;have hpu:∀{k:Int},Q6 W.ID k=true->k≠0->Q6 W.ID (gi W.ID k).parent=true:=fun hu hz=>(Y3 ha.tree hu hz).1
 have hA:WA (TW W a p name):=by
  refine⟨ha.n1,ha.n2,ha.c1,ha.c2,ha.t,zs6 ha h,ha.ups,fun k k0 k1=>?_⟩;unfold Pt;rw[Fj ha h k0];split
  ·refine⟨fun hh=>(by cases hh),fun _=>⟨show (1:Int)<=10 by decide,show (10:Int)<=20 by decide,show Ow 15=true by decide,show (15:Int)≠0 by decide,show ZF 0=true by decide,by simp[Ox]; rfl,fun _=>⟨rfl,rfl,rfl⟩,fun _=>⟨show Tl ⟨0,0,0,[],[]⟩=true by decide,rfl,rfl⟩,fun hh=>Is rfl hh⟩⟩
  ·have:=ha.grp k k0 k1;exact⟨this.1,fun hu=>by have:=this.2 hu; exact⟨this.w1,this.w2,this.m,this.m0,this.s,this.len,this.root,this.none,this.IT⟩⟩
 refine⟨⟨hA,fun t t0 t1=>?_,fun k c k0 k1 c0 c1=>?_,fun c c0 c1=>?_⟩,fun k c hu c0 c1 hb=>?_⟩
 ·rcases wp.t t t0 t1 with hz | ⟨n,hx⟩
  ·exact .inl hz
  ·refine .inr ⟨n,hx.st,(D1 ha h).2 (.inl hx.g),hx.n,hx.m,hx.m0,hx.v,hx.s,hx.u,hx.l1,hx.l2,?_,fun hs=>?_⟩
   ·rw[show (Q8 (TW W a p name) t)=Q8 W t from rfl,zwo ha h hx.g]; exact hx.c
   ·rw[show (Q8 (TW W a p name) t)=Q8 W t from rfl,MB ha h hx.g]; exact hx.f hs
 ·by_cases e:a=k
  ·subst e;rw[KJ ha h] at c1;have c1:c<(W.IE.length:Int):=by simpa[Ox] using c1
   have es:=zk9 ha h c0 c1;refine⟨by rw[es]; decide,by rw[es]; decide,by rw[es]; decide,by rw[es]; decide,by rw[es]; decide,fun hz=>by omega,fun _=>?_,fun _ ho=>?_⟩
   ·rw[es,zp0 ha h c0 c1,zs5 wp h]; rfl
   ·rw[es] at ho; cases ho
  ·have hg:gi (TW W a p name).ID k=gi W.ID k:=by rw[Fj ha h k0,C' e]
   rw[hg] at c1
   have hu:Q6 W.ID k=true:=by
    cases hh:(gi W.ID k).used with
    | true=>exact Q5.2 ⟨k0,Qo,hh⟩
    | false=>
     have:=((ha.grp k k0 k1).1 hh).l;omega
   have cl:c<(W.IE.length:Int):=by rw[<-ha.sl hu]; exact c1
   have hs:=wp.s k c k0 k1 c0 c1;have es:=MB ha h (c:=c) hu;refine⟨by rw[es]; exact hs.f,by rw[es]; exact hs.v,by rw[es]; exact hs.s,by rw[es]; exact hs.w1,by rw[es]; exact hs.w2,fun hz=>by rw[es]; exact hs.root hz,fun hz=>?_,fun hz ho=>?_⟩
   ·rw[es,zp0 ha h c0 cl,show V4 (TW W a p name) k c=V4 W k c by unfold V4; rw[hg]];exact hs.on hz
   ·rw[es] at ho;rw[es,hg,MB ha h (hpu hu hz)];exact hs.st hz ho
 ·have hc:=wp.c c c0 c1;refine⟨hc.b,hc.i,hc.c1,hc.c2,hc.no,fun h0=>?_⟩;have h0:0<=(gi W.IE c).cur:=h0;obtain⟨y1,y2,y3,y4,y5,y6⟩:=hc.yes h0;have hl:=ha.t
  have kQ:Q6 W.ID (Q8 W (gi W.IE c).cur).group=true:=by
   have hc2:=hc.c2;rcases wp.t _ h0 Qo with hz | ⟨_,hx⟩
   ·unfold ZE at y5;rw[hz.1] at y5;simp at y5
   ·exact hx.g
  have hpt:Z2 (TW W a p name).ID (Q8 W (gi W.IE c).cur).group=Z2 W.ID (Q8 W (gi W.IE c).cur).group:=ze0 ha h 3 _ kQ;refine⟨y1,y2,y3,y4,?_,?_⟩
  ·unfold ZE Uj at y5 ⊢;rw[show (gi (TW W a p name).IE c).cur=(gi W.IE c).cur from rfl,show Q8 (TW W a p name) (gi W.IE c).cur=Q8 W (gi W.IE c).cur from rfl,hpt];rw[A',List.all_eq_true] at y5 ⊢;exact⟨y5.1,fun x hx=>by rw[MB ha h (Yu ha.tree _ kQ x hx).1]; exact y5.2 x hx⟩
  ·unfold P7 VU at y6 ⊢;rw[show (gi (TW W a p name).IE c).cur=(gi W.IE c).cur from rfl,show (gi (TW W a p name).IE c).WS=(gi W.IE c).WS from rfl,show Q8 (TW W a p name) (gi W.IE c).cur=Q8 W (gi W.IE c).cur from rfl,hpt,MB ha h kQ];rw[A',List.all_eq_true] at y6 ⊢;refine⟨y6.1,fun x hx=>?_⟩;obtain⟨xu,xz⟩:=Yu ha.tree _ kQ x hx;rw[MB ha h xu,GF ha h xu,MB ha h (hpu xu xz)];exact y6.2 x hx
 ·have cl:c<(W.IE.length:Int):=c1
  have Af6:∀j,j<20->Zm (TW W a p name) k c j=Zm W k c j:=fun j hj=>by
   by_cases uE:j<12
   ·rw[VC uE,VC uE]; rfl
   ·rw[show j=12+(j-12) by omega,JK,JK,zk8 ha h c0 cl (j-12) Qo]
  rcases (D1 ha h).1 hu with hk | rfl
  ·have hv:∀j,j<20->Zm (TW W a p name) k c j=true->Zn (TW W a p name) c j=Zn W c j:=fun j hj hm=>by
    unfold Zn;split
    ·rfl
    ·rename_i uE;rw[Af6 j hj,show j=12+(j-12) by omega,JK] at hm;unfold J1 at hm;simp only[A'] at hm;rw[MB ha h (Q5.2 ⟨Qo,Qo,hm.1.2.1⟩)]
   have e:QQ (Zm (TW W a p name) k c) (Zn (TW W a p name) c) 20=QQ (Zm W k c) (Zn W c) 20:=Pm Af6 hv;have pY:=iv.fl k c hk c0 cl (by unfold ZN at hb ⊢; rwa[e] at hb);rw[MB ha h hk];refine Int.le_trans (Int.le_of_eq ?_) pY;unfold ZN at hb;have hb:=Ot hb;rw[e] at hb;unfold Zf;rw[e,C' Qo,C' Qo];rcases Zl (Zm W k c) (Zn W c) 20 with ⟨q,_⟩ | ⟨_,q2,q3,_⟩
   ·omega
   ·have IQ:(QQ (Zm W k c) (Zn W c) 20).toNat<20:=Qo;exact hv _ IQ (by rw[Af6 _ IQ]; exact q3)
  ·exfalso
   unfold ZN at hb;have hb:=Ot hb;rcases Zl (Zm (TW W k p name) k c) (Zn (TW W k p name) c) 20 with ⟨q,_⟩ | ⟨_,q2,q3,_⟩
   ·omega
   ·rw[Af6 _ Qo,zez wp h _ Qo] at q3;cases q3
end
theorem zpu{W:Q7}(ha:WA W){k c d:Int}(hu:Q6 W.ID k=true)(hd:dep 3 W.ID k=d)(d1:1<=d)(c0:0<=c)(c1:c<(W.IE.length:Int)) :
  WA (RM W k c (Yo W k c))/\V6 (RM W k c (Yo W k c)) c k/\∀g:Int,Q6 W.ID g=true->g≠k->(gi W.ID k).parent≠g->V6 W c g->V6 (RM W k c (Yo W k c)) c g:=by
 have hz:k≠0:=fun e=>by subst e; rw[Yc] at hd; omega
 obtain⟨u0,u1,_⟩:=Q5.1 hu;have hl:=ha.gl;have hsl:=ha.sl hu;have uQ:c<((gi W.ID k).IF.length:Int):=Qo
 have hpk:(gi W.ID k).parent≠k:=fun e=>by
  obtain⟨_,_,_,n,e1,e2,_⟩:=Y3 ha.tree hu hz;rw[e] at e2; omega
 have e:∀{i j:Int},0<=i->0<=j->Qc (RM W k c (Yo W k c)) i j=if k=i/\c=j then Yo W k c else Qc W i j:=fun hi hj=>Jf u0 u1 c0 uQ hi hj
 have hT:=Xu (W:=W) (g:=k) (c:=c) (s:=Yo W k c) u0 u1
 have act:∀g:Int,(gi W.ID k).parent≠g->QU (RM W k c (Yo W k c)) g c=QU W g c:=fun g hg=>by
  refine TE (W:=W) (W':=RM W k c (Yo W k c)) rfl hT fun j hj _ _ hp=>?_
  rw[e Qo c0,C'];rintro⟨h,_⟩;exact hg (by rw[h]; exact hp)
 refine⟨ha.RM u0 Qo,?_,fun g gu gk hg h=>?_⟩
 ·unfold V6;rw[e u0 c0,E' ⟨rfl,rfl⟩,act k hpk,Lb u0 u1 u0];rfl
 ·unfold V6;have g0:=(Q5.1 gu).1;rw[e g0 c0,C' fun h=>gk h.1.symm,act g hg,Lb u0 u1 g0];exact h
theorem zg0{W:Q7}(ha:WA W){c d:Int}(d1:1<=d)(c0:0<=c)(c1:c<(W.IE.length:Int))(hI:∀g:Int,Q6 W.ID g=true->d<dep 3 W.ID g->V6 W c g):∀k:Nat,k<=8->
  WA (ZV W c d k)/\JB W (ZV W c d k)/\∀g:Int,Q6 W.ID g=true->d<dep 3 W.ID g\/dep 3 W.ID g=d/\g<(k:Int)->V6 (ZV W c d k) c g
 | 0,_=>⟨ha,JB.refl _,fun g gu h=>hI g gu (by
   rcases h with h | h
   ·exact h
   ·have:=(Q5.1 gu).1;have:=h.2;omega)⟩
 | k+1,hk=>by
  obtain⟨a,b,ih⟩:=zg0 ha d1 c0 c1 hI k Qo;have hl:=a.gl;have hT:=b.g;simp only[ZV];split
  ·rename_i hc;have hu:Q6 (ZV W c d k).ID (k:Int)=true:=Q5.2 ⟨Qo,Qo,hc.1⟩;obtain⟨l1,l3,l4⟩:=zpu a hu hc.2 d1 c0 (c:=c) (by rw[b.c]; exact c1);refine⟨l1,b.trans (M9 Qo Qo),fun g gu h=>?_⟩
   by_cases e:g=(k:Int)
   ·subst e; exact l3
   ·have hkz:(k:Int)≠0:=fun e=>by have:=hc.2; rw[e,Yc] at this; omega
    obtain⟨_,_,_,n,e1,e2,_⟩:=Y3 a.tree hu hkz;refine l4 g (by rw[hT.dT]; exact gu) e (fun hp=>?_) (ih g gu ?_)
    ·rw[hp,hT.dep] at e2;have:=hc.2;omega
    ·rcases h with h | h
     ·exact .inl h
     ·exact .inr ⟨h.1,by have:=h.2; omega⟩
  ·rename_i hc;refine⟨a,b,fun g gu h=>ih g gu ?_⟩;rcases h with h | h
   ·exact .inl h
   ·refine .inr ⟨h.1,?_⟩
    by_cases e:g=(k:Int)
    ·subst e;exact Is ⟨by rw[hT.u]; exact(Q5.1 gu).2.2,by rw[hT.dep]; exact h.1⟩ hc
    ·have:=h.2;omega
theorem zm4{W:Q7}(ha:WA W){c:Int}(c0:0<=c)(c1:c<(W.IE.length:Int)):WA (QR W c)/\JB W (QR W c)/\∀g:Int,Q6 W.ID g=true->g≠0->V6 (QR W c) c g:=by
 have key:∀j:Nat,j<=3->WA (XI W c j)/\JB W (XI W c j)/\∀g:Int,Q6 W.ID g=true->3-(j:Int)<dep 3 W.ID g->V6 (XI W c j) c g:=by
  intro j
  induction j with
  | zero=>exact fun _=>⟨ha,JB.refl _,fun g gu h=>by have:=(Kp ha gu).2; omega⟩
  | succ j ih=>
   intro hj;obtain⟨a,b,h⟩:=ih Qo;have hT:=b.g;obtain⟨a2,b2,h2⟩:=zg0 a (c:=c) (d:=3-(j:Int)) Qo c0 (by rw[b.c]; exact c1) (fun g gu hd=>h g (by rwa[hT.dT] at gu) (by rwa[hT.dep] at hd)) 8 (I8 _);refine⟨a2,b.trans b2,fun g gu hd=>h2 g (by rw[hT.dT]; exact gu) ?_⟩;rw[hT.dep];have:=(Q5.1 gu).2.1;have:=ha.gl
   by_cases e:dep 3 W.ID g=3-(j:Int)
   ·exact .inr ⟨e,Qo⟩
   ·exact .inl Qo
 obtain⟨a,b,h⟩:=key 3 (I8 _);refine⟨a,b,fun g gu gz=>h g gu ?_⟩;obtain⟨_,_,_,n,e1,_⟩:=Y3 ha.tree gu gz;omega
theorem zcl{W:Q7}(ha:WA W){c d:Int}(d1:1<=d)(c0:0<=c)(c1:c<(W.IE.length:Int)):∀k:Nat,k<=8->DE c W (ZV W c d k)/\WA (ZV W c d k)
 | 0,_=>⟨DE.refl _ _,ha⟩
 | k+1,hk=>by
  obtain⟨o,a⟩:=zcl ha d1 c0 c1 k Qo;have hl:=a.gl;simp only[ZV];split
  ·rename_i hc;have hu:Q6 (ZV W c d k).ID (k:Int)=true:=Q5.2 ⟨Qo,Qo,hc.1⟩;exact⟨o.trans (EJ Qo Qo c0 (by rw[a.sl hu,o.len]; exact c1)),a.RM Qo Qo⟩
  ·exact⟨o,a⟩
theorem zjd{W:Q7}(ha:WA W){c:Int}(c0:0<=c)(c1:c<(W.IE.length:Int)):DE c W (QR W c):=by
 have key:∀j:Nat,j<=3->DE c W (XI W c j)/\WA (XI W c j):=by
  intro j
  induction j with
  | zero=>exact fun _=>⟨DE.refl _ _,ha⟩
  | succ j ih=>
   intro hj;obtain⟨o,a⟩:=ih Qo;obtain⟨o2,a2⟩:=zcl a (c:=c) (d:=3-(j:Int)) Qo c0 (by rw[o.len]; exact c1) 8 (I8 _);exact⟨o.trans o2,a2⟩
 exact(key 3 (I8 _)).1
structure Dm (W:Q7) (c:Int):Prop where
 on:∀k:Int,Q6 W.ID k=true->k≠0->V6 W c k
 cu:0<=(gi W.IE c).cur->(Q8 W (gi W.IE c).cur).R9=c/\ZE W (gi W.IE c).cur=true
theorem zwf{W:Q7}(wp:XA W){c:Int}(c0:0<=c)(c1:c<(W.IE.length:Int)):Dm W c:=
 ⟨fun k hu hz=>(GT wp hu c0 c1).on hz,fun h=>⟨((wp.c c c0 c1).yes h).2.2.2.1,((wp.c c c0 c1).yes h).2.2.2.2.1⟩⟩
theorem Dm.oth{K:Int}{c d:Int}{W W':Q7}(h:Dm W d)(sw:SW K W)(o:DE c W W')(d0:0<=d)(d1:d<(W.IE.length:Int))(hd:d≠c):Dm W' d:=by
 refine⟨fun k hu hz=>?_,fun h0=>?_⟩
 ·rw[o.g.dT] at hu;have k0:=(Q5.1 hu).1;have:=h.on k hu hz;unfold V6 at this ⊢;rw[o.e k d k0 d0 hd,o.aW d0 hd,zd5 (o.b k k0)];exact this
 ·rw[o.cp d d0 hd] at h0 ⊢;rw[XN o.t];obtain⟨h1,h2⟩:=h.cu h0;refine⟨h1,?_⟩
  have hs:(Q8 W (gi W.IE d).cur).state=1:=by
   unfold ZE at h2;rw[A'] at h2;exact Iz h2.1
  have hu:=(sw.t _ h0 (sw.cu d d0 d1).2 (by rw[hs]; decide)).1;rw[o.line sw.a.tree hu (by rw[h1]; exact d0) (by rw[h1]; exact hd)];exact h2
theorem zhv{K:Int}{W:Q7}(sw:SW K W){c:Int}(c0:0<=c)(c1:c<(W.IE.length:Int)):DE c W (VG W c)/\Dm (VG W c) c:=by
 obtain⟨p1,os,hon⟩:=zm4 sw.a c0 c1;have ol:=zjd sw.a c0 c1;obtain⟨f,hA,_⟩:=Ee p1 c0 (c:=c) (by rw[os.c]; exact c1) 8 (I8 _);have f:FC c (QR W c) (Zt (QR W c) c):=f;have hon:∀g:Int,Q6 (QR W c).ID g=true->g≠0->V6 (QR W c) c g:=fun g gu gz=>hon g (by rwa[os.g.dT] at gu) gz
 have aL:VG W c=if MO (Zt (QR W c) c) c=true then RC (Zt (QR W c) c) c else Zt (QR W c) c:=rfl;have hO:DE c W (Zt (QR W c) c):=ol.trans f.o;have hFc:(Zt (QR W c) c).IE.length=W.IE.length:=hO.len;have hT:=f.o.g
 have Bd2:∀k:Int,Q6 (Zt (QR W c) c).ID k=true->k≠0->V6 (Zt (QR W c) c) c k:=fun k hu hz=>by
  rw[hT.dT] at hu;have k0:=(Q5.1 hu).1;have:=hon k hu hz;unfold V6 at this ⊢;rw[f.on k c k0 c0,TE f.o.t hT fun j _ _ _ _=>f.on _ c Qo c0,zd5 (f.o.b k k0)];exact this
 rw[aL];clear aL;generalize Zt (QR W c) c=F at Bd2 hO hFc;have cF:c<(F.IE.length:Int):=by rw[hFc]; exact c1
 split
 ·refine⟨hO.trans (zg6 c0 cF),Bd2,fun h0=>?_⟩;rw[show gi (RC F c).IE c=Xx (gi F.IE c) from (QC _ _ c0 cF c0).trans (E' rfl)] at h0;have h0:(0:Int)<=-1:=h0;omega
 ·rename_i hg;have hg:MO F c=false:=by simpa using hg
  refine⟨hO,Bd2,fun h0=>?_⟩;unfold MO at hg;rw[Ii h0,Bool.true_and,I0] at hg;exact⟨by simpa using hg.1,by simpa using hg.2⟩
theorem zht{K:Int}{W:Q7}(sw:SW K W)(hK:0<=K):∀c:Nat,c<=W.IE.length->∀d:Int,0<=d->d<(c:Int)->Dm (JO W c) d
 | 0,_=>fun d a b=>by omega
 | c+1,hc=>fun d d0 d1=>by
  obtain⟨s1,f1⟩:=KV sw hK c Qo;obtain⟨o,dm⟩:=zhv s1 (c:=(c:Int)) Qo (by rw[f1.c]; omega)
  by_cases h:d=(c:Int)
  ·subst h; exact dm
  ·exact(zht sw hK c Qo d d0 Qo).oth s1 o d0 (by rw[f1.c]; omega) h
theorem znn{K:Int}{W:Q7}(sw:SW K W)(hK:0<=K){d:Int}(d0:0<=d)(d1:d<(W.IE.length:Int)):Dm (Qh W) d:=by
 obtain⟨s1,o1⟩:=Oy (F:=K) (K:=K+Qn) (sw.sf.mono (I3 _) (by simp only[Qn]; omega)) (I3 _) W.IE.length (I8 _);obtain⟨s2,b2⟩:=TL s1 8 (I8 _);exact zht s2.w (by simp only[Qn]; omega) W.IE.length (by show W.IE.length<=(YX (YN W W.IE.length) 8).IE.length; rw[b2.c,o1.c]; exact I8 _) d d0 d1
structure zj9 (W:Q7) (t c:Int):Prop where
 t0:0<=t
 t1:t<12
 st:(Q8 W t).state=1
 R9:(Q8 W t).R9=c
 on:∀x∈Z2 W.ID (Q8 W t).group,(Qc W x c).on=true
theorem zna{W:Q7}(ha:WA W){c:Int}(f:Nat):∀g:Int,Q6 W.ID g=true->(4-dep 3 W.ID g).toNat=f->(∀x∈Z2 W.ID g,(Qc W x c).on=true)->0<=M7 W g c->zj9 W (M7 W g c) c:=by
 induction f with
 | zero=>
  intro g hu hf;have:=Kp ha hu;omega
 | succ f ih=>
  intro g hu hf hp h;rw[EH ha hu] at h ⊢
  by_cases h1:QM W g c<0
  ·rw[E' h1] at h; omega
  ·rw[C' h1] at h ⊢
   by_cases h2:QM W g c<12
   ·rw[E' h2] at h ⊢
    have hm:Zm W g c (QM W g c).toNat=true:=by
     rcases Zl (Zm W g c) (Zn W c) 20 with ⟨a,_⟩ | ⟨_,_,a,_⟩
     ·unfold QM at h1; omega
     ·exact a
    rw[VC Qo] at hm;unfold TY at hm;rw[show (((QM W g c).toNat:Nat):Int)=QM W g c by omega] at hm;simp only[A',It] at hm;refine⟨h,h2,hm.1.1,hm.2,?_⟩;rw[show (Q8 W (QM W g c)).group=g from hm.1.2];exact hp
   ·rw[C' h2] at h ⊢;obtain⟨k1,k2,k3,k4⟩:=Lc ha hu (g:=g) (c:=c) Qo
    have hm:Zm W g c (QM W g c).toNat=true:=by
     rcases Zl (Zm W g c) (Zn W c) 20 with ⟨a,_⟩ | ⟨_,_,a,_⟩
     ·unfold QM at h1; omega
     ·exact a
    rw[show (QM W g c).toNat=12+(QM W g c-12).toNat by omega,JK] at hm;unfold J1 at hm;rw[show (((QM W g c-12).toNat:Nat):Int)=QM W g c-12 by omega] at hm;simp only[A',It] at hm;refine ih _ k1 Qo (fun x hx=>?_) h;rw[Yl ha.tree k1 k2] at hx;rcases Ij.1 hx with e | e
    ·rw[e]; exact hm.2
    ·rw[hm.1.2.2] at e; exact hp x e
theorem znh{W:Q7}(ha:WA W){c:Int}(h12:(gi W.IE c).cur<12)(hcu:0<=(gi W.IE c).cur->(Q8 W (gi W.IE c).cur).R9=c/\ZE W (gi W.IE c).cur=true)(h:¬Qr W c<0):zj9 W (Qr W c) c:=by
 unfold Qr at h ⊢;split
 ·rename_i hc;obtain⟨h1,h2⟩:=hcu hc.1;unfold ZE Uj at h2;rw[A',List.all_eq_true,h1] at h2;exact⟨hc.1,h12,Iz h2.1,h1,h2.2⟩
 ·rename_i hc;rw[C' hc] at h;exact zna ha _ 0 ha.root rfl (fun x hx=>by rw[show Z2 W.ID 0=[] from Zi _ _] at hx; cases hx) Qo
structure VM (W W':Q7):Prop where
 n:W'.now=W.now
 t:W'.tasks=W.tasks
 s:∀i d:Int,(Qc W' i d).sum=(Qc W i d).sum
 g:∀i:Int,(gi W'.ID i).sum=(gi W.ID i).sum
 b:∀i:Int,(gi W'.IE i).busy=(gi W.IE i).busy
 i:∀i:Int,(gi W'.IE i).idle=(gi W.IE i).idle
 u:∀i:Int,(gi W'.IE i).up=(gi W.IE i).up
 r:∀i:Int,(gi W'.IE i).WS=(gi W.IE i).WS\/(gi W'.IE i).WS=0
theorem VM.refl(W:Q7):VM W W:=⟨rfl,rfl,fun _ _=>rfl,fun _=>rfl,fun _=>rfl,fun _=>rfl,fun _=>rfl,fun _=>.inl rfl⟩
theorem VM.trans{A B C:Q7}(h:VM A B)(k:VM B C):VM A C:=
 ⟨k.n.trans h.n,k.t.trans h.t,fun i d=>(k.s i d).trans (h.s i d),fun i=>(k.g i).trans (h.g i),fun i=>(k.b i).trans (h.b i),fun i=>(k.i i).trans (h.i i),fun i=>(k.u i).trans (h.u i),fun i=>by
  rcases k.r i with e | e
  ·rcases h.r i with e2 | e2
   ·exact .inl (e.trans e2)
   ·exact .inr (e.trans e2)
  ·exact .inr e⟩
theorem zq2(W:Q7){g c:Int}{s:K0}(h:s.sum=(Qc W g c).sum):VM W (RM W g c s):=
 ⟨rfl,rfl,fun i d=>YC (f:=fun G:Zr=>(gi G.IF d).sum) W.ID g (x:={ gi W.ID g with IF:=(gi W.ID g).IF.set c.toNat s }) (YC (f:=K0.sum) (gi W.ID g).IF c h d) i,fun i=>YC (f:=Zr.sum) W.ID g (x:={ gi W.ID g with IF:=(gi W.ID g).IF.set c.toNat s }) rfl i,fun _=>rfl,fun _=>rfl,fun _=>rfl,fun _=>.inl rfl⟩
theorem zq1(W:Q7)(g:Int)(b:Jj):VM W (WQ W g b):=
 ⟨rfl,rfl,fun i d=>YC (f:=fun G:Zr=>(gi G.IF d).sum) W.ID g (x:={ gi W.ID g with IT:=b }) rfl i,fun i=>YC (f:=Zr.sum) W.ID g (x:={ gi W.ID g with IT:=b }) rfl i,fun _=>rfl,fun _=>rfl,fun _=>rfl,fun _=>.inl rfl⟩
theorem zmr{α:Type}[Inhabited α](l:List α)(k:Int)(x:α)(i:Int):gi (l.set k.toNat x) i=gi l i\/gi (l.set k.toNat x) i=x:=by
 unfold gi;simp only[List.getD_eq_getElem?_getD,List.getElem?_set];split
 ·split
  ·exact .inr rfl
  ·rename_i e hl;refine .inl ?_;rw[show l[i.toNat]? = none from List.getElem?_eq_none_iff.2 Qo]
 ·exact .inl rfl
theorem zlx(W:Q7)(c:Int):VM W (RC W c):=
 ⟨rfl,rfl,fun _ _=>rfl,fun _=>rfl,fun i=>YC (f:=Pf.busy) W.IE c (x:=Xx (gi W.IE c)) rfl i,fun i=>YC (f:=Pf.idle) W.IE c (x:=Xx (gi W.IE c)) rfl i,fun i=>YC (f:=Pf.up) W.IE c (x:=Xx (gi W.IE c)) rfl i,fun i=>by
  rcases zmr W.IE c (Xx (gi W.IE c)) i with e | e
  ·exact .inl (by show (gi (W.IE.set c.toNat (Xx (gi W.IE c))) i).WS=_; rw[e])
  ·exact .inr (by show (gi (W.IE.set c.toNat (Xx (gi W.IE c))) i).WS=0; rw[e]; rfl)⟩
theorem F6(W:Q7)(c d:Int):∀k:Nat,VM W (ZV W c d k)
 | 0=>VM.refl _
 | k+1=>by
  simp only[ZV];split
  ·exact(F6 W c d k).trans (zq2 _ rfl)
  ·exact F6 W c d k
theorem GY(W:Q7)(c:Int):∀j:Nat,VM W (XI W c j)
 | 0=>VM.refl _
 | j+1=>(GY W c j).trans (F6 _ _ _ _)
theorem Cx(W:Q7):∀c:Nat,VM W (YN W c)
 | 0=>VM.refl _
 | c+1=>(Cx W c).trans (GY (YN W c) (c:Int) 3)
theorem F4(W:Q7)(k:Int):∀c:Nat,VM W (YD W k c)
 | 0=>VM.refl _
 | c+1=>by
  simp only[YD];split
  ·exact(F4 W k c).trans (zq1 _ _ _)
  ·exact F4 W k c
theorem F5(W:Q7):∀k:Nat,VM W (YX W k)
 | 0=>VM.refl _
 | k+1=>by
  simp only[YX];split
  ·exact(F5 W k).trans (F4 _ _ _)
  ·exact F5 W k
theorem GX(W:Q7)(c:Int):∀k:Nat,VM W (Z5 W c k)
 | 0=>VM.refl _
 | k+1=>by
  simp only[Z5];split
  ·exact(GX W c k).trans (zq2 _ rfl)
  ·exact GX W c k
theorem zns(W:Q7)(c:Int):VM W (VG W c):=by
 have h:=(GY W c 3).trans (GX (QR W c) c 8);unfold VG;split
 ·exact h.trans (zlx _ _)
 ·exact h
theorem zc4(W:Q7):∀c:Nat,VM W (JO W c)
 | 0=>VM.refl _
 | c+1=>(zc4 W c).trans (zns (JO W c) (c:Int))
theorem zjz(W:Q7):VM W (Qh W):=((Cx W W.IE.length).trans (F5 (YN W W.IE.length) 8)).trans (zc4 (LU (YN W W.IE.length)) W.IE.length)
structure RB (S:Int) (W:Q7):Prop where
 n:W.now<=50000000000000000
 t:∀t:Int,0<=t->t<12->0<=(Q8 W t).sum/\(Q8 W t).sum<=S/\0<=(Q8 W t).used/\(Q8 W t).used<=S
 s:∀k c:Int,Q6 W.ID k=true->0<=c->c<(W.IE.length:Int)->0<=(Qc W k c).sum/\(Qc W k c).sum<=S
 g:∀k:Int,Q6 W.ID k=true->0<=(gi W.ID k).sum/\(gi W.ID k).sum<=S
 c:∀c:Int,0<=c->c<(W.IE.length:Int)->0<=(gi W.IE c).busy/\(gi W.IE c).busy<=S/\0<=(gi W.IE c).idle/\(gi W.IE c).idle<=50000000000000000/\0<=(gi W.IE c).WS/\(gi W.IE c).WS<=149
theorem RB.sum{S:Int}{W W':Q7}(h:RB S W)(k:VM W W')(hT:QX W.ID W'.ID)(hl:W'.IE.length=W.IE.length):RB S W':=by
 refine⟨by rw[k.n]; exact h.n,fun t a b=>by rw[XN k.t]; exact h.t t a b,fun i c u a b=>?_,fun i u=>?_,fun c a b=>?_⟩
 ·rw[hT.dT] at u;rw[hl] at b;rw[k.s]; exact h.s i c u a b
 ·rw[hT.dT] at u;rw[k.g]; exact h.g i u
 ·rw[hl] at b;have:=h.c c a b;rw[k.b,k.i];refine⟨this.1,this.2.1,this.2.2.1,this.2.2.2.1,?_⟩;rcases k.r c with e | e
  ·rw[e]; exact this.2.2.2.2
  ·rw[e]; exact⟨Qo,Qo⟩
theorem zww{W:Q7}(wp:XA W)(r:PM W):RB Qj W:=by
 have hl:=wp.a.gl;have ht:=wp.a.t;refine⟨r.n,fun t a b=>?_,fun k c u a b=>?_,fun k u=>?_,fun c a b=>?_⟩
 ·have h:=r.t t a Qo;rcases wp.t t a b with hz | ⟨_,hx⟩
  ·rw[hz.2]; decide
  ·exact⟨(Y2.1 hx.s).1,h.2.1,(Y2.1 hx.u).1,h.2.2⟩
 ·obtain⟨u0,u1,_⟩:=Q5.1 u;have hs:=wp.a.sl u;exact⟨(Y2.1 (GT wp u a b).s).1,(r.s k c u0 u1 a Qo).2.2⟩
 ·obtain⟨u0,u1,hg⟩:=wp.a.u u;exact⟨(Y2.1 hg.s).1,r.g k u0 Qo⟩
 ·have hc:=wp.c c a b;have hr:=r.c c a b;refine⟨(Y2.1 hc.b).1,hr.1,(Y2.1 hc.i).1,hr.2,?_⟩
  by_cases h:(gi W.IE c).cur<0
  ·rw[hc.no h]; decide
  ·have:=hc.yes Qo; omega
theorem zhx{b:Jj}(h:VK b){c:Int}(c0:0<=c)(c1:c<(b.locals.length:Int)):VK (YG b c).1/\(YG b c).1.locals.length=b.locals.length/\(YG b c).1.I'=b.I':=by
 unfold YG;split
 ·exact⟨h,rfl,rfl⟩
 ·rename_i hn;have hm:=zex h.p1;have he:=h.each c c0 c1;have hs:=KW b.locals c (Y1 20 b.Sp) c0 c1 b.locals.length;rw[E' c1] at hs;have p2:=h.p2;have su:=h.sum;have dl:=h.dl;refine⟨⟨h.q1,h.q2,?_,?_,?_,?_,?_,h.s1,h.s2,fun d d0 d1=>?_,?_⟩,Qs,rfl⟩
  ·simp only[H']; exact h.l1
  ·simp only[H']; exact h.l2
  ·simp only[H']; exact h.dl
  ·show 0<=b.Sp-Y1 20 b.Sp; omega
  ·show b.Sp-Y1 20 b.Sp<=b.I'; omega
  ·simp only[H'] at d1;have hd:=h.each d d0 d1;show 0<=gi (b.locals.set c.toNat (Y1 20 b.Sp)) d/\gi (b.locals.set c.toNat (Y1 20 b.Sp)) d<=b.I'/\(gi (b.RI.set c.toNat (Y1 20 b.Sp==0)) d=true->gi (b.locals.set c.toNat (Y1 20 b.Sp)) d=0/\b.Sp-Y1 20 b.Sp=0);rw[QC _ _ c0 c1 d0,QC _ _ c0 Qo d0];have hz:Y1 20 b.Sp=0->b.Sp=0:=fun e=>by unfold Y1 at e; split at e <;> omega
   by_cases e:c=d
   ·subst e;rw[E' rfl,E' rfl];refine⟨hm.1,Qo,fun hd0=>?_⟩;have e0:Y1 20 b.Sp=0:=Iz hd0;have:=hz e0;exact⟨e0,Qo⟩
   ·rw[C' e,C' e];refine⟨hd.1,hd.2.1,fun hd0=>?_⟩;have:=hd.2.2 hd0;exact⟨this.1,Qo⟩
  ·show b.Sp-Y1 20 b.Sp+b.Ww+Um (b.locals.set c.toNat (Y1 20 b.Sp)) (b.locals.set c.toNat (Y1 20 b.Sp)).length=b.I';rw[H',hs];omega
theorem zc0{b:Jj}(h:VK b){c n:Int}(c0:0<=c)(c1:c<(b.locals.length:Int)):VK (Tr b c n).1/\(Tr b c n).1.locals.length=b.locals.length/\(Tr b c n).1.I'=b.I':=by
 unfold Tr;split
 ·exact⟨h,rfl,rfl⟩
 ·rename_i hn;have hs:=KW b.locals c (gi b.locals c-n) c0 c1 b.locals.length;rw[E' c1] at hs;have hnn:=(zfk (fun d d0 d1=>(h.each d d0 d1).1) c0 b.locals.length (I8 _)).2 c1;have p1:=h.p1;have su:=h.sum;have s1:=h.s1;have dl:=h.dl;have hn1:¬n<1:=fun e=>hn (.inl e)
  have hn2:¬n>gi b.locals c:=fun e=>hn (.inr e)
  refine⟨⟨h.q1,h.q2,?_,?_,?_,h.p1,h.p2,?_,?_,fun d d0 d1=>?_,?_⟩,Qs,rfl⟩
  ·simp only[H']; exact h.l1
  ·simp only[H']; exact h.l2
  ·simp only[H']; exact h.dl
  ·show 0<=b.Ww+n; omega
  ·show b.Ww+n<=b.I'; omega
  ·simp only[H'] at d1;have hd:=h.each d d0 d1;show 0<=gi (b.locals.set c.toNat (gi b.locals c-n)) d/\gi (b.locals.set c.toNat (gi b.locals c-n)) d<=b.I'/\(gi b.RI d=true->gi (b.locals.set c.toNat (gi b.locals c-n)) d=0/\b.Sp=0);rw[QC _ _ c0 c1 d0]
   by_cases e:c=d
   ·subst e;rw[E' rfl];exact⟨Qo,Qo,fun hd0=>by have:=(hd.2.2 hd0).1; omega⟩
   ·rw[C' e];exact hd
  ·show b.Sp+(b.Ww+n)+Um (b.locals.set c.toNat (gi b.locals c-n)) (b.locals.set c.toNat (gi b.locals c-n)).length=b.I';rw[H',hs];omega
def zal(b:Jj)(c:Int):Nat->Nat
 | 0=>0
 | d+1=>zal b c d+if (d:Int)≠c/\gi b.locals (d:Int)>0 then 1 else 0
def zj4(b:Jj)(c:Int):Nat:=if gi b.RI c=true then 0 else 1
def XM(b:Jj)(c:Int):Nat:=9*zal b c 4+zj4 b c
theorem zkx(b:Jj)(c:Int):∀n:Nat,zal b c n<=n
 | 0=>I8 _
 | n+1=>by
  have:=zkx b c n;simp only[zal]
  split <;> omega
theorem ztc(b:Jj)(c:Int):XM b c<=37:=by
 have:=zkx b c 4;unfold XM zj4
 split <;> omega
def zbr(W:Q7)(c:Int):Nat->Nat
 | 0=>0
 | k+1=>zbr W c k+XM (gi W.ID (k:Int)).IT c
def Kc(W:Q7)(c:Int):Nat:=zbr W c 8
theorem Lj{W W':Q7}{c:Int}(h:∀k:Nat,k<8->XM (gi W'.ID (k:Int)).IT c<=XM (gi W.ID (k:Int)).IT c):∀k:Nat,k<=8->zbr W' c k<=zbr W c k
 | 0,_=>I8 _
 | k+1,hk=>by
  have:=Lj h k Qo;have:=h k Qo;simp only[zbr];omega
theorem zlg{W W':Q7}{c:Int}(h:∀k:Nat,k<8->XM (gi W'.ID (k:Int)).IT c<=XM (gi W.ID (k:Int)).IT c){j:Nat}(hj:XM (gi W'.ID (j:Int)).IT c<XM (gi W.ID (j:Int)).IT c):∀k:Nat,j<k->k<=8->zbr W' c k<zbr W c k
 | 0,h0,_=>Is h0 (Nat.not_lt_zero j)
 | k+1,gG,hk=>by
  have h1:=Lj h k Qo;have h2:=h k Qo;simp only[zbr]
  by_cases e:j=k
  ·subst e; omega
  ·have:=zlg h hj k Qo Qo;omega
theorem zte(W:Q7)(c:Int):Kc W c<=296:=by
 have key:∀k:Nat,zbr W c k<=37*k:=by
  intro k
  induction k with
  | zero=>exact I8 _
  | succ k ih=>
   have:=ztc (gi W.ID (k:Int)).IT c;simp only[zbr];omega
 exact key 8
theorem Le{b b':Jj}{c:Int}(h:∀d:Nat,(d:Int)≠c->gi b'.locals (d:Int)=gi b.locals (d:Int)):∀n:Nat,zal b' c n=zal b c n
 | 0=>rfl
 | n+1=>by
  simp only[zal];rw[Le h n]
  by_cases e:(n:Int)=c
  ·simp[e]
  ·rw[h n e]
end Go.Proofs.YtnclplgaicdapaaGreatDoor
