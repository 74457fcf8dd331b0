/- Part 11 of what the law FnPick needs. -/
import Derived.Test.YtjinkcmkgnofjaaGreatFnPickPj
import Derived.Shelf.Abstract
set_option linter.all false
set_option maxRecDepth 100000
set_option maxHeartbeats 8000000
namespace Go.Proofs.YtjinkcmkgnofjaaGreat
open Go.RowKit
def zvk(W:Q7)(a b:Int):Bool:=decide (Pm W a>Pm W b)
def Px(W:Q7)(c m:Int):Nat->Int
 |0 => -1
 |k+1=>if ((Zb m (k:Int)&&zlw W (k:Int) c)&&(decide (Px W c m k<0)||zvk W (k:Int) (Px W c m k)))=true then (k:Int) else Px W c m k
def zn8{W:Q7}{c m:Int}{k:Nat}(h:((Zb m (k:Int)&&zlw W (k:Int) c)&&(decide (Px W c m k<0)||zvk W (k:Int) (Px W c m k)))):Px W c m (k+1)=(k:Int):=H' h
def zkc{W:Q7}{c m:Int}{k:Nat}(h:¬((Zb m (k:Int)&&zlw W (k:Int) c)&&(decide (Px W c m k<0)||zvk W (k:Int) (Px W c m k)))):Px W c m (k+1)=Px W c m k:=E' h
def zrk{p:Nat->Bool}{n:Nat}(h:p n=false):VO p (n+1)=VO p n:=by simp[VO,h]
def A0(W:Q7)(c m:Int):∀k:Nat,-1<=Px W c m k/\Px W c m k<k
 |0=>by simp[Px]
 |k+1=>by
  have:=A0 W c m k;simp only[Px]
  split <;> omega
noncomputable def TE(W:Q7)(c lv:Int):Int:=Px W c (zwe (W.IF.length:Int) c lv) W.IF.length
def zt8{W:Q7}(wp:Xw W){b c:Int}(h:zlw W b c):0<=b/\b<(W.IF.length:Int)/\b≠c:=by
 obtain⟨t,ht,hp⟩:=Oz.1 h;simp only[A',Iu] at hp;obtain⟨h1,h2⟩:=Fh hp.2;have:=wp.li (t:=(t:Int)) Qo (by have:=wp.a.t;omega) h1;rw[hp.1] at this h2;exact⟨this.2.1,this.2.2,h2⟩
section
variable {W:Q7}{m:MW}{w:Wo}{bs:List Nat}{p:OA}
def HV{s c:Int}(h:X0 bs w W m)(wp:Xw W)(c0:0<=c)(c1:c<(W.IF.length:Int)):PX bs UP #[.agg (Qa W m).toArray,I s,I c] w (I (Px W c s W.IF.length)):=
 Dd _ _ _ _ _ _ _ _ _ _ s c λwr hx=>by
  have h:=(h.ext hx).less (cs:=[]) Qs;have h4:=wp.a.c2;have lB:=wp.a.t;intro _ _;refine TM W.IF.length 0 rfl (λx k=>k<=W.IF.length/\x=Px W c s k) ⟨Ig _,rfl⟩ λx k ⟨hk,Rt⟩=>⟨λIX=>?_,λRX=>?_⟩
  ·subst Rt;have IX:=Ot IX;have hr:=A0 W c s k;refine⟨_,λ_=>ZU,_,λ_ _=>JK h wp,_,λ_ _=>JK h wp,λg=>?_,λg=>?_⟩
   ·refine⟨⟨Qo,Qo⟩,QG Qo ⟨Qo,?_⟩⟩;rw[zkc];intro hc;simp only[A'] at hc;have fJ:=(zt8 wp hc.1.2).2.2;rw[beq_eq_false_iff_ne.2 fJ,hc.1.1] at g;simp only[Bool.not_true,Bool.or_self,Bool.false_or,A',Il] at g;unfold zvk at hc;simp only[Iw,Il] at hc;omega
   ·simp only[I1,I8] at g;obtain⟨⟨g1,g2⟩,g3⟩:=g
    have hb:(decide (Px W c s k<0)||zvk W (k:Int) (Px W c s k)):=by
     unfold zvk;simp only[Iw,Il];simp only[Bool.and_eq_false_iff,decide_eq_false_iff_not] at g3;omega
    refine TM 12 0 rfl (λy j=>j<=12/\y=if VO (λt=>((Q8 W (t:Int)).R8==(k:Int))&&Ua W (t:Int) c) j=true then (k:Int) else Px W c s k) ⟨Ig _,rfl⟩ λy j ⟨hj,hy⟩=>⟨λSi=>?_,λdA=>?_⟩
    ·have Si:=Ot Si;have tG:j<12:=Qo;refine⟨h.t.ix QF Qo Si,_,h.t.f Qo Si (j:=2) rfl,_,λ_=>MS h wp Qo Si c0 c1,λg4=>?_,λg4=>?_⟩
     ·have g4:(((Q8 W (j:Int)).R8==(k:Int))&&Ua W (j:Int) c):=g4;refine⟨⟨Qo,Qo⟩,QG tG ⟨Qo,?_⟩⟩;rw[H'];simp only[VO,Iw];exact .inr g4
     ·have g4:(((Q8 W (j:Int)).R8==(k:Int))&&Ua W (j:Int) c)=false:=g4;refine⟨⟨Qo,Qo⟩,QG tG ⟨Qo,?_⟩⟩;rw[hy,zrk (p:=λt=>((Q8 W (t:Int)).R8==(k:Int))&&Ua W (t:Int) c) g4]
    ·have dA:=Ou dA;have:j=12:=Qo;subst this;refine⟨⟨Qo,Qo⟩,QG Qo ⟨Qo,?_⟩⟩;rw[hy];show (if zlw W (k:Int) c=true then (k:Int) else Px W c s k)=_
     cases ha:zlw W (k:Int) c with
     |true=>rw[zn8 (by rw[g2,ha,hb];rfl),H' rfl]
     |false=>rw[zkc (by rw[ha];simp),E' Qd]
  ·have RX:=Ou RX;have:k=W.IF.length:=Qo;subst this;rw[Rt]
end
def zfs(cs:List Pe){c:Int}(c0:0<=c):∀k:Nat,k<=4->c<(k:Int)->(gi cs c).up->Zb (Up cs k) c=true
 |0,_,h,_=>by omega
 |k+1,hk,h,hu=>by
  have hl:=Lo cs k Qo
  have hb:Jz k<=8:=by
   have:k=0\/k=1\/k=2\/k=3:=Qo;rcases this with rfl|rfl|rfl|rfl <;> decide
  have key:=zgn ⟨k,Qo⟩ ⟨(Up cs k).toNat,Qo⟩ ⟨c.toNat,Qo⟩;rw[show ((⟨(Up cs k).toNat,Qo⟩:Fin 8).val:Int)=Up cs k by show (((Up cs k).toNat:Nat):Int)=Up cs k;omega,show ((⟨c.toNat,Qo⟩:Fin 4).val:Int)=c by show ((c.toNat:Nat):Int)=c;omega] at key;simp only[Up]
  by_cases e:c=(k:Int)
  ·subst e;rw[H' hu,key hl.2];simp
  ·have ih:=zfs cs c0 k Qo Qo hu;split
   ·rw[key hl.2,ih];simp
   ·exact ih
def Fb{cs:List Pe}(h4:cs.length<=4){c:Int}(c0:0<=c)(c1:c<(cs.length:Int))(hu:(gi cs c).up):Jb cs≠0:=λe=>by
 have h:=zfs cs c0 cs.length h4 c1 hu;rw[show Up cs cs.length=0 from e] at h;have hr:=P1 h;have:c=0\/c=1\/c=2\/c=3:=Qo;rcases this with rfl|rfl|rfl|rfl <;> exact It h Qd
def zpl{m c:Int}(c0:0<=c)(c4:c<4)(h:Zb m c)(hn:∀j:Int,0<=j->j<4->j≠c->Zb m j=false):GH m 4=1:=by
 have h0:=hn 0 Qd Qd;have h1:=hn 1 Qd Qd;have h2:=hn 2 Qd Qd;have h3:=hn 3 Qd Qd;have i0:((0:Nat):Int)=0:=rfl;have i1:((1:Nat):Int)=1:=rfl;have i2:((2:Nat):Int)=2:=rfl;have i3:((3:Nat):Int)=3:=rfl;have:c=0\/c=1\/c=2\/c=3:=Qo;simp only[GH,i0,i1,i2,i3];rcases this with rfl|rfl|rfl|rfl
 ·have e1:=h1 Qd;have e2:=h2 Qd;have e3:=h3 Qd;simp[h,e1,e2,e3]
 ·have e1:=h0 Qd;have e2:=h2 Qd;have e3:=h3 Qd;simp[h,e1,e2,e3]
 ·have e1:=h0 Qd;have e2:=h1 Qd;have e3:=h3 Qd;simp[h,e1,e2,e3]
 ·have e1:=h0 Qd;have e2:=h1 Qd;have e3:=h2 Qd;simp[h,e1,e2,e3]
def znk{cs:List Pe}(h4:cs.length<=4){c:Int}(c0:0<=c)(c1:c<(cs.length:Int))(hu:(gi cs c).up)(hn:GH (Jb cs) 4≠1):∃j:Int,0<=j/\j<(cs.length:Int)/\j≠c/\(gi cs j).up:=by
 refine Classical.byContradiction λfJ=>hn (zpl c0 Qo (zfs cs c0 cs.length h4 c1 hu) λj j0 j4 hj=>?_)
 cases h:Zb (Jb cs) j with
 |false=>rfl
 |true=>
  obtain⟨a,b⟩:=zfr cs (c:=j) cs.length h4 h;exact It ⟨j,j0,a,hj,b⟩ fJ
def SW.S8{K:Int}{W:Q7}(h:SW K W){c:Int}(c0:0<=c)(c1:c<(W.IF.length:Int)){x:Pe}(hu:Jb (W.IF.set c.toNat x)≠0)(h1 : -1<=x.cur)(h2:x.cur<12):SW K (S8 W c x):=by
 have hl:(W.IF.set c.toNat x).length=W.IF.length:=I0;have hg:∀d:Int,0<=d->gi (W.IF.set c.toNat x) d=if c=d then x else gi W.IF d:=λd d0=>QD _ _ c0 c1 d0
 refine⟨h.a.cp hl hu,λt a b n=>?_,h.tv,λk d u a b=>?_,λd a b=>?_⟩
 ·show _/\_/\_<(((W.IF.set c.toNat x).length:Nat):Int);rw[hl];exact h.t t a b n
 ·have b:d<(((W.IF.set c.toNat x).length:Nat):Int):=b;rw[hl] at b;exact h.s k d u a b
 ·have b:d<(((W.IF.set c.toNat x).length:Nat):Int):=b;rw[hl] at b;show _<=(gi (W.IF.set c.toNat x) d).cur/\(gi (W.IF.set c.toNat x) d).cur<12;rw[hg _ a];split
  ·exact⟨h1,h2⟩
  ·exact h.cu d a b
noncomputable def UF(W:Q7)(c:Int)(up:Bool)(last:Int):Int:=if Y4 W c=false then 1 else if (gi W.IF c).up≠up then 6 else if last≠0 then last else if QO W=false then 10 else 0
def zd8{W:Q7}{c:Int}{up:Bool}{last:Int}(h:UF W c up last=0):Y4 W c/\(gi W.IF c).up=up/\last=0/\QO W:=by
 unfold UF at h
 split at h
 ·cases h
 ·rename_i h1
  split at h
  ·cases h
  ·rename_i h2
   split at h
   ·rename_i h3;exact It h h3
   ·rename_i h3
    split at h
    ·cases h
    ·rename_i h4;exact⟨by simpa using h1,by simpa using h2,Qo,by simpa using h4⟩
def L8{W:Q7}{c:Int}{up:Bool}{last:Int}(h1:Y4 W c)(h2:(gi W.IF c).up=up)(h3:last=0):UF W c up last=if QO W=false then 10 else 0:=by
 unfold UF;rw[E' (by rw[h1];decide),E' (by simpa using h2),E' (by simpa using h3)]
def MZ(x:Pe)(b:Bool):Pe:={ x with up:=b }
def zv6(W:Q7)(c:Int):Q7:=Qh (LJ (S8 W c (MZ (gi W.IF c) true)))
def KK(W:Q7):Int:=if GH (Jb W.IF) 4=1 then 5 else 0
def zpz(W:Q7)(c:Int):Q7:=Qh (LJ (RG (S8 W c (MZ (gi W.IF c) false)) c))
def ztx{W:Q7}{c:Int}(hW:QH W)(hb:UF W c false 0=0):0<=c/\c<(W.IF.length:Int)/\SF Qt (Qt+Qp) W/\SF Qt (Qt+Qp) (S8 W c (MZ (gi W.IF c) true)):=by
 obtain⟨h1,h2,_,h4⟩:=zd8 hb;have wp:=Qm.1 hW;have sw:=P8 wp (Qm.1 h4);obtain⟨c0,c1⟩:=Xg h1;have hcu:=sw.cu c c0 c1;have hl:(W.IF.set c.toNat (MZ (gi W.IF c) true)).length=W.IF.length:=I0;have hc2:=wp.a.c2;exact⟨c0,c1,Mb sw,Mb (sw.S8 c0 c1 (x:=MZ (gi W.IF c) true) (Fb Qo c0 Qo (by rw[QD _ _ c0 c1 c0,H' rfl];rfl)) hcu.1 hcu.2)⟩
def zp0{W:Q7}{c:Int}(hW:QH W)(hb:UF W c true (KK W)=0):0<=c/\c<(W.IF.length:Int)/\SF Qt (Qt+Qp) W/\SF Qt (Qt+Qp) (S8 W c (MZ (gi W.IF c) false)):=by
 obtain⟨h1,h2,h3,h4⟩:=zd8 hb;have wp:=Qm.1 hW;have sw:=P8 wp (Qm.1 h4);obtain⟨c0,c1⟩:=Xg h1;have hcu:=sw.cu c c0 c1;have hl:(W.IF.set c.toNat (MZ (gi W.IF c) false)).length=W.IF.length:=I0;have hc2:=wp.a.c2;have hn:GH (Jb W.IF) 4≠1:=λe=>by unfold KK at h3;rw[H' e] at h3;cases h3
 obtain⟨j,j0,j1,jc,hj⟩:=znk hc2 c0 c1 h2 hn;exact⟨c0,c1,Mb sw,Mb (sw.S8 c0 c1 (x:=MZ (gi W.IF c) false) (Fb Qo j0 Qo (by rw[QD _ _ c0 c1 j0,E' λe=>jc e.symm];exact hj)) hcu.1 hcu.2)⟩
def Nh(W:Q7)(c:Int)(x:Pe)(m:MW):Qa (S8 W c x) m=Qa W m:=by simp[Qa,S8]
section
variable {W W':Q7}{m:MW}{w:Wo}
def zev{c:Int}(h:X0 [] w W m)(hl:Xk W) :
  Cz Pz #[.agg (Qa W m).toArray,I c] w λe w'=>∃v,e=.returned v/\QM (Xz W (UF W c false 0) (zv6 W c)) w v w':=by
 refine zef _ _ _ _ _ _ _ _ _ _ c (R:=λv w'=>QM (Xz W (UF W c false 0) (zv6 W c)) w v w') ?_;intro y hy y1 eR wr Rt Wg;have hm9:=Zp;have rM:=hl.c;refine I5 (Z8 (h.ext Rt) hl) ?_;rintro e wv (⟨hW,he,Wc⟩|⟨hW,m',he,hM,Wc⟩)
 ·exact⟨_,_,_,_,_,_,_,_,_,_,_,he,Qf Wc Wg,λg=>by simp at g,true,λg=>by simp at g,λ_ Ra Ru=>QM.bad hW ((Rt.trans Wc).fresh Ru λz hm=>.inl (Yz hy eR z hm)),λg=>by simp at g⟩
 have hK:=Wk.begin hy eR Rt Wg hM Wc;have hr:=hK.rd;have wp:=Qm.1 hW;have hm0:=YQ;refine⟨_,_,_,_,_,_,_,_,_,_,_,he,Qf Wc Wg,λ_=>⟨Qo,Qo⟩,Y4 W c,λ_=>Ql,λg Ra Ru=>?_,λg=>?_⟩
 ·have g:Y4 W c=false:=by
   cases hc:Y4 W c with
   |false=>rfl
   |true=>rw[hc] at g;split at g <;> simp at g
  have hb:UF W c false 0=1:=by unfold UF;rw[H' g]
  exact QM.no hW (by rw[hb];decide) (hK.step Ru) hb
 have g:Y4 W c:=by
  cases hc:Y4 W c with
  |true=>rfl
  |false=>rw[hc] at g;simp at g
 obtain⟨c0,c1⟩:=Xg g;refine⟨hr.c.ix Zy c0 c1,_,hr.c.f c0 c1 (j:=0) rfl,λg2 Rg Ru=>?_,λg2=>⟨λg3 RL Ru=>?_,λg3=>?_⟩⟩
 ·have hb:UF W c false 0=6:=by unfold UF;rw[E' (by rw[g];decide),H' (by rw[g2];decide)]
  exact QM.no hW (by rw[hb];decide) (hK.step Ru) hb
 ·have bH:¬QO W:=λhr=>by rw[H' hr] at g3;simp at g3
  have hb:UF W c false 0=10:=by rw[L8 g g2 rfl,H' (by simpa using bH)]
  rw[E' bH];exact QM.no hW (by rw[hb];decide) (hK.step Ru) hb
 have bH:QO W:=Is λhr=>by rw[E' hr] at g3;simp at g3
 have hb:UF W c false 0=0:=by rw[L8 g g2 rfl,E' (by rw[bH];decide)]
 obtain⟨_,_,_,sf⟩:=ztx hW hb;have SZ:Wk 8 [y,y1] w (RN wv m'.cO (Int.toNat c*5+0) [.bool true]) (S8 W c (MZ (gi W.IF c) true)) m':=hK.RN (hK.own.Aa5 c0 c1 (j:=0) (vs:=[.bool true]) (x:=MZ (gi W.IF c) true) rfl Qs) zby;refine⟨hr.c.ix Zy c0 c1,znq hK.own hK.nb c0 c1 Qd,λRO X' gX=>?_⟩;have e5:Qa (S8 W c (MZ (gi W.IF c) true)) m'=Qa W m':=Nh _ _ _ _;have hE:zv6 W c=Qh (LJ (S8 W c (MZ (gi W.IF c) true))):=rfl;rw[hE];generalize S8 W c (MZ (gi W.IF c) true)=V at SZ sf e5;have dT:=SZ.step X';have RD:=J1 dT.own sf (I4 _) (by simp only[Qp];decide);rw[e5] at RD;refine I5 RD ?_;rintro e1 RF ⟨mJ,rN⟩;refine⟨_,_,_,_,_,_,_,_,_,_,mJ,dT.kept rN gX,λS5 Wb kM=>?_⟩;have dE:=(dT.W9 rN gX).step Wb;have aP:=Qu dE.own (Lk sf (I4 _)).1.w (by simp only[Qp];decide) (by simp only[Qp];decide) dE.base;rw[HJ sf (I4 _),e5] at aP;refine I5 aP ?_;rintro e2 RH ⟨m2,bS,pS⟩;exact⟨_,_,_,_,_,_,_,_,_,_,bS,dE.kept pS kM,λSw eM=>QM.ok hW hb ((dE.W9 pS kM).step eM)⟩
def za1{c:Int}(h:X0 [] w W m)(hl:Xk W) :
  Cz OL #[.agg (Qa W m).toArray,I c] w λe w'=>∃v,e=.returned v/\QM (Xz W (UF W c true (KK W)) (zpz W c)) w v w':=by
 refine zap _ _ _ _ _ _ _ _ _ _ c (R:=λv w'=>QM (Xz W (UF W c true (KK W)) (zpz W c)) w v w') ?_;intro y hy y1 eR wr Rt Wg;have hm0:=YQ;have rM:=hl.c;refine I5 (Z8 (h.ext Rt) hl) ?_;rintro e wv (⟨hW,he,Wc⟩|⟨hW,m',he,hM,Wc⟩)
 ·exact⟨_,_,_,_,_,_,_,_,_,_,_,he,Qf Wc Wg,λg=>by simp at g,true,λg=>by simp at g,λ_ Ra Ru=>QM.bad hW ((Rt.trans Wc).fresh Ru λz hm=>.inl (Yz hy eR z hm)),λg=>by simp at g⟩
 have hK:=Wk.begin hy eR Rt Wg hM Wc;have hr:=hK.rd;have wp:=Qm.1 hW;refine⟨_,_,_,_,_,_,_,_,_,_,_,he,Qf Wc Wg,λ_=>⟨Qo,Qo⟩,Y4 W c,λ_=>Ql,λg Ra Ru=>?_,λg=>?_⟩
 ·have g:Y4 W c=false:=by
   cases hc:Y4 W c with
   |false=>rfl
   |true=>rw[hc] at g;split at g <;> simp at g
  have hb:UF W c true (KK W)=1:=by unfold UF;rw[H' g]
  exact QM.no hW (by rw[hb];decide) (hK.step Ru) hb
 have g:Y4 W c:=by
  cases hc:Y4 W c with
  |true=>rfl
  |false=>rw[hc] at g;simp at g
 obtain⟨c0,c1⟩:=Xg g;refine⟨hr.c.ix Zy c0 c1,_,hr.c.f c0 c1 (j:=0) rfl,λg2 Rg Ru=>?_,λg2=>⟨_,Mu hr wp.a.c2,_,Er,λg3 RL Ru=>?_,λg3=>⟨λg4 RO Ru=>?_,λg4=>?_⟩⟩⟩
 ·have g2:(gi W.IF c).up=false:=by simpa using g2
  have hb:UF W c true (KK W)=6:=by unfold UF;rw[E' (by rw[g];decide),H' (by rw[g2];decide)]
  exact QM.no hW (by rw[hb];decide) (hK.step Ru) hb
 ·have g2:(gi W.IF c).up:=by simpa using g2
  have hL:KK W=5:=by unfold KK;rw[H' (by simpa using g3)]
  have hb:UF W c true (KK W)=5:=by unfold UF;rw[E' (by rw[g];decide),E' (by rw[g2];decide),hL,H' Qd]
  exact QM.no hW (by rw[hb];decide) (hK.step Ru) hb
 ·have g2:(gi W.IF c).up:=by simpa using g2
  have hL:KK W=0:=by unfold KK;rw[E' (by simpa using g3)]
  have bH:¬QO W:=λhr=>by rw[H' hr] at g4;simp at g4
  have hb:UF W c true (KK W)=10:=by rw[L8 g g2 hL,H' (by simpa using bH)]
  rw[E' bH];exact QM.no hW (by rw[hb];decide) (hK.step Ru) hb
 have g2:(gi W.IF c).up:=by simpa using g2
 have hL:KK W=0:=by unfold KK;rw[E' (by simpa using g3)]
 have bH:QO W:=Is λhr=>by rw[E' hr] at g4;simp at g4
 have hb:UF W c true (KK W)=0:=by rw[L8 g g2 hL,E' (by rw[bH];decide)]
 obtain⟨_,_,_,sf⟩:=zp0 hW hb;have SZ:Wk 8 [y,y1] w (RN wv m'.cO (Int.toNat c*5+0) [.bool false]) (S8 W c (MZ (gi W.IF c) false)) m':=hK.RN (hK.own.Aa5 c0 c1 (j:=0) (vs:=[.bool false]) (x:=MZ (gi W.IF c) false) rfl Qs) zby;refine⟨hr.c.ix Zy c0 c1,znq hK.own hK.nb c0 c1 Qd,λS5 Wb kM=>?_⟩;have e5:Qa (S8 W c (MZ (gi W.IF c) false)) m'=Qa W m':=Nh _ _ _ _;have hlV:(S8 W c (MZ (gi W.IF c) false)).IF.length=W.IF.length:=by simp[S8]
 have hE:zpz W c=Qh (LJ (RG (S8 W c (MZ (gi W.IF c) false)) c)):=rfl;rw[hE];generalize S8 W c (MZ (gi W.IF c) false)=V at SZ sf e5 hlV;have c1V:c<(V.IF.length:Int):=by rw[hlV];exact c1
 have dT:=SZ.step Wb;have Bh9:=Zr dT.own c0 c1V;rw[e5] at Bh9;refine I5 Bh9 ?_;rintro e0 wv0 ⟨he0,hy0⟩;refine⟨_,_,_,_,_,_,_,_,_,_,he0,dT.kept hy0 kM,λSw eM hs6=>?_⟩;have sfE:=sf.RG c0 c1V;have rK:=(dT.W9 hy0 kM).step eM;generalize RG V c=U at rK sfE;have RD:=J1 rK.own sfE (I4 _) (by simp only[Qp];decide);refine I5 RD ?_;rintro e1 RF ⟨mJ,rN⟩;refine⟨_,_,_,_,_,_,_,_,_,_,mJ,rK.kept rN hs6,λSC mE hs7=>?_⟩;have hK7:=(rK.W9 rN hs6).step mE;have aP:=Qu hK7.own (Lk sfE (I4 _)).1.w (by simp only[Qp];decide) (by simp only[Qp];decide) hK7.base;rw[HJ sfE (I4 _)] at aP;refine I5 aP ?_;rintro e2 RH ⟨m2,bS,pS⟩;exact⟨_,_,_,_,_,_,_,_,_,_,bS,hK7.kept pS hs7,λU' rD=>QM.ok hW hb ((hK7.W9 pS hs7).step rD)⟩
end
noncomputable def Pq(W:Q7)(t:Int):Int:=if ZI W t=false then 2 else if (Q8 W t).state≠2 then 6 else if QO W=false then 10 else 0
def Pa(W:Q7)(t:Int):Int:=if zhg W (Q8 W t).R8>0 then Pc W (Qv W (Q8 W t).II (Q8 W t).mask) else (Q8 W t).R8
def VH(W:Q7)(t c:Int):Pv:={ PH W t (Q8 W t).II c with state:=1 }
def Fv(W:Q7)(t:Int):Q7:=Qh (RG (I' W t (VH W t (Pa W t))) (Pa W t))
def V2(W:Q7)(t:Int)(x:Pv):(I' W t x).IK.length=W.IK.length:=by simp[I']
def zlc{W:Q7}{t:Int}(h:(Q8 W t).state=2)(c:Int):UU W t (Q8 W t).II c=I' W t (PH W t (Q8 W t).II c):=by
 unfold UU;rw[E' (by rw[h];decide)]
def zft{W:Q7}{t c:Int}(sf:SF Qt (Qt+Qp) W)(t0:0<=t)(t1:t<(W.IK.length:Int))(n:(Q8 W t).state≠0)(c0:0<=c)(c1:c<(W.IF.length:Int)):SF Qt (Qt+Qp) (I' W t (VH W t c)):=by
 have hl:=sf.w.a.t;have hu:=(sf.w.t t t0 Qo n).1;have hv:=zlb sf (I4 _) (t:=t) hu c0 c1;exact sf.I' t0 Qo (x:=VH W t c) (λ_=>⟨hu,c0,c1⟩) hv.1 hv.2
def zls{W:Q7}{t:Int}(hW:QH W)(hb:Pq W t=0):ZI W t/\(Q8 W t).state=2/\QO W/\SF Qt (Qt+Qp) W/\0<=Pa W t/\Pa W t<(W.IF.length:Int):=by
 have wp:=Qm.1 hW;unfold Pq at hb
 split at hb
 ·cases hb
 ·rename_i h1
  split at hb
  ·cases hb
  ·rename_i h2
   split at hb
   ·cases hb
   ·rename_i h3;have h1:ZI W t:=by simpa using h1
    have h2:(Q8 W t).state=2:=by simpa using h2
    have h3:QO W:=by simpa using h3
    have sw:=P8 wp (Qm.1 h3);obtain⟨t0,t1,n⟩:=YK h1;have hl:=wp.a.t;have hc:=sw.t t t0 Qo n;refine⟨h1,h2,h3,Mb sw,?_⟩;unfold Pa;split
    ·have:=Lj wp.a (Q8 W t).II (Q8 W t).mask;exact⟨this.1,this.2.1⟩
    ·exact hc.2
section
variable {base pb:Nat}{W W':Q7}{m:MW}{w:Wo}
def BE{t:Int}(h:X0 [] w W m)(hl:Xk W) :
  Cz T6 #[.agg (Qa W m).toArray,I t] w λe w'=>∃v,e=.returned v/\QM (Xz W (Pq W t) (Fv W t)) w v w':=by
 refine Bj _ _ _ _ _ _ _ _ _ _ t (R:=λv w'=>QM (Xz W (Pq W t) (Fv W t)) w v w') ?_;intro y hy y1 eR wr Rt Wg;refine I5 (Z8 (h.ext Rt) hl) ?_;rintro e wv (⟨hW,he,Wc⟩|⟨hW,m',he,hM,Wc⟩)
 ·exact⟨_,_,_,_,_,_,_,_,_,_,_,he,Qf Wc Wg,λ_ Ra Ru=>QM.bad hW ((Rt.trans Wc).fresh Ru λz hm=>.inl (Yz hy eR z hm)),λg=>by simp at g⟩
 have hK:=Wk.begin hy eR Rt Wg hM Wc;have hr:=hK.rd;have wp:=Qm.1 hW;refine⟨_,_,_,_,_,_,_,_,_,_,_,he,Qf Wc Wg,λg=>by split at g <;> simp at g,λ_=>⟨_,Je hr hl.t,λg Rg Ru=>?_,λg=>?_⟩⟩
 ·have g:ZI W t=false:=by simpa using g
  have hb:Pq W t=2:=by unfold Pq;rw[H' g]
  exact QM.no hW (by rw[hb];decide) (hK.step Ru) hb
 have g:ZI W t:=by simpa using g
 obtain⟨t0,t1,tn⟩:=YK g;have lB:=wp.a.t;have WJ:=hr.t.ix QF t0 t1;refine⟨WJ,_,hr.t.f t0 t1 (j:=0) rfl,λg2 RL Ru=>?_,λg2=>⟨λg3 RO Ru=>?_,λg3=>?_⟩⟩
 ·have g2:(Q8 W t).state≠2:=by simpa[Q8] using g2
  have hb:Pq W t=6:=by unfold Pq;rw[E' (by rw[g];decide),H' g2]
  exact QM.no hW (by rw[hb];decide) (hK.step Ru) hb
 ·have g2:¬(Q8 W t).state≠2:=by simpa[Q8] using g2
  have bH:¬QO W:=λhr=>by rw[H' hr] at g3;simp at g3
  have hb:Pq W t=10:=by unfold Pq;rw[E' (by rw[g];decide),E' g2,H' (by simpa using bH)]
  rw[E' bH];exact QM.no hW (by rw[hb];decide) (hK.step Ru) hb
 have g2:¬(Q8 W t).state≠2:=by simpa[Q8] using g2
 have bH:QO W:=Is λhr=>by rw[E' hr] at g3;simp at g3
 have hb:Pq W t=0:=by unfold Pq;rw[E' (by rw[g];decide),E' g2,E' (by rw[bH];decide)]
 have BW4:(Q8 W t).state=2:=by simpa using g2
 obtain⟨_,_,_,sf,_,_⟩:=zls hW hb;obtain⟨hu,c0,c1⟩:=sf.w.t t t0 Qo tn;refine⟨WJ,_,hr.t.f t0 t1 (j:=2) rfl,_,O9 hr lB,λg4=>?_,λg4=>?_⟩
 ·have g4:zhg W (Q8 W t).R8>0:=Ot g4;have hC:Pa W t=Pc W (Qv W (Q8 W t).II (Q8 W t).mask):=H' g4;obtain⟨d0,d1,_⟩:=Lj wp.a (Q8 W t).II (Q8 W t).mask;refine⟨WJ,_,hr.t.f t0 t1 (j:=1) rfl,WJ,_,hr.t.f t0 t1 (j:=4) rfl,_,XL hr wp.a.c2 wp.a.tree hu,_,MR hr wp.a (zpg wp),WJ,_,hr.t.f t0 t1 (j:=1) rfl,λS5 Wb kM=>?_⟩;have pX:=hK.step Wb;have RD:=Ui pX.own sf (I4 _) (by simp only[Qp];decide) (t:=t) (g:=(Q8 W t).II) (c:=Pc W (Qv W (Q8 W t).II (Q8 W t).mask)) t0 Qo tn hu d0 d1;refine I5 RD ?_;rintro e1 RF ⟨mJ,rN⟩;rw[zlc BW4 (Pc W (Qv W (Q8 W t).II (Q8 W t).mask))] at rN;have dE:=pX.W9 rN kM
  have SZ:Wk 8 [y,y1] w (RN RF m'.tO (Int.toNat t*9+0) [I 1]) (I' W t (VH W t (Pc W (Qv W (Q8 W t).II (Q8 W t).mask)))) m':=by
   have:Wk 8 [y,y1] w (RN RF m'.tO (Int.toNat t*9+0) [I 1]) (I' (I' W t (PH W t (Q8 W t).II (Pc W (Qv W (Q8 W t).II (Q8 W t).mask)))) t (VH W t (Pc W (Qv W (Q8 W t).II (Q8 W t).mask)))) m':=dE.RN (dE.own.AC1 t0 (by rw[V2];exact t1) (j:=0) (vs:=[I 1]) (x:=VH W t (Pc W (Qv W (Q8 W t).II (Q8 W t).mask))) (by rw[show gi (I' W t (PH W t (Q8 W t).II (Pc W (Qv W (Q8 W t).II (Q8 W t).mask)))).IK t=_ from F8 t0 t1];rfl) Qs) LK
   rwa[set_set] at this
  have B75:Ix m'.tO W.IK.length t:=by
   have:=dE.rd.t.ix QF t0 (by rw[V2];exact t1)
   rwa[V2] at this
  refine⟨_,_,_,_,_,_,_,_,_,_,mJ,pX.kept rN kM,B75,zfy dE.own dE.nb t0 (by rw[V2];exact t1) (j:=0) Qd,λSw eM hs6=>?_⟩;have e5:Qa (I' W t (VH W t (Pc W (Qv W (Q8 W t).II (Q8 W t).mask)))) m'=Qa W m':=HK _ _ _ _;have hE:Fv W t=Qh (RG (I' W t (VH W t (Pc W (Qv W (Q8 W t).II (Q8 W t).mask)))) (Pc W (Qv W (Q8 W t).II (Q8 W t).mask))):=by unfold Fv;rw[hC]
  have sfV:=zft sf t0 t1 tn d0 d1;rw[hE];have hlV:(I' W t (VH W t (Pc W (Qv W (Q8 W t).II (Q8 W t).mask)))).IF.length=W.IF.length:=rfl;generalize I' W t (VH W t (Pc W (Qv W (Q8 W t).II (Q8 W t).mask)))=V at SZ e5 sfV hlV;have rK:=SZ.step eM;have aP:=Zr rK.own d0 (by rw[hlV];exact d1);rw[e5] at aP;refine I5 aP ?_;rintro e2 RH ⟨bS,pS⟩;refine⟨_,_,_,_,_,_,_,_,_,_,bS,rK.kept pS hs6,λSC mE hs7=>?_⟩;have hK7:=(rK.W9 pS hs6).step mE;have rR:=Qu hK7.own (sfV.RG d0 (by rw[hlV];exact d1)).w (by simp only[Qp];decide) (by simp only[Qp];decide) hK7.base;refine I5 rR ?_;rintro e3 Sx ⟨m2,jM,hy5⟩;exact⟨_,_,_,_,_,_,_,_,_,_,jM,hK7.kept hy5 hs7,λU' rD=>QM.ok hW hb ((hK7.W9 hy5 hs7).step rD)⟩
 ·have g4:¬zhg W (Q8 W t).R8>0:=Ou g4;have hC:Pa W t=(Q8 W t).R8:=E' g4;have d0:=c0;have d1:=c1;refine⟨WJ,_,hr.t.f t0 t1 (j:=1) rfl,λS5 Wb kM=>?_⟩;have pX:=hK.step Wb;have RD:=Ui pX.own sf (I4 _) (by simp only[Qp];decide) (t:=t) (g:=(Q8 W t).II) (c:=(Q8 W t).R8) t0 Qo tn hu d0 d1;refine I5 RD ?_;rintro e1 RF ⟨mJ,rN⟩;rw[zlc BW4 ((Q8 W t).R8)] at rN;have dE:=pX.W9 rN kM
  have SZ:Wk 8 [y,y1] w (RN RF m'.tO (Int.toNat t*9+0) [I 1]) (I' W t (VH W t ((Q8 W t).R8))) m':=by
   have:Wk 8 [y,y1] w (RN RF m'.tO (Int.toNat t*9+0) [I 1]) (I' (I' W t (PH W t (Q8 W t).II ((Q8 W t).R8))) t (VH W t ((Q8 W t).R8))) m':=dE.RN (dE.own.AC1 t0 (by rw[V2];exact t1) (j:=0) (vs:=[I 1]) (x:=VH W t ((Q8 W t).R8)) (by rw[show gi (I' W t (PH W t (Q8 W t).II ((Q8 W t).R8))).IK t=_ from F8 t0 t1];rfl) Qs) LK
   rwa[set_set] at this
  have B75:Ix m'.tO W.IK.length t:=by
   have:=dE.rd.t.ix QF t0 (by rw[V2];exact t1)
   rwa[V2] at this
  refine⟨_,_,_,_,_,_,_,_,_,_,mJ,pX.kept rN kM,B75,zfy dE.own dE.nb t0 (by rw[V2];exact t1) (j:=0) Qd,λSw eM hs6=>?_⟩;have e5:Qa (I' W t (VH W t ((Q8 W t).R8))) m'=Qa W m':=HK _ _ _ _;have hE:Fv W t=Qh (RG (I' W t (VH W t ((Q8 W t).R8))) ((Q8 W t).R8)):=by unfold Fv;rw[hC]
  have sfV:=zft sf t0 t1 tn d0 d1;rw[hE];have hlV:(I' W t (VH W t ((Q8 W t).R8))).IF.length=W.IF.length:=rfl;generalize I' W t (VH W t ((Q8 W t).R8))=V at SZ e5 sfV hlV;have rK:=SZ.step eM;have aP:=Zr rK.own d0 (by rw[hlV];exact d1);rw[e5] at aP;refine I5 aP ?_;rintro e2 RH ⟨bS,pS⟩;refine⟨_,_,_,_,_,_,_,_,_,_,bS,rK.kept pS hs6,λSC mE hs7=>?_⟩;have hK7:=(rK.W9 pS hs6).step mE;have rR:=Qu hK7.own (sfV.RG d0 (by rw[hlV];exact d1)).w (by simp only[Qp];decide) (by simp only[Qp];decide) hK7.base;refine I5 rR ?_;rintro e3 Sx ⟨m2,jM,hy5⟩;exact⟨_,_,_,_,_,_,_,_,_,_,jM,hK7.kept hy5 hs7,λU' rD=>QM.ok hW hb ((hK7.W9 hy5 hs7).step rD)⟩
end
def zdj{a b w:Int}(ha:0<=a)(hb:0<=b)(h:a+b<=100000000)(w1:1<=w)(w2:w<=20):Z6 (a+b) w=Z6 a w+Z6 b w:=by
 rw[TR Qo h w1 w2,TR ha Qo w1 w2,TR hb Qo w1 w2,Int.add_mul]
def zmm{l w:Int}(h0:0<=l)(h1:l<=Zs w):Xc l w=l:=by
 unfold Xc;rw[E' (show ¬Zs w<l by omega)]
 split <;> omega
def PK{p q:Nat->Bool}:∀{n:Nat},(∀j,j<n->p j=q j)->VO p n=VO q n
 |0,_=>rfl
 |n+1,h=>by simp only[VO];rw[PK λj hj=>h j Qo,h n Qo]
def Pl{p q:Nat->Bool}{v u:Nat->Int}:∀{n:Nat},(∀j,j<n->p j=q j)->(∀j,j<n->p j->v j=u j)->QN p v n=QN q u n
 |0,_,_=>rfl
 |n+1,h,hv=>by
  have ih:=Pl (p:=p) (q:=q) (v:=v) (u:=u) (n:=n) (λj hj=>h j Qo) λj hj=>hv j Qo
  simp only[QN];rw[ih,<-h n Qo]
  cases hp:p n with
  |false=>simp
  |true=>
   rw[hv n Qo hp];rcases Z9 q u n with ⟨e,_⟩|⟨e0,e1,e2,_⟩
   ·rw[e];simp
   ·rw[hv _ Qo (by rw[h _ Qo];exact e2)]
def Yy{gs:List ZL}(ht:ZZ gs):∀g:Int,Q6 gs g->∀x∈QV gs g,Q6 gs x/\x≠0:=
 TP ht (λx hx=>by rw[show QV gs 0=[] from Zf _ _] at hx;cases hx) λh hu hz ih x hx=>by
  rw[Yb ht hu hz] at hx;rcases Ik.1 hx with e|e
  ·subst e;exact⟨hu,hz⟩
  ·exact ih x e
def UX(W:Q7)(k c:Int):Prop:=(Qb W (gi W.IE k).IG c).IL<=(Qb W k c).v/\(Qb W k c).v-(Qb W (gi W.IE k).IG c).IL<=Zs (Qb W k c).w
structure H9 (W:Q7) (x:Pv):Prop where
 st:x.state=1\/x.state=2
 g:Q6 W.IE x.II=true
 n:Qe x.nice≠0
 m:Om x.mask=true
 m0:x.mask≠0
 s:ZD x.sum=true
 u:ZD x.IW=true
 l1:0<=x.load
 l2:x.load<=8000000
 f:x.state=1->(Qb W x.II x.R8).IL<=x.v/\x.v-(Qb W x.II x.R8).IL<=Zs (Qe x.nice)
structure zid (W:Q7) (k c:Int):Prop where
 s:ZD (Qb W k c).sum=true
 root:k=0->(Qb W k c).on=false/\(Qb W k c).v=0/\(Qb W k c).w=10
 st:k≠0->(Qb W k c).on->UX W k c
structure zt4 (W:Q7) (c:Int):Prop where
 b:ZD (gi W.IF c).busy=true
 i:ZD (gi W.IF c).idle=true
 c1 : -1<=(gi W.IF c).cur
 c2:(gi W.IF c).cur<12
 no:(gi W.IF c).cur<0->(gi W.IF c).WC=0
 yes:0<=(gi W.IF c).cur->(gi W.IF c).up/\1<=(gi W.IF c).WC/\(gi W.IF c).WC<=149
 q:0<=(gi W.IF c).cur->(Q8 W (gi W.IF c).cur).state=1->(Q8 W (gi W.IF c).cur).R8=c->
  (Q8 W (gi W.IF c).cur).v-(Qb W (Q8 W (gi W.IF c).cur).II c).IL<=Z6 (gi W.IF c).WC (Qe (Q8 W (gi W.IF c).cur).nice)/\
  ∀x∈QV W.IE (Q8 W (gi W.IF c).cur).II,UX W x c/\(Qb W x c).v-(Qb W (gi W.IE x).IG c).IL<=Z6 (gi W.IF c).WC (Qb W x c).w
structure PreA (W:Q7):Prop where
 a:WA W
 t:∀t:Int,0<=t->t<12->(Q8 W t).state=0/\Q8 W t=VI\/(Q8 W t).state≠0/\H9 W (Q8 W t)
 l:∀t:Int,0<=t->t<12->(Q8 W t).state≠0->0<=(Q8 W t).R8/\(Q8 W t).R8<(W.IF.length:Int)
 s:∀k c:Int,Q6 W.IE k->0<=c->c<(W.IF.length:Int)->zid W k c
structure VJ (W:Q7):Prop extends PreA W where
 c:∀c:Int,0<=c->c<(W.IF.length:Int)->zt4 W c
def Nx(W:Q7):Prop:=∀t:Int,0<=t->t<12->(Q8 W t).state≠0->Zb (Qv W (Q8 W t).II (Q8 W t).mask) (Q8 W t).R8=true
def zwk(W:Q7):Prop:=∀k c:Int,Q6 W.IE k->0<=c->c<(W.IF.length:Int)->ZO W k c 20->Zc W k c 20<=(Qb W k c).IL
def Dl{v f k:Int}(hv:ZD v)(hf:ZD f):PI v f k=true↔f<=v/\v-f<=Zs k:=by
 have h1:=Y2.1 hv;have h2:=Y2.1 hf;have hw:IntKind.i64.wrap (v-f)=v-f:=Qq.wrap (k:=.i64) ⟨by show _<=v-f;omega,by show v-f<=_;omega⟩;unfold PI;rw[hw];simp
def Ue{W:Q7}(wp:Xw W):Nx W:=λt t0 t1 n=>by
 rcases wp.t t t0 t1 with h|h
 ·exact It h.1 n
 ·exact h.2.c
def GX{W:Q7}(wp:Xw W){k c:Int}(hu:Q6 W.IE k)(c0:0<=c)(c1:c<(W.IF.length:Int)):Pu W k c:=by
 obtain⟨u0,u1,_⟩:=wp.a.u hu;have hl:=wp.a.sl hu;exact wp.s k c u0 u1 c0 Qo
def Xe{W:Q7}(wp:Xw W):VJ W:=by
 have lA:∀k c:Int,Q6 W.IE k->k≠0->0<=c->c<(W.IF.length:Int)->(Qb W k c).on->UX W k c:=λk c hu hz c0 c1 ho=>by
  have h1:=GX wp hu c0 c1;have h2:=GX wp (wp.a.up hu hz) c0 c1;exact(Dl h1.v h2.f).1 (h1.st hz ho)
 refine⟨⟨wp.a,λt t0 t1=>?_,λt t0 t1 n=>?_,λk c hu c0 c1=>?_⟩,λc c0 c1=>?_⟩
 ·rcases wp.t t t0 t1 with h|⟨n,h⟩
  ·exact .inl h
  ·refine .inr ⟨n,h.st,h.g,h.n,h.m,h.m0,h.s,h.u,h.l1,h.l2,λh1=>?_⟩;obtain⟨d0,d1⟩:=Km wp.a h.c;exact(Dl h.v (GX wp h.g d0 d1).f).1 (h.f h1)
 ·rcases wp.t t t0 t1 with h|⟨_,h⟩
  ·exact It h.1 n
  ·exact Km wp.a h.c
 ·have h:=GX wp hu c0 c1;exact⟨h.s,h.root,λhz ho=>lA k c hu hz c0 c1 ho⟩
 ·have h:=wp.c c c0 c1;have hl:=wp.a.t;refine⟨h.b,h.i,h.c1,by have:=h.c2;omega,h.no,λh0=>⟨(h.yes h0).1,(h.yes h0).2.1,(h.yes h0).2.2.1⟩,λh0 h1 h2=>?_⟩;obtain⟨_,_,_,_,mT,BP0⟩:=h.yes h0;unfold P7 at BP0;rw[A',Il] at BP0;refine⟨BP0.1,λx hx=>?_⟩
  have hu:Q6 W.IE (Q8 W (gi W.IF c).cur).II:=by
   rcases wp.t _ h0 (by have:=h.c2;omega) with hz|⟨_,hz⟩
   ·rw[hz.1] at h1;cases h1
   ·exact hz.g
  obtain⟨xu,xz⟩:=Yy wp.a.tree _ hu x hx;unfold Zi JM at mT;rw[A',h2,List.all_eq_true] at mT;have hs:=BP0.2;unfold VS at hs;rw[List.all_eq_true] at hs;exact⟨lA x c xu xz c0 c1 (mT.2 x hx),Ot (hs x hx)⟩
structure DB (c:Int) (W W':Q7):Prop where
 n:W'.now=W.now
 t:W'.IK=W.IK
 g:QY W.IE W'.IE
 len:W'.IF.length=W.IF.length
 b:∀i:Int,0<=i->(gi W'.IE i).IY=(gi W.IE i).IY
 e:∀k d:Int,0<=k->0<=d->d≠c->Qb W' k d=Qb W k d
 cp:∀d:Int,0<=d->d≠c->gi W'.IF d=gi W.IF d
def DB.refl(c:Int)(W:Q7):DB c W W:=⟨rfl,rfl,QY.refl _,rfl,λ_ _=>rfl,λ_ _ _ _ _=>rfl,λ_ _ _=>rfl⟩
def DB.trans{c:Int}{A B C:Q7}(h:DB c A B)(k:DB c B C):DB c A C:=⟨k.n.trans h.n,k.t.trans h.t,h.g.trans k.g,k.len.trans h.len,λi hi=>(k.b i hi).trans (h.b i hi),λi d hi hd hn=>(k.e i d hi hd hn).trans (h.e i d hi hd hn),λd hd hn=>(k.cp d hd hn).trans (h.cp d hd hn)⟩
def EI{W:Q7}{g c:Int}{s:MK}(h0:0<=g)(h1:g<(W.IE.length:Int))(c0:0<=c)(c1:c<((gi W.IE g).IH.length:Int)):DB c W (RR W g c s):=
 ⟨rfl,rfl,Xu h0 h1,rfl,λi hi=>zb5 h0 h1 hi,λk d hk hd hn=>by
  rw[Jg h0 h1 c0 c1 hk hd,E' λh=>hn h.2.symm],λ_ _ _=>rfl⟩
def zg6{W:Q7}{c:Int}(c0:0<=c)(c1:c<(W.IF.length:Int)):DB c W (RG W c):=
 ⟨rfl,rfl,QY.refl _,I0,λ_ _=>rfl,λ_ _ _ _ _=>rfl,λd d0 hn=>by
  show gi (W.IF.set c.toNat (XB (gi W.IF c))) d=_;rw[QD _ _ c0 c1 d0,E' λh=>hn h.symm]⟩
section
variable {c d:Int}{W W':Q7}
def TC(ht:W'.IK=W.IK)(hT:QY W.IE W'.IE){g:Int}(h:∀j:Nat,j<W.IE.length->1<=j->(gi W.IE (j:Int)).IW->(gi W.IE (j:Int)).IG=g->(Qb W' (j:Int) d).on=(Qb W (j:Int) d).on):QA W' g d=QA W g d:=by
 unfold QA;rw[ht,hT.len]
 congr 1
 ·refine PK λj _=>?_
  unfold VT;rw[ht]
 ·refine PK λj hj=>?_
  unfold Xy;rw[hT.u,hT.p]
  by_cases h1:1<=j
  ·cases hu:(gi W.IE (j:Int)).IW with
   |false=>simp
   |true=>
    by_cases hp:(gi W.IE (j:Int)).IG=g
    ·rw[h j hj h1 hu hp]
    ·rw[show ((gi W.IE (j:Int)).IG==g)=false from beq_false_of_ne hp];simp
  ·simp[h1]
def zmt(ht:W'.IK=W.IK)(hT:QY W.IE W'.IE)(hl:W.IE.length=8)(h:∀k:Int,0<=k->(Qb W' k d).on=(Qb W k d).on)(g:Int){j:Nat}(hj:j<20):QX W' g d j=QX W g d j:=by
 unfold QX;split
 ·unfold VT;rw[ht]
 ·unfold Xy;rw[hT.u,hT.p,h _ Qo]
def zcm(ht:W'.IK=W.IK)(h:∀k:Int,0<=k->(Qb W' k d).v=(Qb W k d).v)(j:Nat):QZ W' d j=QZ W d j:=by
 unfold QZ;split
 ·unfold Q8;rw[ht]
 ·rw[h _ Qo]
def DZ(ht:W'.IK=W.IK)(hT:QY W.IE W'.IE)(hl:W.IE.length=8)(h:∀k:Int,0<=k->(Qb W' k d).on=(Qb W k d).on)(hv:∀k:Int,0<=k->(Qb W' k d).v=(Qb W k d).v)(g:Int):ZO W' g d 20=ZO W g d 20/\Zc W' g d 20=Zc W g d 20:=by
 have e:QN (QX W' g d) (QZ W' d) 20=QN (QX W g d) (QZ W d) 20:=Pl (λj hj=>zmt ht hT hl h g hj) λj _ _=>zcm ht hv j
 unfold ZO Zc;rw[e];refine⟨rfl,?_⟩;split
 ·rfl
 ·exact zcm ht hv _
def XR(ht:W'.IK=W.IK)(t:Int):Q8 W' t=Q8 W t:=by unfold Q8;rw[ht]
def VE(hT:QY W.IE W'.IE)(g:Int):QV W'.IE g=QV W.IE g:=hT.path 3 g
def zec{g:Int}(hb:(gi W'.IE g).IY=(gi W.IE g).IY):V6 W' g d=V6 W g d:=by unfold V6;rw[hb]
end
def zkb{W:Q7}{g c:Int}{j:Nat}(hj:j<20)(h:QX W g c j):ZO W g c 20/\Zc W g c 20<=QZ W c j:=by
 unfold ZO Zc;rcases Z9 (QX W g c) (QZ W c) 20 with ⟨_,h2⟩|⟨h1,_,_,h4,_⟩
 ·rw[h2 j hj] at h;cases h
 ·rw[E' Qo];exact⟨Ij h1,h4 j hj h⟩
def zly{W:Q7}(ha:WA W){t:Int}(t0:0<=t)(t1:t<12)(hs:(Q8 W t).state=1):ZO W (Q8 W t).II (Q8 W t).R8 20/\Zc W (Q8 W t).II (Q8 W t).R8 20<=(Q8 W t).v:=by
 have e:((t.toNat:Nat):Int)=t:=Qo
 have h:QX W (Q8 W t).II (Q8 W t).R8 t.toNat:=by
  rw[XN Qo];unfold VT;rw[e];show (((Q8 W t).state==1)&&((Q8 W t).II==_)&&((Q8 W t).R8==_))=true;rw[hs];simp
 have:=zkb Qo h
 rwa[Mx Qo,e] at this
def zif{W:Q7}(ha:WA W){k c:Int}(hu:Q6 W.IE k)(hz:k≠0)(ho:(Qb W k c).on):ZO W (gi W.IE k).IG c 20/\Zc W (gi W.IE k).IG c 20<=(Qb W k c).v:=by
 obtain⟨k0,k1,ku⟩:=Q5.1 hu;have hl:=ha.gl;have e:((k.toNat:Nat):Int)=k:=Qo
 have h:QX W (gi W.IE k).IG c (12+k.toNat):=by
  rw[YZ];unfold Xy;rw[e,ku,ho];simp;omega
 have:=zkb Qo h
 rwa[Mw,e] at this
structure LC (c:Int) (W W':Q7):Prop where
 o:DB c W W'
 cs:W'.IF=W.IF
 f:∀k d:Int,0<=k->0<=d->(Qb W' k d).IL=(Qb W k d).IL
 w:∀k d:Int,0<=k->0<=d->(Qb W' k d).w=(Qb W k d).w
 s:∀k d:Int,0<=k->0<=d->(Qb W' k d).sum=(Qb W k d).sum
 r:∀d:Int,0<=d->Qb W' 0 d=Qb W 0 d
 v:∀k d:Int,Q6 W.IE k->k≠0->0<=d->UX W k d->(Qb W' k d).v=(Qb W k d).v
def LC.refl(c:Int)(W:Q7):LC c W W:=⟨DB.refl _ _,rfl,λ_ _ _ _=>rfl,λ_ _ _ _=>rfl,λ_ _ _ _=>rfl,λ_ _=>rfl,λ_ _ _ _ _ _=>rfl⟩
def LC.st{c:Int}{W W':Q7}(ht:ZZ W.IE)(h:LC c W W'){k d:Int}(hu:Q6 W.IE k)(hz:k≠0)(d0:0<=d)(hs:UX W k d):UX W' k d:=by
 have hp:=(Q5.1 (ZR ht hu hz).1).1;have k0:=(Q5.1 hu).1;unfold UX;rw[h.o.g.p,h.f _ d hp d0,h.v k d hu hz d0 hs,h.w k d k0 d0];exact hs
def LC.trans{c:Int}{A B C:Q7}(ht:ZZ A.IE)(h:LC c A B)(k:LC c B C):LC c A C:=
 ⟨h.o.trans k.o,k.cs.trans h.cs,λi d a b=>(k.f i d a b).trans (h.f i d a b),λi d a b=>(k.w i d a b).trans (h.w i d a b),λi d a b=>(k.s i d a b).trans (h.s i d a b),λd a=>(k.r d a).trans (h.r d a),λi d hu hz d0 hs=>by
  rw[k.v i d (by rw[h.o.g.dW];exact hu) hz d0 (h.st ht hu hz d0 hs),h.v i d hu hz d0 hs]⟩
def VJ.lc{c:Int}{W W':Q7}(p:VJ W)(h:LC c W W')(ha:WA W')(hon:∀k d:Int,Q6 W.IE k->k≠0->0<=d->d<(W.IF.length:Int)->(Qb W' k d).on->UX W' k d):VJ W':=by
 have et:∀t,Q8 W' t=Q8 W t:=XR h.o.t;refine⟨⟨ha,λt t0 t1=>?_,λt t0 t1 n=>?_,λk d hu d0 d1=>?_⟩,λd d0 d1=>?_⟩
 ·rw[et];rcases p.t t t0 t1 with hz|⟨n,hx⟩
  ·exact .inl hz
  ·refine .inr ⟨n,hx.st,by rw[h.o.g.dW];exact hx.g,hx.n,hx.m,hx.m0,hx.s,hx.u,hx.l1,hx.l2,λh1=>?_⟩;rw[h.f _ _ (Q5.1 hx.g).1 (p.l t t0 t1 n).1];exact hx.f h1
 ·rw[et] at n ⊢;rw[h.o.len];exact p.l t t0 t1 n
 ·rw[h.o.g.dW] at hu;rw[h.cs] at d1;have hs:=p.s k d hu d0 d1;have k0:=(Q5.1 hu).1;refine⟨by rw[h.s k d k0 d0];exact hs.s,λhz=>?_,λhz ho=>hon k d hu hz d0 d1 ho⟩;subst hz;rw[h.r d d0];exact hs.root rfl
 ·rw[h.cs] at d1;have hc:=p.c d d0 d1;refine⟨by rw[h.cs];exact hc.b,by rw[h.cs];exact hc.i,by rw[h.cs];exact hc.c1,by rw[h.cs];exact hc.c2,by rw[h.cs];exact hc.no,by rw[h.cs];exact hc.yes,?_⟩;rw[h.cs];simp only[et];intro h0 h1 h2;obtain⟨q1,q2⟩:=hc.q h0 h1 h2
  have hu:Q6 W.IE (Q8 W (gi W.IF d).cur).II:=by
   rcases p.t _ h0 hc.c2 with hz|⟨_,hx⟩
   ·rw[hz.1] at h1;cases h1
   ·exact hx.g
  refine⟨by rw[h.f _ d (Q5.1 hu).1 d0];exact q1,λx hx=>?_⟩;rw[VE h.o.g] at hx;obtain⟨xu,xz⟩:=Yy p.a.tree _ hu x hx;obtain⟨s1,s2⟩:=q2 x hx;refine⟨h.st p.a.tree xu xz d0 s1,?_⟩;rw[h.o.g.p,h.v x d xu xz d0 s1,h.f _ d (Q5.1 (p.a.up xu xz)).1 d0,h.w x d (Q5.1 xu).1 d0];exact s2
def Uk(W:Q7)(c k:Int):Prop:=(Qb W k c).on=(QA W k c && !V6 W k c)
def zpi{W:Q7}(p:VJ W){k c d:Int}(hu:Q6 W.IE k)(hd:dep 3 W.IE k=d)(d1:1<=d)(c0:0<=c)(c1:c<(W.IF.length:Int)) :
  LC c W (RR W k c (Yq W k c))/\VJ (RR W k c (Yq W k c))/\Uk (RR W k c (Yq W k c)) c k/\∀g:Int,Q6 W.IE g->g≠k->(gi W.IE k).IG≠g->Uk W c g->Uk (RR W k c (Yq W k c)) c g:=by
 have hz:k≠0:=λe=>by subst e;rw[Ye] at hd;omega
 obtain⟨u0,u1,_⟩:=Q5.1 hu;have hl:=p.a.gl;have hsl:=p.a.sl hu;have yP:c<((gi W.IE k).IH.length:Int):=Qo;have hpu:=p.a.up hu hz
 have hpk:(gi W.IE k).IG≠k:=λe=>by
  obtain⟨_,_,_,n,e1,e2,_⟩:=ZR p.a.tree hu hz;rw[e] at e2;omega
 have e:∀{i j:Int},0<=i->0<=j->Qb (RR W k c (Yq W k c)) i j=if k=i/\c=j then Yq W k c else Qb W i j:=λhi hj=>Jg u0 u1 c0 yP hi hj
 have ev:UX W k c->(Yq W k c).v=(Qb W k c).v:=λhs=>by
  simp only[Yq];split
  ·rw[zmm (by have:=hs.1;omega) hs.2];omega
  ·rfl
 have eq0:∀{i j:Int},k=i/\c=j->(Yq W k c).IL=(Qb W i j).IL/\(Yq W k c).w=(Qb W i j).w/\(Yq W k c).sum=(Qb W i j).sum:=λh=>by
  obtain⟨rfl,rfl⟩:=h;exact⟨rfl,rfl,rfl⟩
 have hT:=Xu (W:=W) (g:=k) (c:=c) (s:=Yq W k c) u0 u1
 have lc:LC c W (RR W k c (Yq W k c)):=by
  refine⟨EI u0 u1 c0 yP,rfl,λi j hi hj=>?_,λi j hi hj=>?_,λi j hi hj=>?_,λj hj=>?_,λi j iu iz hj hs=>?_⟩
  ·rw[e hi hj];split
   ·rename_i h;exact(eq0 h).1
   ·rfl
  ·rw[e hi hj];split
   ·rename_i h;exact(eq0 h).2.1
   ·rfl
  ·rw[e hi hj];split
   ·rename_i h;exact(eq0 h).2.2
   ·rfl
  ·rw[e (I4 0) hj,E' λh=>hz h.1]
  ·rw[e (Q5.1 iu).1 hj];split
   ·rename_i h;obtain⟨rfl,rfl⟩:=h;exact ev hs
   ·rfl
 have act:∀g:Int,(gi W.IE k).IG≠g->QA (RR W k c (Yq W k c)) g c=QA W g c:=λg hg=>by
  refine TC (W:=W) (W':=RR W k c (Yq W k c)) rfl hT λj hj _ _ hp=>?_
  rw[e Qo c0,E'];rintro⟨h,_⟩;exact hg (by rw[h];exact hp)
 have hoe:Uk (RR W k c (Yq W k c)) c k:=by
  unfold Uk;rw[e u0 c0,H' ⟨rfl,rfl⟩,act k hpk,L9 u0 u1 u0];rfl
 refine⟨lc,p.lc lc (p.a.RR u0 Qo) λi j iu iz j0 j1 ho=>?_,hoe,λg gu gk hg h=>?_⟩
 ·by_cases h:k=i/\c=j
  ·obtain⟨rfl,rfl⟩:=h
   by_cases hs:UX W k c
   ·exact lc.st p.a.tree hu hz c0 hs
   ·have Ck5:(Qb W k c).on=false:=by
     cases hb:(Qb W k c).on with
     |false=>rfl
     |true=>exact It ((p.s k c hu c0 c1).st hz hb) hs
    rw[e u0 c0,H' ⟨rfl,rfl⟩] at ho;have ho:(QA W k c && !V6 W k c):=ho;unfold UX;rw[hT.p,e u0 c0,H' ⟨rfl,rfl⟩,lc.f _ c (Q5.1 hpu).1 c0];simp only[Yq];rw[H' ⟨ho,Ck5⟩];have:=ZX ((Qb W k c).v-(Qb W (gi W.IE k).IG c).IL) (Qb W k c).w;omega
  ·rw[e (Q5.1 iu).1 j0,E' h] at ho;exact lc.st p.a.tree iu iz j0 ((p.s i j iu j0 j1).st iz ho)
 ·unfold Uk;have g0:=(Q5.1 gu).1;rw[e g0 c0,E' λh=>gk h.1.symm,act g hg,L9 u0 u1 g0];exact h
def zg0{W:Q7}(p:VJ W){c d:Int}(d1:1<=d)(c0:0<=c)(c1:c<(W.IF.length:Int))(hI:∀g:Int,Q6 W.IE g->d<dep 3 W.IE g->Uk W c g):∀k:Nat,k<=8->
  LC c W (ZW W c d k)/\VJ (ZW W c d k)/\∀g:Int,Q6 W.IE g->d<dep 3 W.IE g\/dep 3 W.IE g=d/\g<(k:Int)->Uk (ZW W c d k) c g
 |0,_=>⟨LC.refl _ _,p,λg gu h=>hI g gu (by
   rcases h with h|h
   ·exact h
   ·have:=(Q5.1 gu).1;have:=h.2;omega)⟩
 |k+1,hk=>by
  obtain⟨a,b,ih⟩:=zg0 p d1 c0 c1 hI k Qo;have hl:=b.a.gl;have hT:=a.o.g;simp only[ZW];split
  ·rename_i hc;have hu:Q6 (ZW W c d k).IE (k:Int):=Q5.2 ⟨Qo,Qo,hc.1⟩;obtain⟨l1,l2,l3,l4⟩:=zpi b hu hc.2 d1 c0 (c:=c) (by rw[a.cs];exact c1);refine⟨a.trans p.a.tree l1,l2,λg gu h=>?_⟩
   by_cases e:g=(k:Int)
   ·subst e;exact l3
   ·have hkz:(k:Int)≠0:=λe=>by have:=hc.2;rw[e,Ye] at this;omega
    obtain⟨_,_,_,n,e1,e2,_⟩:=ZR b.a.tree hu hkz;refine l4 g (by rw[hT.dW];exact gu) e (λhp=>?_) (ih g gu ?_)
    ·rw[hp,hT.dep] at e2;have:=hc.2;omega
    ·rcases h with h|h
     ·exact .inl h
     ·exact .inr ⟨h.1,by have:=h.2;omega⟩
  ·rename_i hc;refine⟨a,b,λg gu h=>ih g gu ?_⟩;rcases h with h|h
   ·exact .inl h
   ·refine .inr ⟨h.1,?_⟩
    by_cases e:g=(k:Int)
    ·subst e;exact It ⟨by rw[hT.u];exact(Q5.1 gu).2.2,by rw[hT.dep];exact h.1⟩ hc
    ·have:=h.2;omega
def zck{W:Q7}(p:VJ W){c:Int}(c0:0<=c)(c1:c<(W.IF.length:Int)):LC c W (QQ W c)/\VJ (QQ W c)/\∀g:Int,Q6 W.IE g->g≠0->Uk (QQ W c) c g:=by
 have key:∀j:Nat,j<=3->LC c W (XM W c j)/\VJ (XM W c j)/\∀g:Int,Q6 W.IE g->3-(j:Int)<dep 3 W.IE g->Uk (XM W c j) c g:=by
  intro j
  induction j with
  |zero=>exact λ_=>⟨LC.refl _ _,p,λg gu h=>by have:=(OD p.a gu).2;omega⟩
  |succ j ih=>
   intro hj;obtain⟨a,b,h⟩:=ih Qo;have hT:=a.o.g;obtain⟨a2,b2,h2⟩:=zg0 b (c:=c) (d:=3-(j:Int)) Qo c0 (by rw[a.cs];exact c1) (λg gu hd=>h g (by rwa[hT.dW] at gu) (by rwa[hT.dep] at hd)) 8 (I9 _);refine⟨a.trans p.a.tree a2,b2,λg gu hd=>h2 g (by rw[hT.dW];exact gu) ?_⟩;rw[hT.dep];have:=(Q5.1 gu).2.1;have:=p.a.gl
   by_cases e:dep 3 W.IE g=3-(j:Int)
   ·exact .inr ⟨e,Qo⟩
   ·exact .inl Qo
 obtain⟨a,b,h⟩:=key 3 (I9 _);refine⟨a,b,λg gu gz=>h g gu ?_⟩;obtain⟨_,_,_,n,e1,_⟩:=ZR p.a.tree gu gz;omega
def AO{W:Q7}(p:VJ W):∀c:Nat,c<=W.IF.length->VJ (YV W c)/\(YV W c).IF=W.IF
 |0,_=>⟨p,rfl⟩
 |c+1,hc=>by
  obtain⟨a,e⟩:=AO p c Qo;obtain⟨l,b,_⟩:=zck a (c:=(c:Int)) Qo (by rw[e];omega);exact⟨b,l.cs.trans e⟩
def VJ.A83{W W':Q7}(p:VJ W)(ho:Vb W W')(ha:WA W'):VJ W':=by
 have et:∀t,Q8 W' t=Q8 W t:=XR ho.t;have es:∀k d:Int,0<=k->Qb W' k d=Qb W k d:=λk d hk=>by unfold Qb;rw[ho.s k hk]
 have est:∀k d:Int,Q6 W.IE k->k≠0->(UX W' k d↔UX W k d):=λk d hu hz=>by
  unfold UX;rw[ho.g.p,es _ _ (Q5.1 (p.a.up hu hz)).1,es _ _ (Q5.1 hu).1]
 refine⟨⟨ha,λt t0 t1=>?_,λt t0 t1 n=>?_,λk d hu d0 d1=>?_⟩,λd d0 d1=>?_⟩
 ·rw[et];rcases p.t t t0 t1 with hz|⟨n,hx⟩
  ·exact .inl hz
  ·refine .inr ⟨n,hx.st,by rw[ho.g.dW];exact hx.g,hx.n,hx.m,hx.m0,hx.s,hx.u,hx.l1,hx.l2,λh1=>?_⟩;rw[es _ _ (Q5.1 hx.g).1];exact hx.f h1
 ·rw[et] at n ⊢;rw[ho.c];exact p.l t t0 t1 n
 ·rw[ho.g.dW] at hu;rw[ho.c] at d1;have hs:=p.s k d hu d0 d1;have k0:=(Q5.1 hu).1;exact⟨by rw[es k d k0];exact hs.s,by rw[es k d k0];exact hs.root,λhz h=>(est k d hu hz).2 (hs.st hz (by rwa[es k d k0] at h))⟩
 ·rw[ho.c] at d1;have hc:=p.c d d0 d1;refine⟨by rw[ho.c];exact hc.b,by rw[ho.c];exact hc.i,by rw[ho.c];exact hc.c1,by rw[ho.c];exact hc.c2,by rw[ho.c];exact hc.no,by rw[ho.c];exact hc.yes,?_⟩;rw[ho.c];simp only[et];intro h0 h1 h2;obtain⟨q1,q2⟩:=hc.q h0 h1 h2
  have hu:Q6 W.IE (Q8 W (gi W.IF d).cur).II:=by
   rcases p.t _ h0 hc.c2 with hz|⟨_,hx⟩
   ·rw[hz.1] at h1;cases h1
   ·exact hx.g
  refine⟨by rw[es _ d (Q5.1 hu).1];exact q1,λx hx=>?_⟩;rw[VE ho.g] at hx;obtain⟨xu,xz⟩:=Yy p.a.tree _ hu x hx;obtain⟨s1,s2⟩:=q2 x hx;refine⟨(est x d xu xz).2 s1,?_⟩;rw[ho.g.p,es x d (Q5.1 xu).1,es _ d (Q5.1 (p.a.up xu xz)).1];exact s2
structure FC (c:Int) (W W':Q7):Prop where
 o:DB c W W'
 cs:W'.IF=W.IF
 on:∀k d:Int,0<=k->0<=d->(Qb W' k d).on=(Qb W k d).on
 v:∀k d:Int,0<=k->0<=d->(Qb W' k d).v=(Qb W k d).v
 w:∀k d:Int,0<=k->0<=d->(Qb W' k d).w=(Qb W k d).w
 s:∀k d:Int,0<=k->0<=d->(Qb W' k d).sum=(Qb W k d).sum
 up:∀k d:Int,0<=k->0<=d->(Qb W k d).IL<=(Qb W' k d).IL
 fl:∀k:Int,0<=k->(Qb W' k c).IL=(Qb W k c).IL\/ZO W k c 20/\(Qb W' k c).IL=Zc W k c 20
def Ef{W:Q7}(ha:WA W){c:Int}(c0:0<=c)(c1:c<(W.IF.length:Int)):∀k:Nat,k<=8->FC c W (Z3 W c k)/\WA (Z3 W c k)/\∀g:Int,Q6 W.IE g->g<(k:Int)->ZO W g c 20->Zc W g c 20<=(Qb (Z3 W c k) g c).IL
 |0,_=>⟨⟨DB.refl _ _,rfl,λ_ _ _ _=>rfl,λ_ _ _ _=>rfl,λ_ _ _ _=>rfl,λ_ _ _ _=>rfl,λ_ _ _ _=>I4 _,λ_ _=>.inl rfl⟩,ha,λg gu h=>by have:=(Q5.1 gu).1;omega⟩
 |k+1,hk=>by
  obtain⟨f,hA,ih⟩:=Ef ha c0 c1 k Qo;have hl:=hA.gl;have hT:=f.o.g;have hb:=DZ f.o.t hT ha.gl (λi hi=>f.on i c hi c0) (λi hi=>f.v i c hi c0);simp only[Z3];split
  ·rename_i hc;have hu:Q6 (Z3 W c k).IE (k:Int):=Q5.2 ⟨Qo,Qo,hc.1⟩;have hsl:=hA.sl hu;have yP:c<((gi (Z3 W c k).IE (k:Int)).IH.length:Int):=by rw[hsl,f.cs];exact c1
   have e:∀{i j:Int},0<=i->0<=j->Qb (RR (Z3 W c k) (k:Int) c (Eg (Z3 W c k) (k:Int) c)) i j=if (k:Int)=i/\c=j then Eg (Z3 W c k) (k:Int) c else Qb (Z3 W c k) i j:=λhi hj=>Jg Qo Qo c0 yP hi hj
   refine⟨⟨f.o.trans (EI Qo Qo c0 yP),f.cs,λi j hi hj=>?_,λi j hi hj=>?_,λi j hi hj=>?_,λi j hi hj=>?_,λi j hi hj=>?_,λi hi=>?_⟩,hA.RR Qo Qo,λg gu hg hB=>?_⟩
   ·rw[e hi hj];split
    ·rename_i h;obtain⟨rfl,rfl⟩:=h;exact f.on _ _ hi hj
    ·exact f.on i j hi hj
   ·rw[e hi hj];split
    ·rename_i h;obtain⟨rfl,rfl⟩:=h;exact f.v _ _ hi hj
    ·exact f.v i j hi hj
   ·rw[e hi hj];split
    ·rename_i h;obtain⟨rfl,rfl⟩:=h;exact f.w _ _ hi hj
    ·exact f.w i j hi hj
   ·rw[e hi hj];split
    ·rename_i h;obtain⟨rfl,rfl⟩:=h;exact f.s _ _ hi hj
    ·exact f.s i j hi hj
   ·rw[e hi hj];split
    ·rename_i h;obtain⟨rfl,rfl⟩:=h;have h1:=f.up (k:Int) c hi hj;have h2:=hc.2.2;show _<=Zc (Z3 W c k) (k:Int) c 20;omega
    ·exact f.up i j hi hj
   ·rw[e hi c0];split
    ·rename_i h;obtain⟨rfl,_⟩:=h;refine .inr ⟨(hb _).1▸hc.2.1,?_⟩;show Zc (Z3 W c k) (k:Int) c 20=_;exact(hb _).2
    ·exact f.fl i hi
   ·have g0:=(Q5.1 gu).1;rw[e g0 c0];split
    ·rename_i h;obtain⟨rfl,_⟩:=h;show _<=Zc (Z3 W c k) (k:Int) c 20;rw[(hb _).2];exact I4 _
    ·rename_i h;exact ih g gu (by have:g≠(k:Int):=λe=>h ⟨e.symm,rfl⟩;omega) hB
  ·rename_i hc;refine⟨f,hA,λg gu hg hB=>?_⟩
   by_cases e:g=(k:Int)
   ·subst e;rw[hT.u,(hb _).1,(hb _).2] at hc
    by_cases h:Zc W (k:Int) c 20>(Qb (Z3 W c k) (k:Int) c).IL
    ·exact It ⟨(Q5.1 gu).2.2,hB,h⟩ hc
    ·omega
   ·exact ih g gu Qo hB
def DB.bF{c d:Int}{W W':Q7}(h:DB c W W')(d0:0<=d)(hd:d≠c)(g:Int):QA W' g d=QA W g d:=
 TC h.t h.g λj _ _ _ _=>by rw[h.e _ d Qo d0 hd]
def DB.line{c:Int}{W W':Q7}(h:DB c W W')(ht:ZZ W.IE){t:Int}(hu:Q6 W.IE (Q8 W t).II)(d0:0<=(Q8 W t).R8)(hd:(Q8 W t).R8≠c):Zi W' t=Zi W t:=by
 unfold Zi JM;rw[XR h.t,VE h.g]
 congr 1
 rw[Bool.eq_iff_iff,List.all_eq_true,List.all_eq_true];refine forall_congr' λx=>forall_congr' λhx=>?_
 rw[h.e x _ (Q5.1 (Yy ht _ hu x hx).1).1 d0 hd]
structure Dn (W:Q7) (c:Int):Prop where
 on:∀k:Int,Q6 W.IE k->k≠0->Uk W c k
 cu:0<=(gi W.IF c).cur->(Q8 W (gi W.IF c).cur).R8=c/\Zi W (gi W.IF c).cur=true
 fl:∀k:Int,Q6 W.IE k->ZO W k c 20->Zc W k c 20<=(Qb W k c).IL
def Dn.oth{c d:Int}{W W':Q7}(h:Dn W d)(p:VJ W)(o:DB c W W')(d0:0<=d)(d1:d<(W.IF.length:Int))(hd:d≠c):Dn W' d:=by
 refine⟨λk hu hz=>?_,λh0=>?_,λk hu hB=>?_⟩
 ·rw[o.g.dW] at hu;have k0:=(Q5.1 hu).1;have:=h.on k hu hz;unfold Uk at this ⊢;rw[o.e k d k0 d0 hd,o.bF d0 hd,zec (o.b k k0)];exact this
 ·rw[o.cp d d0 hd] at h0 ⊢;rw[XR o.t];obtain⟨h1,h2⟩:=h.cu h0;refine⟨h1,?_⟩
  have hs:(Q8 W (gi W.IF d).cur).state=1:=by
   unfold Zi at h2;rw[A'] at h2;exact IA h2.1
  have hu:Q6 W.IE (Q8 W (gi W.IF d).cur).II:=by
   rcases p.t _ h0 (p.c d d0 d1).c2 with hz|⟨_,hx⟩
   ·rw[hz.1] at hs;cases hs
   ·exact hx.g
  rw[o.line p.a.tree hu (by rw[h1];exact d0) (by rw[h1];exact hd)];exact h2
 ·rw[o.g.dW] at hu;have hb:=DZ (d:=d) o.t o.g p.a.gl (λi hi=>by rw[o.e i d hi d0 hd]) (λi hi=>by rw[o.e i d hi d0 hd]) k;rw[hb.1] at hB;rw[hb.2,o.e k d (Q5.1 hu).1 d0 hd];exact h.fl k hu hB
def H9.cp{W:Q7}{x:Pv}(h:H9 W x)(cs:List Pe):H9 { W with IF:=cs } x:=⟨h.st,h.g,h.n,h.m,h.m0,h.s,h.u,h.l1,h.l2,h.f⟩
def zid.cp{W:Q7}{k c:Int}(h:zid W k c)(cs:List Pe):zid { W with IF:=cs } k c:=⟨h.s,h.root,h.st⟩
def PreA.RG{W:Q7}(p:PreA W){c:Int}(c0:0<=c)(c1:c<(W.IF.length:Int)):PreA (RG W c):=by
 have hlen:(YtjinkcmkgnofjaaGreat.RG W c).IF.length=W.IF.length:=I0;refine⟨?_,λt t0 t1=>?_,λt t0 t1 n=>?_,λk d hu d0 d1=>?_⟩
 ·refine p.a.cp I0 ?_;rw[zfq I0 λj hj=>?_]
  ·exact p.a.ups
  ·rw[QD _ _ c0 c1 Qo];split
   ·rename_i e;rw[<-e];rfl
   ·rfl
 ·rcases p.t t t0 t1 with h|h
  ·exact .inl h
  ·exact .inr ⟨h.1,h.2.cp _⟩
 ·rw[hlen];exact p.l t t0 t1 n
 ·rw[hlen] at d1;exact(p.s k d hu d0 d1).cp _
def VJ.RG{W:Q7}(p:VJ W){c:Int}(c0:0<=c)(c1:c<(W.IF.length:Int)):VJ (RG W c):=by
 refine⟨p.toPreA.RG c0 c1,λd d0 d1=>?_⟩;have hlen:(YtjinkcmkgnofjaaGreat.RG W c).IF.length=W.IF.length:=I0;have kT:gi (YtjinkcmkgnofjaaGreat.RG W c).IF d=if c=d then XB (gi W.IF c) else gi W.IF d:=QD _ _ c0 c1 d0;rw[hlen] at d1;have hc:=p.c d d0 d1
 by_cases e:c=d
 ·subst e;rw[H' rfl] at kT;have n1:(XB (gi W.IF c)).cur = -1:=rfl;exact⟨by rw[kT];exact hc.b,by rw[kT];exact hc.i,by rw[kT,n1];exact I4 _,by rw[kT,n1];decide,λ_=>by rw[kT];rfl,λh=>by rw[kT,n1] at h;omega,λh=>by rw[kT,n1] at h;omega⟩
 ·rw[E' e] at kT;exact⟨by rw[kT];exact hc.b,by rw[kT];exact hc.i,by rw[kT];exact hc.c1,by rw[kT];exact hc.c2,by rw[kT];exact hc.no,by rw[kT];exact hc.yes,by rw[kT];exact hc.q⟩
def zqp{W:Q7}(p:VJ W){c:Int}(c0:0<=c)(c1:c<(W.IF.length:Int)):VJ (VG W c)/\DB c W (VG W c)/\Dn (VG W c) c:=by
 obtain⟨l,p1,hon⟩:=zck p c0 c1;obtain⟨f,hA,pY⟩:=Ef p1.a c0 (c:=c) (by rw[l.cs];exact c1) 8 (I9 _);have f:FC c (QQ W c) (Zq (QQ W c) c):=f;have hA:WA (Zq (QQ W c) c):=hA;have pY:∀g:Int,Q6 (QQ W c).IE g->g<((8:Nat):Int)->ZO (QQ W c) g c 20->Zc (QQ W c) g c 20<=(Qb (Zq (QQ W c) c) g c).IL:=pY;have hon:∀g:Int,Q6 (QQ W c).IE g->g≠0->Uk (QQ W c) c g:=λg gu gz=>hon g (by rwa[l.o.g.dW] at gu) gz
 have cN:=p1.a.gl;have rM:(QQ W c).IF.length=W.IF.length:=by rw[l.cs]
 have aU:VG W c=if MM (Zq (QQ W c) c) c=true then RG (Zq (QQ W c) c) c else Zq (QQ W c) c:=rfl;have hO:DB c W (Zq (QQ W c) c):=l.o.trans f.o;rw[aU];clear aU;have yP:c<((QQ W c).IF.length:Int):=by rw[rM];exact c1
 generalize QQ W c=V at p1 hon f hA pY cN rM hO yP;generalize Zq V c=F at f hA pY hO;have et:∀t,Q8 F t=Q8 V t:=XR f.o.t;have hT:=f.o.g;have aT:=DZ (d:=c) f.o.t hT cN (λi hi=>f.on i c hi c0) (λi hi=>f.v i c hi c0)
 have low:∀k:Int,Q6 V.IE k->∀v:Int,(ZO V k c 20/\Zc V k c 20<=v)->(Qb V k c).IL<=v->(Qb F k c).IL<=v:=λk hu v hv hf=>by
  rcases f.fl k (Q5.1 hu).1 with e|⟨_,e⟩
  ·rw[e];exact hf
  ·rw[e];exact hv.2
 have st:∀k d:Int,Q6 V.IE k->k≠0->0<=d->(Qb V k d).on->UX V k d->UX F k d:=λk d hu hz d0 ho hs=>by
  have pu:=p1.a.up hu hz;have k0:=(Q5.1 hu).1;have q0:=(Q5.1 pu).1;unfold UX;rw[hT.p,f.v k d k0 d0,f.w k d k0 d0];have hup:=f.up _ d q0 d0;refine⟨?_,by have:=hs.2;omega⟩
  by_cases hd:d=c
  ·subst hd;exact low _ pu _ (zif p1.a hu hz ho) hs.1
  ·rw[f.o.e _ d q0 d0 hd];exact hs.1
 have pa:PreA F:=by
  refine⟨hA,λt t0 t1=>?_,λt t0 t1 n=>?_,λk d hu d0 d1=>?_⟩
  ·rw[et];rcases p1.t t t0 t1 with hz|⟨n,hx⟩
   ·exact .inl hz
   ·refine .inr ⟨n,hx.st,by rw[hT.dW];exact hx.g,hx.n,hx.m,hx.m0,hx.s,hx.u,hx.l1,hx.l2,λh1=>?_⟩;obtain⟨d0,d1⟩:=p1.l t t0 t1 n;have g0:=(Q5.1 hx.g).1;have hup:=f.up _ _ g0 d0;have hs:=hx.f h1;refine⟨?_,Qo⟩
    by_cases hd:(Q8 V t).R8=c
    ·have hb:=zly p1.a t0 t1 h1;rw[hd] at hb hs ⊢;exact low _ hx.g _ hb hs.1
    ·rw[f.o.e _ _ g0 d0 hd];exact hs.1
  ·rw[et] at n ⊢;rw[f.cs];exact p1.l t t0 t1 n
  ·rw[hT.dW] at hu;rw[f.cs] at d1;have hs:=p1.s k d hu d0 d1;have k0:=(Q5.1 hu).1;refine⟨by rw[f.s k d k0 d0];exact hs.s,λhz=>?_,λhz h=>?_⟩
   ·rw[f.on k d k0 d0,f.v k d k0 d0,f.w k d k0 d0];exact hs.root hz
   ·rw[f.on k d k0 d0] at h;exact st k d hu hz d0 h (hs.st hz h)
 have ptu:∀t:Int,0<=t->t<12->(Q8 V t).state=1->Q6 V.IE (Q8 V t).II:=λt t0 t1 h=>by
  rcases p1.t t t0 t1 with hz|⟨_,hx⟩
  ·rw[hz.1] at h;cases h
  ·exact hx.g
 have pc:∀d:Int,0<=d->d<(V.IF.length:Int)->(d=c->MM F c=false)->zt4 F d:=λd d0 d1 hg=>by
  have hc:=p1.c d d0 d1;refine⟨by rw[f.cs];exact hc.b,by rw[f.cs];exact hc.i,by rw[f.cs];exact hc.c1,by rw[f.cs];exact hc.c2,by rw[f.cs];exact hc.no,by rw[f.cs];exact hc.yes,?_⟩;rw[f.cs];simp only[et];intro h0 h1 h2;obtain⟨q1,q2⟩:=hc.q h0 h1 h2;have hu:=ptu _ h0 hc.c2 h1;have hup:=f.up _ d (Q5.1 hu).1 d0;refine⟨Qo,λx hx=>?_⟩;rw[VE hT] at hx;obtain⟨xu,xz⟩:=Yy p1.a.tree _ hu x hx;obtain⟨s1,s2⟩:=q2 x hx;have x0:=(Q5.1 xu).1;have q0:=(Q5.1 (p1.a.up xu xz)).1;have DD9:=f.up _ d q0 d0;refine⟨?_,by rw[hT.p,f.v x d x0 d0,f.w x d x0 d0];omega⟩
  by_cases hd:d=c
  ·subst hd
   have hl:Zi F (gi V.IF d).cur:=by
    have:=hg rfl;unfold MM at this;rw[f.cs,et,Ij h0,h2] at this
    simpa using this
   unfold Zi JM at hl;rw[et,h2,VE hT,A',List.all_eq_true] at hl;have ho:=hl.2 x hx;rw[f.on x d x0 d0] at ho;exact st x d xu xz d0 ho s1
  ·unfold UX;rw[hT.p,f.o.e x d x0 d0 hd,f.o.e _ d q0 d0 hd];exact s1
 have BW1:∀k:Int,Q6 F.IE k->k≠0->Uk F c k:=λk hu hz=>by
  rw[hT.dW] at hu;have k0:=(Q5.1 hu).1;have:=hon k hu hz;unfold Uk at this ⊢;rw[f.on k c k0 c0,TC f.o.t hT λj _ _ _ _=>f.on _ c Qo c0,zec (f.o.b k k0)];exact this
 have CJ2:∀k:Int,Q6 F.IE k->ZO F k c 20->Zc F k c 20<=(Qb F k c).IL:=λk hu hB=>by
  rw[hT.dW] at hu;rw[(aT k).1] at hB;rw[(aT k).2];exact pY k hu (by have:=(Q5.1 hu).2.1;omega) hB
 split
 ·rename_i hg;have cF:c<(F.IF.length:Int):=by rw[f.cs];exact yP
  have kT:∀d:Int,0<=d->gi (RG F c).IF d=if c=d then XB (gi F.IF c) else gi F.IF d:=λd d0=>QD _ _ c0 cF d0
  have hlen:(RG F c).IF.length=F.IF.length:=I0;refine⟨⟨pa.RG c0 cF,λd d0 d1=>?_⟩,hO.trans (zg6 c0 cF),BW1,λh0=>?_,CJ2⟩
  ·rw[hlen] at d1
   by_cases e:c=d
   ·subst e;have hc:=p1.c c c0 yP;have e1:gi (RG F c).IF c=XB (gi V.IF c):=by rw[kT c c0,H' rfl,f.cs]
    have n1:(XB (gi V.IF c)).cur = -1:=rfl;exact⟨by rw[e1];exact hc.b,by rw[e1];exact hc.i,by rw[e1,n1];exact I4 _,by rw[e1,n1];decide,λ_=>by rw[e1];rfl,λh=>by rw[e1,n1] at h;omega,λh=>by rw[e1,n1] at h;omega⟩
   ·have hc:=pc d d0 (by rw[<-f.cs];exact d1) λh=>It h.symm e
    have e1:gi (RG F c).IF d=gi F.IF d:=by rw[kT d d0,E' e]
    exact⟨by rw[e1];exact hc.b,by rw[e1];exact hc.i,by rw[e1];exact hc.c1,by rw[e1];exact hc.c2,by rw[e1];exact hc.no,by rw[e1];exact hc.yes,by rw[e1];exact hc.q⟩
  ·rw[kT c c0,H' rfl] at h0;have h0:(0:Int)<=-1:=h0;omega
 ·rename_i hg;have hg:MM F c=false:=by simpa using hg
  refine⟨⟨pa,λd d0 d1=>pc d d0 (by rw[<-f.cs];exact d1) λ_=>hg⟩,hO,BW1,λh0=>?_,CJ2⟩;unfold MM at hg;rw[Ij h0,Bool.true_and,I1] at hg;exact⟨by simpa using hg.1,by simpa using hg.2⟩
def zhw{W:Q7}(p:VJ W):∀c:Nat,c<=W.IF.length->VJ (JQ W c)/\(JQ W c).IF.length=W.IF.length/\(JQ W c).IK=W.IK/\QY W.IE (JQ W c).IE/\∀d:Int,0<=d->d<(c:Int)->Dn (JQ W c) d
 |0,_=>⟨p,rfl,rfl,QY.refl _,λd a b=>by omega⟩
 |c+1,hc=>by
  obtain⟨a,e,et,eg,ih⟩:=zhw p c Qo;obtain⟨p1,o,dn⟩:=zqp a (c:=(c:Int)) Qo (by rw[e];omega);refine⟨p1,o.len.trans e,o.t.trans et,eg.trans o.g,λd d0 d1=>?_⟩
  by_cases h:d=(c:Int)
  ·subst h;exact dn
  ·exact(ih d d0 Qo).oth a o d0 (by rw[e];omega) h
def znc{K:Int}{W:Q7}(sw:SW K W)(p:VJ W)(hK:0<=K):VJ (Qh W)/\Fr W (Qh W)/\∀d:Int,0<=d->d<(W.IF.length:Int)->Dn (Qh W) d:=by
 obtain⟨a,e⟩:=AO p W.IF.length (I9 _);obtain⟨s1,_⟩:=Ov (F:=K) (K:=K+Qp) (sw.sf.mono (I4 _) (by simp only[Qp];omega)) (I4 _) W.IF.length (I9 _);obtain⟨s2,b2⟩:=TJ s1 8 (I9 _);have p2:=a.A83 b2 s2.w.a;have e2:(X1 (YV W W.IF.length) 8).IF.length=W.IF.length:=by rw[b2.c,e]
 obtain⟨p3,e3,_,_,dn⟩:=zhw p2 W.IF.length (by rw[e2];exact I9 _);exact⟨p3,(Tp sw hK).2,dn⟩
def zvd{K:Int}{W:Q7}(sw:SW K W)(hK:K<=100000000000000000)(p:VJ W)(hl:Nx W)(dn:∀d:Int,0<=d->d<(W.IF.length:Int)->Dn W d):Xw W/\zwk W:=by
 have tm:∀k c:Int,Q6 W.IE k->0<=c->c<(W.IF.length:Int)->ZD (Qb W k c).IL/\ZD (Qb W k c).v:=λk c hu c0 c1=>by
  have:=sw.s k c hu c0 c1;exact⟨Y2.2 Qo,Y2.2 Qo⟩
 have tv:∀t:Int,0<=t->t<12->ZD (Q8 W t).v:=λt t0 t1=>by
  have:=sw.tv t t0 t1;exact Y2.2 Qo
 refine⟨⟨p.a,λt t0 t1=>?_,λk c k0 k1 c0 c1=>?_,λc c0 c1=>?_⟩,λk c hu c0 c1 hB=>(dn c c0 c1).fl k hu hB⟩
 ·rcases p.t t t0 t1 with hz|⟨n,hx⟩
  ·exact .inl hz
  ·obtain⟨d0,d1⟩:=p.l t t0 t1 n;exact .inr ⟨n,hx.st,hx.g,hx.n,hx.m,hx.m0,tv t t0 t1,hx.s,hx.u,hx.l1,hx.l2,hl t t0 t1 n,λh1=>(Dl (tv t t0 t1) (tm _ _ hx.g d0 d1).1).2 (hx.f h1)⟩
 ·have cN:=p.a.gl
  have hu:Q6 W.IE k:=by
   cases hb:(gi W.IE k).IW with
   |true=>exact Q5.2 ⟨k0,Qo,hb⟩
   |false=>
    have:=((p.a.grp k k0 k1).1 hb).l;omega
  have hsl:=p.a.sl hu;have c1:c<(W.IF.length:Int):=Qo;have hs:=p.s k c hu c0 c1;have ht:=tm k c hu c0 c1;have hw:=sw.s k c hu c0 c1;exact⟨ht.1,ht.2,hs.s,hw.2.2.2.2.1,hw.2.2.2.2.2,hs.root,λhz=>(dn c c0 c1).on k hu hz,λhz ho=>(Dl ht.2 (tm _ c (p.a.up hu hz) c0 c1).1).2 (hs.st hz ho)⟩
 ·have hc:=p.c c c0 c1;have lB:=p.a.t;refine⟨hc.b,hc.i,hc.c1,by have:=hc.c2;omega,hc.no,λh0=>?_⟩;obtain⟨y1,y2,y3⟩:=hc.yes h0;obtain⟨z1,z2⟩:=(dn c c0 c1).cu h0
  have hs:(Q8 W (gi W.IF c).cur).state=1:=by
   unfold Zi at z2;rw[A'] at z2;exact IA z2.1
  obtain⟨q1,q2⟩:=hc.q h0 hs z1;refine⟨y1,y2,y3,z1,z2,?_⟩;unfold P7 VS;rw[A',List.all_eq_true];exact⟨Ij q1,λx hx=>Ij (q2 x hx).2⟩
def YF{α β:Type}[Inhabited α]{f:α->β}(l:List α)(k:Int){x:α}(h:f x=f (gi l k))(i:Int):f (gi (l.set k.toNat x) i)=f (gi l i):=by
 unfold gi at *;simp only[List.getD_eq_getElem?_getD,List.getElem?_set] at *
 by_cases e:k.toNat=i.toNat
 ·rw[H' e];split
  ·rw[<-e];simpa using h
  ·rename_i hl;have:l[i.toNat]? = none:=List.getElem?_eq_none_iff.2 Qo;rw[this]
 ·rw[E' e]
structure VM (W W':Q7):Prop where
 g:QY W.IE W'.IE
 m:∀i:Int,(gi W'.IE i).IF=(gi W.IE i).IF
 w:∀i:Int,(gi W'.IE i).R2=(gi W.IE i).R2
 len:W'.IF.length=W.IF.length
 u:∀i:Int,(gi W'.IF i).up=(gi W.IF i).up
def VM.refl(W:Q7):VM W W:=⟨QY.refl _,λ_=>rfl,λ_=>rfl,rfl,λ_=>rfl⟩
def VM.trans{A B C:Q7}(h:VM A B)(k:VM B C):VM A C:=⟨h.g.trans k.g,λi=>(k.m i).trans (h.m i),λi=>(k.w i).trans (h.w i),k.len.trans h.len,λi=>(k.u i).trans (h.u i)⟩
def zjr{W:Q7}{g:Int}{x:ZL}(u:x.IW=(gi W.IE g).IW)(p:x.IG=(gi W.IE g).IG)(n:x.name=(gi W.IE g).name)(m:x.IF=(gi W.IE g).IF)(w:x.R2=(gi W.IE g).R2):VM W (Rw W g x):=
 ⟨⟨I0,λi=>YF (f:=ZL.IW) _ _ u i,λi=>YF (f:=ZL.IG) _ _ p i,λi=>YF (f:=ZL.name) _ _ n i⟩,λi=>YF (f:=ZL.IF) _ _ m i,λi=>YF (f:=ZL.R2) _ _ w i,rfl,λ_=>rfl⟩
def CH(W:Q7)(g c:Int)(s:MK):VM W (RR W g c s):=zjr rfl rfl rfl rfl rfl
def zjq(W:Q7)(g:Int)(b:Jx):VM W (WW W g b):=zjr rfl rfl rfl rfl rfl
def zjt(W:Q7)(t:Int)(x:Pv):VM W (I' W t x):=⟨QY.refl _,λ_=>rfl,λ_=>rfl,rfl,λ_=>rfl⟩
def zfm{W:Q7}{c:Int}{x:Pe}(u:x.up=(gi W.IF c).up):VM W (S8 W c x):=⟨QY.refl _,λ_=>rfl,λ_=>rfl,I0,λi=>YF (f:=Pe.up) _ _ u i⟩
def Lm(W:Q7)(c:Int):VM W (RG W c):=zfm rfl
def F2(W:Q7)(c d:Int):∀k:Nat,VM W (ZW W c d k)
 |0=>VM.refl _
 |k+1=>by
  simp only[ZW];split
  ·exact(F2 W c d k).trans (CH _ _ _ _)
  ·exact F2 W c d k
def GZ(W:Q7)(c:Int):∀j:Nat,VM W (XM W c j)
 |0=>VM.refl _
 |j+1=>(GZ W c j).trans (F2 _ _ _ _)
def CG(W:Q7):∀c:Nat,VM W (YV W c)
 |0=>VM.refl _
 |c+1=>(CG W c).trans (GZ (YV W c) (c:Int) 3)
def F0(W:Q7)(k:Int):∀c:Nat,VM W (YG W k c)
 |0=>VM.refl _
 |c+1=>by
  simp only[YG];split
  ·exact(F0 W k c).trans (zjq _ _ _)
  ·exact F0 W k c
def F1(W:Q7):∀k:Nat,VM W (X1 W k)
 |0=>VM.refl _
 |k+1=>by
  simp only[X1];split
  ·exact(F1 W k).trans (F0 _ _ _)
  ·exact F1 W k
def GY(W:Q7)(c:Int):∀k:Nat,VM W (Z3 W c k)
 |0=>VM.refl _
 |k+1=>by
  simp only[Z3];split
  ·exact(GY W c k).trans (CH _ _ _ _)
  ·exact GY W c k
def znf(W:Q7)(c:Int):VM W (VG W c):=by
 have h:=(GZ W c 3).trans (GY (QQ W c) c 8);unfold VG;split
 ·exact h.trans (Lm _ _)
 ·exact h
def zc9(W:Q7):∀c:Nat,VM W (JQ W c)
 |0=>VM.refl _
 |c+1=>(zc9 W c).trans (znf (JQ W c) (c:Int))
def zjs(W:Q7):VM W (Qh W):=((CG W W.IF.length).trans (F1 (YV W W.IF.length) 8)).trans (zc9 (LX (YV W W.IF.length)) W.IF.length)
def VM.ups{W W':Q7}(h:VM W W'):Jb W'.IF=Jb W.IF:=zfq h.len λj _=>h.u j
def VM.pin{W W':Q7}(h:VM W W')(g u:Int):V7 W'.IE g u=V7 W.IE g u:=by
 unfold V7;rw[show QV W'.IE g=QV W.IE g from h.g.path 3 g]
 congr 1
 funext s x
 rw[h.m]
def VM.wh{W W':Q7}(h:VM W W')(g m:Int):Qv W' g m=Qv W g m:=by
 unfold Qv;rw[h.ups,h.pin]
def VM.loc{W W':Q7}(h:VM W W')(ht:W'.IK=W.IK)(hl:Nx W):Nx W':=λt t0 t1 n=>by
 rw[XR ht] at n ⊢;rw[h.wh];exact hl t t0 t1 n
def CE{K:Int}{W:Q7}(sw:SW K W)(hK:0<=K)(hY:K+UW<=100000000000000000)(p:VJ W)(hl:Nx W):Xw (Qh W)/\zwk (Qh W):=by
 obtain⟨p1,hf,dn⟩:=znc sw p hK;exact zvd (Tp sw hK).1 hY p1 ((zjs W).loc hf.t hl) λd d0 d1=>dn d d0 (by rw[<-hf.c];exact d1)
def zid.Bg7{W W':Q7}{k c:Int}(h:zid W k c)(e:Qb W' k c=Qb W k c)(ep:k≠0->(Qb W' (gi W'.IE k).IG c).IL=(Qb W (gi W.IE k).IG c).IL):zid W' k c:=
 ⟨by rw[e];exact h.s,by rw[e];exact h.root,λhz ho=>by
  rw[e] at ho;have:=h.st hz ho;unfold UX at this ⊢;rw[e,ep hz];exact this⟩
def VJ.I'{W:Q7}(p:VJ W){t:Int}(t0:0<=t)(t1:t<12){x:Pv}(hx:x.state=0/\x=VI\/x.state≠0/\H9 W x/\0<=x.R8/\x.R8<(W.IF.length:Int))(hc:∀c:Int,0<=c->c<(W.IF.length:Int)->(gi W.IF c).cur=t->x.state=1->x.R8=c->x.v-(Qb W x.II c).IL<=Z6 (gi W.IF c).WC (Qe x.nice)/\∀y∈QV W.IE x.II,UX W y c/\(Qb W y c).v-(Qb W (gi W.IE y).IG c).IL<=Z6 (gi W.IF c).WC (Qb W y c).w):VJ (I' W t x):=by
 have hl:=p.a.t;have e:∀i:Int,0<=i->Q8 (YtjinkcmkgnofjaaGreat.I' W t x) i=if t=i then x else Q8 W i:=λi i0=>QD _ _ t0 Qo i0
 refine⟨⟨p.a.tk I0,λi a b=>?_,λi a b n=>?_,λk c hu c0 c1=>?_⟩,λc c0 c1=>?_⟩
 ·rw[e i a];split
  ·rcases hx with h|⟨h1,h2,_⟩
   ·exact .inl h
   ·exact .inr ⟨h1,h2.st,h2.g,h2.n,h2.m,h2.m0,h2.s,h2.u,h2.l1,h2.l2,h2.f⟩
  ·rcases p.t i a b with h|⟨h1,h2⟩
   ·exact .inl h
   ·exact .inr ⟨h1,h2.st,h2.g,h2.n,h2.m,h2.m0,h2.s,h2.u,h2.l1,h2.l2,h2.f⟩
 ·rw[e i a] at n ⊢;split
  ·rename_i h;rw[H' h] at n;rcases hx with h|⟨_,_,h2⟩
   ·exact It h.1 n
   ·exact h2
  ·rename_i h;rw[E' h] at n;exact p.l i a b n
 ·exact(p.s k c hu c0 c1).Bg7 rfl λ_=>rfl
 ·have h:=p.c c c0 c1;refine⟨h.b,h.i,h.c1,h.c2,h.no,h.yes,λh0=>?_⟩;rw[e _ h0];split
  ·rename_i he;exact λh1 h2=>hc c c0 c1 he.symm h1 h2
  ·exact h.q h0
def GC(p:Nat->Bool):Nat->Int
 |0 => -1
 |k+1=>if (decide (GC p k<0)&&p k)=true then (k:Int) else GC p k
def PR(p:Nat->Bool):∀k:Nat,(GC p k = -1/\∀j,j<k->p j=false)\/(0<=GC p k/\GC p k<(k:Int)/\p (GC p k).toNat/\∀j:Nat,(j:Int)<GC p k->p j=false)
 |0=>.inl ⟨rfl,λj hj=>It hj (Nat.not_lt_zero j)⟩
 |k+1=>by
  simp only[GC];rcases PR p k with ⟨h1,h2⟩|⟨h1,h2,h3,h4⟩
  ·cases hp:p k with
   |true=>
    rw[h1,H' (by rfl)];exact .inr ⟨Qo,Qo,by simpa using hp,λj hj=>h2 j Qo⟩
   |false=>
    rw[E' Qs,h1];refine .inl ⟨rfl,λj hj=>?_⟩
    by_cases e:j=k
    ·rw[e];exact hp
    ·exact h2 j Qo
  ·rw[E' (by rw[decide_eq_false (by omega:¬GC p k<0)];simp)];exact .inr ⟨h1,Qo,h3,h4⟩
def zkn{p:Nat->Bool}{n:Nat}(h:∀j,j<n->p j=false):GC p n = -1:=by
 rcases PR p n with ⟨h1,_⟩|⟨h1,h2,h3,_⟩
 ·exact h1
 ·rw[h _ Qo] at h3;cases h3
def zkm{p:Nat->Bool}{n:Nat}{a:Int}(a0:0<=a)(a1:a<(n:Int))(hp:p a.toNat)(hn:∀j:Nat,(j:Int)<a->p j=false):GC p n=a:=by
 rcases PR p n with ⟨_,h2⟩|⟨h1,h2,h3,h4⟩
 ·rw[h2 _ Qo] at hp;cases hp
 ·by_cases l:GC p n<a
  ·rw[hn _ Qo] at h3;cases h3
  ·by_cases g:a<GC p n
   ·rw[h4 _ Qo] at hp;cases hp
   ·omega
def OS(W:Q7)(j:Nat):Bool:=(Q8 W (j:Int)).state==0
def VA(W:Q7):Int:=GC (OS W) 12
noncomputable def TI(W:Q7)(g n x:Int):Int:=if Qe n=0\/Om x=false\/x=0 then 1 else if Q6 W.IE g=false then 2 else if VA W<0 then 3 else if QO W=false then 10 else 0
def ML(W:Q7)(g x:Int):Int:=Pc W (Qv W g x)
def Kt(W:Q7)(g n x:Int):Pv:=⟨1,g,ML W g x,n,x,(Qb W g (ML W g x)).IL,0,0,0⟩
def zgj(W:Q7)(g n x:Int):Q7:=Qh (RG (I' W (VA W) (Kt W g n x)) (ML W g x))
noncomputable def Vd(W:Q7)(jG:Int)(W':Q7)(a:Int):Q7×Int×Int:=if QH W=false then (Mf,-1,1) else if jG≠0 then (W,-1,jG) else (W',a,0)
def TA(r:Q7×Int×Int)(w:Wo)(v:Va)(w':Wo):Prop:=∃n m',v=.tuple #[.agg (Qa r.1 m').toArray,.int .i64 r.2.1,.int .i64 r.2.2]/\Yn n w.heap.size w' r.1 m'/\Q0 [] w w'
structure zvo (W:Q7) (g n x:Int):Prop where
 w:Qe n≠0
 m:Om x=true
 m0:x≠0
 u:Q6 W.IE g=true
 f0:0<=VA W
 f1:VA W<12
 f2:(Q8 W (VA W)).state=0
 r:QO W=true
 sw:SW Qt W
 c0:0<=ML W g x
 c1:ML W g x<(W.IF.length:Int)
 ch:Zb (Qv W g x) (ML W g x)=true
 sw2:SW Qt (I' W (VA W) (Kt W g n x))
def zkl{W:Q7}{g n x:Int}(hW:QH W)(hb:TI W g n x=0):zvo W g n x:=by
 have wp:=Qm.1 hW;unfold TI at hb
 split at hb
 ·cases hb
 ·rename_i h1
  split at hb
  ·cases hb
  ·rename_i h2
   split at hb
   ·cases hb
   ·rename_i h3
    split at hb
    ·cases hb
    ·rename_i h4;have h4:QO W:=by simpa using h4
     have h2:Q6 W.IE g:=by simpa using h2
     have sw:=P8 wp (Qm.1 h4)
     have hf:0<=VA W/\VA W<12/\OS W (VA W).toNat:=by
      rcases PR (OS W) 12 with ⟨a,_⟩|⟨a,b,c,_⟩
      ·unfold VA at h3;omega
      ·exact⟨a,b,c⟩
     obtain⟨c0,c1,ch⟩:=Lj wp.a g x;have hs:=sw.s g _ h2 c0 c1;have e:(((VA W).toNat:Nat):Int)=VA W:=Qo;refine⟨λh=>h1 (.inl h),?_,λh=>h1 (.inr (.inr h)),h2,hf.1,hf.2.1,?_,h4,sw,c0,c1,ch,sw.I' hf.1 hf.2.1 (x:=Kt W g n x) (λ_=>⟨h2,c0,c1⟩) hs.1 hs.2.1⟩
     ·cases hm:Om x with
      |true=>rfl
      |false=>exact It (.inr (.inl hm)) h1
     ·have:=hf.2.2;unfold OS at this;rw[e] at this;exact IA this
section
variable {W W':Q7}{m:MW}{w:Wo}{jG a:Int}
def TA.bad{w':Wo}(hW:QH W=false)(hx:Q0 [] w w'):TA (Vd W jG W' a) w (.tuple #[.agg (Qa Mf zs1).toArray,.int .i64 (-1),.int .i64 1]) w':=by
 rw[show Vd W jG W' a=(Mf,-1,1) from H' hW];exact⟨0,zs1,rfl,Yn.zero _ _,hx⟩
def TA.no{n:Nat}{bs:List Nat}{w':Wo}{m':MW}(hW:QH W)(hb:jG≠0)(hk:Wk n bs w w' W m'){c:Int}(hc:jG=c):TA (Vd W jG W' a) w (.tuple #[.agg (Qa W m').toArray,.int .i64 (-1),.int .i64 c]) w':=by
 rw[show Vd W jG W' a=(W,-1,c) by unfold Vd;rw[E' (by rw[hW];decide),H' hb,hc]];exact⟨n,m',rfl,hk.fin⟩
def TA.ok{n:Nat}{bs:List Nat}{w':Wo}{m':MW}(hW:QH W)(hb:jG=0)(hk:Wk n bs w w' W' m'):TA (Vd W jG W' a) w (.tuple #[.agg (Qa W' m').toArray,.int .i64 a,.int .i64 0]) w':=by
 rw[show Vd W jG W' a=(W',a,0) by unfold Vd;rw[E' (by rw[hW];decide),E' (by simpa using hb)]];exact⟨n,m',rfl,hk.fin⟩
def MQ{g n x:Int}(h:X0 [] w W m)(hl:Xk W) :
  Cz X5 #[.agg (Qa W m).toArray,.int .i64 g,.int .i64 n,.int .i64 x] w λe w'=>∃v,e=.returned v/\TA (Vd W (TI W g n x) (zgj W g n x) (VA W)) w v w':=by
 refine Bg W.now m.cO W.IF.length m.cC m.tO W.IK.length m.tC m.gO W.IE.length m.gC g n x (R:=λv w'=>TA (Vd W (TI W g n x) (zgj W g n x) (VA W)) w v w') ?_;intro y hy y1 eR wr Rt Wg;refine I5 (Z8 (h.ext Rt) hl) ?_;rintro e wv (⟨hW,he,Wc⟩|⟨hW,m',he,hM,Wc⟩)
 ·exact⟨_,_,_,_,_,_,_,_,_,_,_,he,Qf Wc Wg,λ_ Ra Ru=>TA.bad hW ((Rt.trans Wc).fresh Ru λz hm=>.inl (Yz hy eR z hm)),λg=>by simp at g⟩
 have hK:=Wk.begin hy eR Rt Wg hM Wc;have hr:=hK.rd;have wp:=Qm.1 hW;have lB:=wp.a.t;refine⟨_,_,_,_,_,_,_,_,_,_,_,he,Qf Wc Wg,λg=>by split at g <;> simp at g,λ_=>⟨_,ZG,_,λ_=>X2,λg1 Rg Ru=>?_,λg1=>⟨_,X3 hr.g,λg2 RL Ru=>?_,λg2=>⟨⟨Qo,Qo⟩,?_⟩⟩⟩⟩
 ·have hb:TI W g n x=1:=by
   unfold TI;rw[H'];simp only[Iw,Iu,ID] at g1;rcases g1 with (g1|g1)|g1
   ·exact .inl g1
   ·exact .inr (.inl g1)
   ·exact .inr (.inr g1)
  exact TA.no hW (by rw[hb];decide) (hK.step Ru) hb
 ·have n1:¬(Qe n=0\/Om x=false\/x=0):=by
   simp only[I1,beq_eq_false_iff_ne,I8,ne_eq] at g1;rintro (h|h|h)
   ·exact g1.1.1 h
   ·rw[g1.1.2] at h;cases h
   ·exact g1.2 h
  have hb:TI W g n x=2:=by unfold TI;rw[E' n1,H' (by simpa using g2)]
  exact TA.no hW (by rw[hb];decide) (hK.step Ru) hb
 have n1:¬(Qe n=0\/Om x=false\/x=0):=by
  simp only[I1,beq_eq_false_iff_ne,I8,ne_eq] at g1;rintro (h|h|h)
  ·exact g1.1.1 h
  ·rw[g1.1.2] at h;cases h
  ·exact g1.2 h
 have hu:Q6 W.IE g:=by simpa using g2
 have n2:¬Q6 W.IE g=false:=by rw[hu];decide
 refine⟨λvs w1=>∃a t:Int,vs=[.int .i64 a,.int .i64 t]/\-1<=t/\t<12/\(a = -1/\(∀j:Nat,t<(j:Int)->j<12->OS W j=false)\/t<a/\a<12/\OS W a.toNat/\∀j:Nat,t<(j:Int)->(j:Int)<a->OS W j=false)/\Q0 [y,y1] wv w1,
  λvs _=>(Y5 1 vs+1).toNat,λw1 tJ _=>⟨-1,_,rfl,Qo,Qo,.inl ⟨rfl,λj h1 h2=>by omega⟩,tJ⟩,?_⟩
 rintro av tv RF kO ⟨a,t,bS,ht0,ht1,AL1,hxw⟩;simp only[I6,I7,true_and,and_true] at bS;obtain⟨rfl,rfl⟩:=bS;have hK1:=hK.step hxw;have tR:=hK1.rd;refine⟨λIX=>?_,λRX=>?_⟩
 ·have IX:=Ot IX;have e:((tv.toNat:Nat):Int)=tv:=Qo;have lA:OS W tv.toNat=((Q8 W tv).state==0):=by unfold OS;rw[e]
  refine⟨tR.t.ix QF IX Qo,_,tR.t.f IX Qo (j:=0) rfl,λg3=>⟨⟨Qo,Qo⟩,λS5 Wb _=>⟨⟨tv,tv-1,rfl,Qo,Qo,.inr ⟨Qo,ht1,by rw[lA];exact g3,λj h1 h2=>by omega⟩,hxw.trans Wb⟩,?_⟩⟩,λg3=>⟨⟨Qo,Qo⟩,λSw eM _=>⟨⟨av,tv-1,rfl,Qo,Qo,?_,hxw.trans eM⟩,?_⟩⟩⟩
  ·simp only[Y5,Ih,List.getElem?_cons_succ];omega
  ·have g3:OS W tv.toNat=false:=by rw[lA];exact g3
   have one:∀j:Nat,tv-1<(j:Int)->¬tv<(j:Int)->OS W j=false:=λj h1 h2=>by
    have:j=tv.toNat:=Qo;rw[this];exact g3
   rcases AL1 with ⟨h1,h2⟩|⟨h1,h2,h3,h4⟩
   ·exact .inl ⟨h1,λj j1 j2=>if h:tv<(j:Int) then h2 j h j2 else one j j1 h⟩
   ·exact .inr ⟨Qo,h2,h3,λj j1 j2=>if h:tv<(j:Int) then h4 j h j2 else one j j1 h⟩
  ·simp only[Y5,Ih,List.getElem?_cons_succ];omega
 ·have RX:=Ou RX;have ht:tv = -1:=Qo;subst ht
  have rS:av=VA W:=by
   rcases AL1 with ⟨h1,h2⟩|⟨h1,h2,h3,h4⟩
   ·rw[h1];exact(zkn λj hj=>h2 j Qo hj).symm
   ·exact(zkm Qo h2 h3 λj hj=>h4 j Qo hj).symm
  subst rS;refine⟨λg4 SC mE=>?_,λg4=>⟨λg5 U' rD=>?_,λg5=>?_⟩⟩
  ·have g4:=Ot g4;have hb:TI W g n x=3:=by unfold TI;rw[E' n1,E' n2,H' g4]
   exact TA.no hW (by rw[hb];decide) (hK1.step mE) hb
  ·have g4:=Ou g4;have bH:¬QO W:=λhr=>by rw[H' hr] at g5;simp at g5
   have hb:TI W g n x=10:=by unfold TI;rw[E' n1,E' n2,E' g4,H' (by simpa using bH)]
   rw[E' bH];exact TA.no hW (by rw[hb];decide) (hK1.step rD) hb
  have g4:=Ou g4;have bH:QO W:=Is λhr=>by rw[E' hr] at g5;simp at g5
  have hb:TI W g n x=0:=by unfold TI;rw[E' n1,E' n2,E' g4,E' (by rw[bH];decide)]
  have hf:=zkl hW hb;obtain⟨u0,u1,_⟩:=Q5.1 hu;have hsl:=wp.a.sl hu;have c0:=hf.c0;have c1:=hf.c1;have f0:=hf.f0;have f1:=hf.f1;have SZ:Wk 8 [y,y1] w (RN RF m'.tO (Int.toNat (VA W)*9) (Ys (Kt W g n x))) (I' W (VA W) (Kt W g n x)) m':=hK1.RN (hK1.own.AC1 f0 (by rw[lB];exact f1) (j:=0) (vs:=Ys (Kt W g n x)) (x:=Kt W g n x) (by simp[Ys]) (by simp[Ys])) LK;refine⟨_,XL tR wp.a.c2 wp.a.tree hu,_,MR tR wp.a (zpg wp),tR.g.ix u0 u1,_,_,_,tR.g.RY u0 u1,(tR.g.IH g u0 u1).ix Zz c0 (by rw[hsl];exact c1),(Qb W g (ML W g x)).IL,zia.f (tR.g.IH g u0 u1) c0 (by rw[hsl];exact c1) (j:=0) rfl,tR.t.ix QF f0 (by rw[lB];exact f1),zfy hK1.own hK1.nb f0 (by rw[lB];exact f1) (j:=0) (k:=9) Qd,λaM hx9 hs9=>?_⟩;have e5:Qa (I' W (VA W) (Kt W g n x)) m'=Qa W m':=HK _ _ _ _;have dT:=SZ.step hx9;have aP:=Zr dT.own c0 (show ML W g x<((I' W (VA W) (Kt W g n x)).IF.length:Int) from c1);rw[e5] at aP;refine I5 aP ?_;rintro e2 RH ⟨bS,pS⟩;refine⟨_,_,_,_,_,_,_,_,_,_,bS,dT.kept pS hs9,λSp AG6 rB=>?_⟩;have hK7:=(dT.W9 pS hs9).step AG6;have rR:=Qu hK7.own (hf.sw2.RG c0 c1) Qd Qd hK7.base;refine I5 rR ?_;rintro e3 Sx ⟨m2,jM,hy5⟩;exact⟨_,_,_,_,_,_,_,_,_,_,jM,hK7.kept hy5 rB,λU' rD=>TA.ok hW hb ((hK7.W9 hy5 rB).step rD)⟩
end
section
variable {base pb:Nat}{W W':Q7}{m:MW}{w:Wo}
end
structure J4 (W:Q7):Prop where
 wp:Xw W
 fl:zwk W
def Zo{K:Int}{W:Q7}(sw:SW K W)(hK:0<=K)(hY:K+UW<=100000000000000000)(p:VJ W)(hl:Nx W):J4 (Qh W):=by
 obtain⟨a,b⟩:=CE sw hK hY p hl;exact⟨a,b⟩
def Nx.RG{W:Q7}(h:Nx W)(c:Int):Nx (RG W c):=(Lm W c).loc rfl h
def Nx.I'{W:Q7}(h:Nx W)(ha:WA W){t:Int}(t0:0<=t)(t1:t<12){x:Pv}(hx:x.state≠0->Zb (Qv W x.II x.mask) x.R8):Nx (I' W t x):=λi i0 i1 n=>by
 have hl:=ha.t;have e:Q8 (YtjinkcmkgnofjaaGreat.I' W t x) i=if t=i then x else Q8 W i:=QD _ _ t0 Qo i0;rw[e] at n ⊢;rw[(zjt W t x).wh]
 split at n
 ·rename_i he;rw[H' he];exact hx n
 ·rename_i he;rw[E' he];exact h i i0 i1 n
def zrv(W:Q7)(t c:Int)(x:Pv):RG (I' W t x) c=I' (RG W c) t x:=rfl
def Tw{W:Q7}(p:VJ W){t:Int}(t0:0<=t)(t1:t<12)(n:(Q8 W t).state≠0):H9 W (Q8 W t):=by
 rcases p.t t t0 t1 with h|h
 ·exact It h.1 n
 ·exact h.2
def zmg{W:Q7}{t:Int}(hW:QH W)(hb:Ve W t=0):J4 (zd3 W t):=by
 have wp:=Qm.1 hW;obtain⟨h1,h2,sw,sw2⟩:=zf1 hW hb;obtain⟨t0,t1,n⟩:=YK h1;have hl:=wp.a.t;have p:=Xe wp;have h:=Tw p t0 Qo n;have nI:=Ue wp;refine Zo sw2 Qd Qd (p.I' t0 Qo (.inr ⟨by show (2:Int)≠0;decide,⟨.inr rfl,h.g,h.n,h.m,h.m0,h.s,h.u,h.l1,h.l2,λh=>by cases h⟩,p.l t t0 Qo n⟩) λc c0 c1 _ hs _=>by cases hs) (nI.I' wp.a t0 Qo λ_=>nI t t0 Qo n)
def zo2{W:Q7}{t:Int}(hW:QH W)(hb:TG W t=0):J4 (Fj W t):=by
 have wp:=Qm.1 hW;obtain⟨h1,_,sw,_,sw2⟩:=zen hW hb;obtain⟨t0,t1,n⟩:=YK h1;have hl:=wp.a.t;have p:=Xe wp;obtain⟨c0,c1⟩:=p.l t t0 Qo n
 have key:VJ (QW W t)/\Nx (QW W t):=by
  unfold QW;split
  ·exact⟨p.RG c0 c1,(Ue wp).RG _⟩
  ·exact⟨p,Ue wp⟩
 exact Zo sw2 Qd Qd (key.1.I' t0 Qo (.inl ⟨rfl,rfl⟩) λc c0 c1 _ hs _=>by cases hs) (key.2.I' key.1.a t0 Qo λh=>It rfl h)
def Nn{W:Q7}(p:VJ W){t c:Int}(t0:0<=t)(t1:t<12){x:Pv}(n:x.state≠0)(hx:H9 W x)(hc:x.R8=c)(c0:0<=c)(c1:c<(W.IF.length:Int)):VJ (RG (I' W t x) c):=by
 rw[zrv];have hl:(RG W c).IF.length=W.IF.length:=I0;refine(p.RG c0 c1).I' t0 t1 (.inr ⟨n,⟨hx.st,hx.g,hx.n,hx.m,hx.m0,hx.s,hx.u,hx.l1,hx.l2,hx.f⟩,by rw[hl,hc];exact⟨c0,c1⟩⟩) λd d0 d1 rA _ hd=>?_
 rw[hc] at hd;subst hd;have e1:gi (RG W c).IF c=XB (gi W.IF c):=(QD _ _ c0 c1 c0).trans (H' rfl);rw[e1] at rA;have rA:(-1:Int)=t:=rA;omega
def zuy(f v w:Int):f<=f+Xc (v-f) w/\f+Xc (v-f) w-f<=Zs w:=by
 have:=ZX (v-f) w;omega
def zo4{W:Q7}{t n:Int}(hW:QH W)(hb:Og W t n=0):J4 (KJ W t n):=by
 have wp:=Qm.1 hW;have hq:=zk6 hW hb;obtain⟨t0,t1,tn⟩:=YK hq.th;have hl:=wp.a.t;have p:=Xe wp;have hw:Qe n≠0:=λh=>by unfold Og at hb;rw[H' h] at hb;cases hb
 have h:=Tw p t0 Qo tn;obtain⟨c0,c1⟩:=p.l t t0 Qo tn;have nI:=Ue wp;have hL:Nx (I' W t (XP W t n)):=nI.I' wp.a t0 Qo λ_=>nI t t0 Qo tn
 have hT:H9 W (XP W t n):=⟨h.st,h.g,hw,h.m,h.m0,h.s,h.u,h.l1,h.l2,λhs=>by
  have hs:(Q8 W t).state=1:=hs;rw[zk5 hs];exact zuy _ _ _⟩
 have hK:K1+UW<=100000000000000000:=by simp only[K1,Qp,UW];decide
 have hK0:0<=K1:=by simp only[K1,Qp];decide
 unfold KJ;split
 ·rename_i hs
  have hlv:QW (I' W t (XP W t n)) t=if (gi W.IF (Q8 W t).R8).cur=t then RG (I' W t (XP W t n)) (Q8 W t).R8 else I' W t (XP W t n):=by
   unfold QW;rw[F8 t0 t1];rfl
  have s2:=hq.s2;rw[hlv] at s2 ⊢;split
  ·rename_i rA;rw[H' rA] at s2;exact Zo s2 hK0 hK (Nn p t0 Qo tn hT rfl c0 c1) (hL.RG _)
  ·rename_i rA;rw[E' rA] at s2;refine Zo s2 hK0 hK (p.I' t0 Qo (.inr ⟨tn,hT,c0,c1⟩) λd d0 d1 hd _ hx=>?_) hL;have hx:(Q8 W t).R8=d:=hx;rw[hx] at rA;exact It hd rA
 ·rename_i hs;exact Zo hq.s1 hK0 hK (p.I' t0 Qo (.inr ⟨tn,hT,c0,c1⟩) λd d0 d1 hd hx _=>It hx hs) hL
def zo6{W:Q7}{t:Int}(hW:QH W)(hb:Pq W t=0):J4 (Fv W t):=by
 have wp:=Qm.1 hW;obtain⟨h1,h2,_,sf,c0,c1⟩:=zls hW hb;obtain⟨t0,t1,tn⟩:=YK h1;have hl:=wp.a.t;have p:=Xe wp;have h:=Tw p t0 Qo tn;have nI:=Ue wp
 have hT:H9 W (VH W t (Pa W t)):=⟨.inl rfl,h.g,h.n,h.m,h.m0,h.s,h.u,h.l1,h.l2,λ_=>by
  have:=ZX ((Q8 W t).v-(Qb W (Q8 W t).II (Q8 W t).R8).IL) (Qe (Q8 W t).nice);show (Qb W (Q8 W t).II (Pa W t)).IL<=(Qb W (Q8 W t).II (Pa W t)).IL+Ey W t/\(Qb W (Q8 W t).II (Pa W t)).IL+Ey W t-(Qb W (Q8 W t).II (Pa W t)).IL<=Zs (Qe (Q8 W t).nice);unfold Ey;exact⟨Qo,Qo⟩⟩
 have hwh:Zb (Qv W (Q8 W t).II (Q8 W t).mask) (Pa W t):=by
  unfold Pa;split
  ·exact(Lj wp.a _ _).2.2
  ·exact nI t t0 Qo tn
 exact Zo ((zft sf t0 t1 tn c0 c1).RG c0 c1).w (by simp only[Qp];decide) (by simp only[Qp,UW];decide) (Nn p t0 Qo (show (1:Int)≠0 by decide) hT rfl c0 c1) ((nI.I' wp.a t0 Qo (x:=VH W t (Pa W t)) λ_=>hwh).RG _)
def Hy(l u:Int):Int:=if Yp l 0 8000000=true/\Yp u 0 1000000 then l-Int.tdiv l 8+u else 0
def zak(x:Pv):Pv:={ x with IW:=0,load:=Y1 (Hy x.load (Y1 x.IW 1000000)) 8000000 }
def TX(W:Q7):Nat->Q7
 |0=>W
 |t+1=>I' (TX W t) (t:Int) (zak (Q8 (TX W t) (t:Int)))
def KI(next p now:Int):Nat->Int
 |0=>next
 |i+1=>if KI next p now i<=now+((i:Int)+1) then KI next p now i+p else KI next p now i
structure znw (next p now v:Int):Prop where
 gt:now<v
 rJ:∃j:Nat,v=next+p*(j:Int)/\(j=0\/v-p<=now)
def GL{next p now:Int}(hp:1<=p)(hn:now<next):∀i:Nat,znw next p (now+(i:Int)) (KI next p now i)
 |0=>⟨by simp only[KI];omega,0,by simp only[KI];omega,.inl rfl⟩
 |i+1=>by
  obtain⟨h1,j,h2,h3⟩:=GL hp hn i;simp only[KI]
  push_cast
  split
  ·refine⟨Qo,j+1,?_,.inr Qo⟩;rw[h2];push_cast;rw[Int.mul_add,Int.mul_one,Int.add_assoc]
  ·exact⟨Qo,j,h2,h3.imp id λh=>by omega⟩
def zse{next p now v v':Int}(hp:1<=p)(h:znw next p now v)(h':znw next p now v'):v=v':=by
 obtain⟨h1,j,h2,h3⟩:=h;obtain⟨k1,k,k2,k3⟩:=h'
 have key:∀a b:Nat,a<b->p*(a:Int)+p<=p*(b:Int):=λa b hab=>by
  have:p*((a:Int)+1)<=p*(b:Int):=Int.mul_le_mul_of_nonneg_left Qo Qo;rw[Int.mul_add,Int.mul_one] at this;exact this
 rcases Nat.lt_trichotomy j k with h|h|h
 ·have:=key j k h;omega
 ·subst h;omega
 ·have:=key k j h;omega
def Xs(now:Int)(n:Nat)(G:ZL):ZL:=if (G.IW&&(G.IY.R4 != 0))=true/\G.next<=now+(n:Int) then { G with next:=KI G.next G.period now n,IY:=U4 G.IY } else G
def zjb{now:Int}{G:ZL}(h:G.IY.R4≠0->now<G.next):Xs now 0 G=G:=by
 unfold Xs;rw[E'];rintro⟨h1,h2⟩;simp only[A',Iv,ne_eq] at h1;have:=h h1.2;simp at h2;omega
def VD(W:Q7)(n:Nat):Nat->Q7
 |0=>{ W with now:=W.now+(n:Int) }
 |k+1=>Rw (VD W n k) (k:Int) (Xs W.now n (gi W.IE (k:Int)))
def ZH(W:Q7)(n:Nat):Q7:=VD W n 8
noncomputable def MV(W:Q7)(n:Int):Int:=if Yp n 1 1000=false then 1 else if QO W=false then 10 else 0
def zdg(W:Q7)(n:Int):Q7:=Qh (TX (ZH W n.toNat) 12)
def Lh(now:Int)(n:Nat)(G:ZL):(Xs now n G).IW=G.IW/\(Xs now n G).IG=G.IG/\(Xs now n G).name=G.name/\(Xs now n G).IH=G.IH/\(Xs now n G).R2=G.R2/\(Xs now n G).IF=G.IF/\(Xs now n G).sum=G.sum/\(Xs now n G).period=G.period/\(Xs now n G).IY.R4=G.IY.R4:=by
 unfold Xs;split <;> exact⟨rfl,rfl,rfl,rfl,rfl,rfl,rfl,rfl,rfl⟩
def Tk(W:Q7)(n:Nat):∀k:Nat,(VD W n k).IE.length=W.IE.length/\(VD W n k).now=W.now+(n:Int)/\(VD W n k).IF=W.IF/\(VD W n k).IK=W.IK
 |0=>⟨rfl,rfl,rfl,rfl⟩
 |k+1=>by
  obtain⟨a,b,c,d⟩:=Tk W n k;exact⟨by show (List.set _ _ _).length=_;rw[I0];exact a,b,c,d⟩
def M7(W:Q7)(n:Nat):∀k:Nat,k<=W.IE.length->∀i:Int,0<=i->gi (VD W n k).IE i=if i<(k:Int) then Xs W.now n (gi W.IE i) else gi W.IE i
 |0,_,i,i0=>by rw[E' Qo];rfl
 |k+1,hk,i,i0=>by
  have ih:=M7 W n k Qo i i0;have hl:=(Tk W n k).1;show gi (Rw (VD W n k) (k:Int) _).IE i=_;rw[Ym Qo Qo i0]
  by_cases e:(k:Int)=i
  ·subst e;rw[H' rfl,H' Qo]
  ·rw[E' e,ih]
   by_cases h:i<(k:Int)
   ·rw[H' h,H' Qo]
   ·rw[E' h,E' Qo]
def zkg(W:Q7):∀k:Nat,(TX W k).IE=W.IE/\(TX W k).now=W.now/\(TX W k).IF=W.IF/\(TX W k).IK.length=W.IK.length
 |0=>⟨rfl,rfl,rfl,rfl⟩
 |k+1=>by
  obtain⟨a,b,c,d⟩:=zkg W k;exact⟨a,b,c,by show (List.set _ _ _).length=_;rw[I0];exact d⟩
def zkh{K:Int}{W:Q7}(h:SW K W):∀k:Nat,k<=12->SW K (TX W k)
 |0,_=>h
 |k+1,hk=>by
  have ih:=zkh h k Qo;have hv:=ih.tv (k:Int) Qo Qo;exact ih.I' Qo Qo (x:=zak (Q8 (TX W k) (k:Int))) (λhs=>ih.t (k:Int) Qo Qo hs) hv.1 hv.2
def zgg{b:Jx}(h:VL b):VL (U4 b)/\(U4 b).locals.length=b.locals.length:=by
 have hd:=h.dl;refine⟨⟨h.q1,h.q2,by simp only[U4,List.length_replicate];have:=h.l1;omega,by simp only[U4,List.length_replicate];have:=h.l2;omega,by simp[U4],by simp only[U4];have:=h.q1;omega,I4 _,by simp[U4],by simp only[U4];have:=h.q1;omega,λc c0 c1=>?_,?_⟩,by simp[U4,hd]⟩
 ·simp only[U4,List.length_replicate] at c1 ⊢;rw[O7 _ _ c0 c1,O7 _ _ c0 c1];have:=h.q1;exact⟨I4 _,Qo,λh=>by cases h⟩
 ·simp only[U4,List.length_replicate];rw[F4 _ _ (I9 _)];omega
def zp2{W W':Q7}{n:Nat}{k:Int}{G:ZL}(hg:zib W k G)(hu:G.IW)(hn:W'.now=W.now+(n:Int))(hc:W'.IF.length=W.IF.length):zib W' k (Xs W.now n G):=by
 obtain⟨_,_,_,u4,u5,u6,u7,u8,u9⟩:=Lh W.now n G;refine⟨by rw[u5];exact hg.w1,by rw[u5];exact hg.w2,by rw[u6];exact hg.m,by rw[u6];exact hg.m0,by rw[u7];exact hg.s,by rw[u4,hc];exact hg.len,λh=>by rw[u5,u6,u9];exact hg.root h,λhq=>?_,λhq=>?_⟩
 ·rw[u9] at hq
  have:Xs W.now n G=G:=by
   unfold Xs;rw[E'];rintro⟨h1,_⟩;simp only[A',Iv,ne_eq] at h1;exact h1.2 hq
  rw[this];exact hg.none hq
 ·rw[u9] at hq;obtain⟨b1,b2,b3,b4,b5,b6⟩:=hg.IY hq;rw[hn,hc];unfold Xs;split
  ·obtain⟨f1,f2⟩:=zgg b1;have hj:=GL b3 b5 n;refine⟨f1,by show (U4 G.IY).locals.length=_;rw[f2];exact b2,b3,b4,hj.gt,?_⟩;obtain⟨h1,j,h2,h3⟩:=hj;show KI G.next G.period W.now n-(W.now+(n:Int))<=G.period;rcases h3 with rfl|h3
   ·simp at h2;omega
   ·omega
  ·rename_i hcnd;have IX:W.now+(n:Int)<G.next:=Int.not_le.1 λhle=>hcnd ⟨by rw[hu];simpa using hq,hle⟩
   exact⟨b1,b2,b3,b4,IX,Qo⟩
def GT(W:Q7)(n:Nat):∀k:Nat,k<=W.IE.length->QY W.IE (VD W n k).IE
 |0,_=>QY.refl _
 |k+1,hk=>by
  have ih:=GT W n k Qo;have hl:=(Tk W n k).1;have e:=M7 W n k Qo (k:Int) Qo;rw[E' Qo] at e;obtain⟨u1,u2,u3,_⟩:=Lh W.now n (gi W.IE (k:Int));exact ih.trans (Jh (W:=VD W n k) (g:=(k:Int)) (x:=Xs W.now n (gi W.IE (k:Int))) Qo Qo (by rw[u1,e]) (by rw[u2,e]) (by rw[u3,e]))
def zp3{K:Int}{W:Q7}{n:Nat}(h:SW K W)(h1:W.now+(n:Int)<=100000000000000000):SW K (ZH W n):=by
 have hl:=h.a.gl;have hT:=GT W n 8 Qo;obtain⟨l1,l2,l3,l4⟩:=Tk W n 8
 have e:∀i:Int,0<=i->i<8->gi (ZH W n).IE i=Xs W.now n (gi W.IE i):=λi a b=>by
  have:=M7 W n 8 Qo i a
  rwa[H' (show i<((8:Nat):Int) by omega)] at this
 have n1:=h.a.n1;have et:∀t:Int,Q8 (ZH W n) t=Q8 W t:=λt=>by unfold Q8;rw[show (ZH W n).IK=W.IK from l4]
 have ec:(ZH W n).IF=W.IF:=l3;have hT:QY W.IE (ZH W n).IE:=hT;refine⟨⟨by rw[show (ZH W n).now=_ from l2];omega,by rw[show (ZH W n).now=_ from l2];exact h1,by rw[ec];exact h.a.c1,by rw[ec];exact h.a.c2,by rw[show (ZH W n).IK=W.IK from l4];exact h.a.t,hT.tree h.a.tree,by rw[ec];exact h.a.ups,λk a b=>?_⟩,λt a b hs=>?_,λt a b=>?_,λk c u a b=>?_,λc a b=>?_⟩
 ·have hg:=h.a.grp k a b;obtain⟨u1,u2,u3,u4,u5,u6,u7,u8,u9⟩:=Lh W.now n (gi W.IE k);unfold Pt;rw[e k a b];refine⟨λhu=>?_,λhu=>?_⟩
  ·rw[u1] at hu
   have:Xs W.now n (gi W.IE k)=gi W.IE k:=by
    unfold Xs;rw[E'];rintro⟨h1,_⟩;rw[hu] at h1;cases h1
   rw[this];exact hg.1 hu
  ·rw[u1] at hu;exact zp2 (hg.2 hu) hu l2 (by rw[ec])
 ·rw[et] at hs ⊢;rw[hT.dW,ec];exact h.t t a b hs
 ·rw[et];exact h.tv t a b
 ·rw[hT.dW] at u;rw[ec] at b;have hk:=Q5.1 u
  have:Qb (ZH W n) k c=Qb W k c:=by
   unfold Qb;rw[e k hk.1 Qo,(Lh W.now n (gi W.IE k)).2.2.2.1]
  rw[this];exact h.s k c u a b
 ·rw[ec] at b ⊢;exact h.cu c a b
def zu8{W:Q7}(ha:WA W):ZH W 0=W:=by
 have hl:=ha.gl;obtain⟨l1,l2,l3,l4⟩:=Tk W 0 8
 have hg:(ZH W 0).IE=W.IE:=zos l1 λk hk=>by
  have hk8:k<8:=by have:(ZH W 0).IE.length=W.IE.length:=l1;omega
  have:=M7 W 0 8 Qo (k:Int) Qo;rw[H' Qo] at this;refine this.trans (zjb λhq=>?_);have hgp:=ha.grp (k:Int) Qo Qo
  cases hu:(gi W.IE (k:Int)).IW with
  |true=>exact((hgp.2 hu).IY hq).2.2.2.2.1
  |false=>
   have:=(hgp.1 hu).b;exact It (by unfold Tj at this;simp only[A',Iu] at this;exact this.1.1.1.1) hq
 have h2:(ZH W 0).now=W.now:=by rw[show (ZH W 0).now=_ from l2];simp
 have h3:(ZH W 0).IF=W.IF:=l3;have h4:(ZH W 0).IK=W.IK:=l4;generalize ZH W 0=V at hg h2 h3 h4;cases V;cases W;simp only at hg h2 h3 h4;subst hg;subst h2;subst h3;subst h4;rfl
def zlo{W:Q7}{n:Int}(hW:QH W)(hb:MV W n=0):Yp n 1 1000/\QO W/\SW Qt W/\W.now<=Qt/\SW Qt (ZH W n.toNat)/\SW Qt (TX (ZH W n.toNat) 12):=by
 have wp:=Qm.1 hW;unfold MV at hb
 split at hb
 ·cases hb
 ·rename_i h1
  split at hb
  ·cases hb
  ·rename_i h3;have h1:Yp n 1 1000:=by simpa using h1
   have h3:QO W:=by simpa using h3
   have hr:=Qm.1 h3;have sw:=P8 wp hr;have hn:=hr.n;have hi:=Qr.1 h1;have hh:Qt=50000000000000000:=rfl;have s1:=zp3 (n:=n.toNat) sw Qo;exact⟨h1,h3,sw,hn,s1,zkh s1 12 (I9 _)⟩
section
variable {W W':Q7}{m:MW}{w:Wo}{jG:Int}
def zrn{l u:Int}(h1:Yp l 0 8000000)(h2:Yp u 0 1000000):0<=Int.tdiv l 8/\Int.tdiv l 8<=l:=by
 have:=Qr.1 h1;rw[Int.tdiv_eq_ediv_of_nonneg this.1];omega
def Eo{bs:List Nat}{l u:Int}:PX bs Vm #[I l,I u] w (I (Hy l u)):=
 EM l u λwr hx=>⟨_,Ql,_,λ_=>Ql,λg=>(by
  unfold Hy;rw[E'];rintro⟨h1,h2⟩;rw[h1,h2] at g
  cases g),λg=>by
  have h1:Yp l 0 8000000:=by cases h:Yp l 0 8000000 <;> simp_all
  have h2:Yp u 0 1000000:=by cases h:Yp u 0 1000000 <;> simp_all
  have hb:=zrn h1 h2;have i1:=Qr.1 h1;have i2:=Qr.1 h2;refine⟨⟨Qd,Qo,Qo⟩,⟨Qo,Qo⟩,⟨Qo,Qo⟩,?_⟩;unfold Hy;rw[H' ⟨h1,h2⟩]⟩
def zjn{W:Q7}{k:Int}(h0:0<=k)(h1:k<(W.IE.length:Int)):Rw W k (gi W.IE k)=W:=by
 unfold Rw;rw[zhq h0 h1]
def BF{n:Int}(h:X0 [] w W m)(hl:Xk W) :
  Cz T7 #[.agg (Qa W m).toArray,I n] w λe w'=>∃v,e=.returned v/\QM (Xz W (MV W n) (zdg W n)) w v w':=by
 refine Bk _ _ _ _ _ _ _ _ _ _ n (R:=λv w'=>QM (Xz W (MV W n) (zdg W n)) w v w') ?_;intro x hx x1 SD wr Rt Wg;refine I5 (Z8 (h.ext Rt) hl) ?_;rintro e wv (⟨hW,he,hy⟩|⟨hW,m',he,hM,hy⟩)
 ·exact⟨_,_,_,_,_,_,_,_,_,_,_,he,Qf hy Wg,false,λg=>by simp at g,λ_ Ra Ru=>QM.bad hW ((Rt.trans hy).fresh Ru λy hm=>.inl (Yz hx SD y hm)),λg=>by simp at g⟩
 have hK:=Wk.begin hx SD Rt Wg hM hy;have yQ:((if QO W=true then 0 else 10:Int)==1)=false:=by split <;> rfl
 refine⟨_,_,_,_,_,_,_,_,_,_,_,he,Qf hy Wg,_,λ_=>Ql,λg Ra Ru=>?_,λg=>⟨λg3 Rg Ru=>?_,λg3=>?_⟩⟩
 ·rw[yQ] at g;have g:Yp n 1 1000=false:=by simpa using g
  have hb:MV W n=1:=by unfold MV;rw[H' g]
  exact QM.no hW (by rw[hb];decide) (hK.step Ru) hb
 ·rw[yQ] at g;have g:Yp n 1 1000:=by simpa using g
  have bH:¬QO W:=λhr=>by rw[H' hr] at g3;simp at g3
  have hb:MV W n=10:=by unfold MV;rw[E' (by rw[g];decide),H' (by simpa using bH)]
  rw[E' bH];exact QM.no hW (by rw[hb];decide) (hK.step Ru) hb
 rw[yQ] at g;have g:Yp n 1 1000:=by simpa using g
 have bH:QO W:=Is λhr=>by rw[E' hr] at g3;simp at g3
 have hb:MV W n=0:=by unfold MV;rw[E' (by rw[g];decide),E' (by rw[bH];decide)]
 obtain⟨_,_,sw,CL4,sp,sd⟩:=zlo hW hb;have hn:=Qr.1 g;obtain⟨N,rfl⟩:=Int.eq_ofNat_of_zero_le (show 0<=n by omega);have hE:zdg W (N:Int)=Qh (TX (ZH W N) 12):=by unfold zdg;rw[Ii]
 rw[Ii] at sp sd;rw[hE];have cN:=sw.a.gl;have lB:=sw.a.t;have hn1:=sw.a.n1;have hh:Qt=50000000000000000:=rfl;refine⟨⟨Qo,Qo⟩,?_⟩;refine P0 W.IE.length 0 rfl (λk w2=>k<=8/\∃m2,Wk 8 [x,x1] w w2 (VD W N k) m2/\m2={ m' with ms:=m2.ms }) (λw2 Ru _=>⟨Qd,m',(show Wk 8 [x,x1] w wv (VD W N 0) m' from ⟨hK.s,⟨⟨hK.own.c,hK.own.t,hK.own.g,hK.own.len⟩,hK.nb⟩⟩).step Ru,rfl⟩) λk w2 kO ⟨hk8,m2,hY,hd2⟩=>?_
 obtain⟨l1,l2,l3,l4⟩:=Tk W N k;have eG:=M7 W N k Qo (k:Int) Qo;rw[E' Qo] at eG;have aU:VD W N (k+1)=Rw (VD W N k) (k:Int) (Xs W.now N (gi W.IE (k:Int))):=rfl;have AB1:k=8->ZH W N=VD W N k:=λe=>by rw[e];rfl
 have B02:(k:Int)<(W.IE.length:Int)->Rw (VD W N k) (k:Int) (gi W.IE (k:Int))=VD W N k:=λIX=>by
  have:=zjn (W:=VD W N k) (k:=(k:Int)) Qo Qo
  rwa[eG] at this
 have emg:m2.gO=m'.gO:=by rw[hd2]
 have emc:m2.gC=m'.gC:=by rw[hd2]
 refine⟨λIX=>?_,λRX=>?_⟩
 ·have IX:=Ot IX;generalize VD W N k=V at hY l1 l2 l3 l4 eG aU AB1 B02;have hr:=hY.rd;have Bu0:(k:Int)<(V.IE.length:Int):=Qo;have WJ:Ix m'.gO W.IE.length (k:Int):=by have:=hr.g.ix (i:=(k:Int)) Qo Bu0;rwa[l1,emg] at this
  have hcs:=hr.g.cells (k:Int) Qo Bu0;rw[eG,emg] at hcs;refine⟨WJ,_,_,_,_,_,_,_,_,_,_,_,_,_,_,_,_,_,_,_,_,hcs,λb2 cA=>⟨λg4=>⟨⟨Qo,Qo⟩,λw3 Ru _=>Z4 Qo ⟨Qo,m2,?_,hd2⟩⟩,λg4 S5 Wb kM=>?_⟩⟩
  ·have:Xs W.now N (gi W.IE (k:Int))=gi W.IE (k:Int):=by
    unfold Xs;rw[E'];rintro⟨a,b⟩;simp only[Iw,ID,Iu,Il] at g4;simp only[A',Iv,ne_eq] at a;rcases g4 with (h1|h1)|h1
    ·rw[a.1] at h1;cases h1
    ·exact a.2 h1
    ·omega
   rw[aU,this,B02 IX];exact hY.step Ru
  ·simp only[I1,I8,beq_eq_false_iff_ne,ne_eq,decide_eq_false_iff_not] at g4;obtain⟨⟨hu,hq⟩,C91⟩:=g4;have kU:=(sw.a.grp (k:Int) Qo Qo).2 hu;obtain⟨nH,hbl,hp1,n',hnx,hnp⟩:=kU.IY hq
   have hP:Xs W.now N (gi W.IE (k:Int))={ gi W.IE (k:Int) with next:=KI (gi W.IE (k:Int)).next (gi W.IE (k:Int)).period W.now N,IY:=U4 (gi W.IE (k:Int)).IY }:=by
    unfold Xs;rw[H' ⟨by rw[hu];simpa using hq,Qo⟩]
   have hJ:=GL hp1 hnx N;have nG:=(hY.add cA).step (Wb.mono λy hy=>Ic _ hy);have hr5:=nG.o.rd0;have hLo:=hr5.g.locals (k:Int) Qo Bu0;have hDo:=hr5.g.RW (k:Int) Qo Bu0;rw[eG] at hLo hDo;refine I5 (Jd (op:=⟨4,0,0⟩) nH hLo hDo) ?_;rintro e RH ⟨pb,he,hO,Wc⟩;have Cg5:YM (gi W.IE (k:Int)).IY ⟨4,0,0⟩=(U4 (gi W.IE (k:Int)).IY,0):=by unfold YM;rw[H' rfl]
   rw[Cg5] at he hO
   dsimp only at he hO
   refine⟨_,_,_,_,_,_,_,_,_,_,he,Qf Wc kM,λb3 hb3=>?_⟩;have dT:=(nG.RJ Wc).add hb3
   have hOb:∀y∈ZQ pb,y∉QS 8 m2/\y∉[x,x1]++[b2]++[b3]:=λy hy=>by
    have:=hO.lt y hy;refine⟨λhm=>by have:=(nG.own.lt y hm).2;omega,λhm=>?_⟩;rcases Ip.1 hm with h1|h1
    ·have:=kM y h1;omega
    ·have:y=b3:=by simpa using h1
     omega
   have hO4:Z2 w.heap.size RH (U4 (gi W.IE (k:Int)).IY) pb:=hO.mono nG.base;refine⟨λvs w'=>∃v:Int,vs=YC { gi W.IE (k:Int) with next:=v,IY:=U4 (gi W.IE (k:Int)).IY } (P5 (m2.ms k) pb)/\(∃j:Nat,v=(gi W.IE (k:Int)).next+(gi W.IE (k:Int)).period*(j:Int)/\(j=0\/v-(gi W.IE (k:Int)).period<=W.now+(N:Int)))/\0<=v/\Wk 8 ([x,x1]++[b2]++[b3]) w w' V m2/\Z2 w.heap.size w' (U4 (gi W.IE (k:Int)).IY) pb,λvs _=>(W.now+(N:Int)+1-Y5 6 vs).toNat,λSC mE hs7=>⟨(gi W.IE (k:Int)).next,by simp[YC,P5],⟨0,Qs,.inl rfl⟩,Qo,dT.step (mE.mono λy hy=>Ic _ hy),hO4.ext mE λy hy hm=>(hOb y hy).2 (Ic _ hm)⟩,?_⟩;rintro l0 a1 a2 a3 a4 a5 a6 a7 a8 a9 a10 C26 C25 C24 C29 C28 C27 C32 C31 C30 bN gX ⟨v,hv,hj,hv0,dE,hO5⟩;simp only[YC,Za,List.cons_append,List.nil_append,I6,Value.bool.injEq,I7,Value.string.injEq,Iy,true_and,and_true] at hv;obtain⟨rfl,rfl,rfl,rfl,rfl,rfl,rfl,rfl,rfl,rfl,rfl,⟨rfl,rfl,rfl⟩,⟨rfl,rfl,rfl⟩,rfl,rfl,rfl⟩:=hv;refine⟨λhle=>?_,λhgt=>?_⟩
   ·have hle:=Ot hle;refine⟨⟨Qo,Qo⟩,λU' rD hs8=>⟨⟨a6+(gi W.IE (k:Int)).period,rfl,?_,Qo,dE.step rD,hO5.ext rD λy hy=>(hOb y hy).2⟩,?_⟩⟩
    ·obtain⟨j,h1,_⟩:=hj;exact⟨j+1,by rw[h1];push_cast;rw[Int.mul_add,Int.mul_one,Int.add_assoc],.inr Qo⟩
    ·show (_-(a6+(gi W.IE (k:Int)).period)).toNat<(_-a6).toNat;omega
   ·have hgt:=Ou hgt;have hv6:a6=KI (gi W.IE (k:Int)).next (gi W.IE (k:Int)).period W.now N:=zse hp1 ⟨Qo,hj⟩ hJ;have tI:=zb1 dE.own dE.nb (i:=(k:Int)) Qo Qo (j:=0) (k:=14) Qd;rw[emg] at tI;refine⟨WJ,tI,⟨Qo,Qo⟩,λaM hx9 hs9=>Z4 Qo ⟨Qo,Oo m2 k (P5 (m2.ms k) pb),?_,by rw[hd2];rfl⟩⟩;rw[aU];have rK:=dE.gr (g:=(k:Int)) Qo Qo (G:=Xs W.now N (gi W.IE (k:Int))) (p:=pb) (j:=0) (vs:=YC (Xs W.now N (gi W.IE (k:Int))) (P5 (m2.ms k) pb)) (by rw[hP];exact hO5) hOb (by rw[eG];exact(Lh _ _ _).2.2.2.1) (by simp[YC]) (by simp[YC]);refine(rK.step (w':=aM) ?_).sub λy hy=>Ic _ (Ic _ hy)
    rw[hP,<-hv6,emg];exact hx9
 ·have RX:=Ou RX;rw[<-AB1 Qo] at hY l1 l2 l3 l4;have emt:m2.tO=m'.tO:=by rw[hd2]
  refine P0 W.IK.length 0 rfl (λt w2=>t<=12/\Wk 8 [x,x1] w w2 (TX (ZH W N) t) m2) (λw2 Ru _=>⟨Qd,hY.step Ru⟩) λt w2 gX ⟨Cm0,nG⟩=>?_
  obtain⟨q1,q2,q3,q4⟩:=zkg (ZH W N) t;have By8:TX (ZH W N) (t+1)=I' (TX (ZH W N) t) (t:Int) (zak (Q8 (TX (ZH W N) t) (t:Int))):=rfl;have By9:t=12->TX (ZH W N) 12=TX (ZH W N) t:=λe=>by rw[e]
  generalize hU:TX (ZH W N) t=U at nG q1 q2 q3 q4 By8 By9;have hr:=nG.rd;refine⟨λIX=>?_,λdA Sv AB5 A35=>?_⟩
  ·have IX:=Ot IX;have t1:(t:Int)<(U.IK.length:Int):=by rw[q4,l4];exact IX
   have WJ:Ix m'.tO W.IK.length (t:Int):=by have:=hr.t.ix QF (i:=(t:Int)) Qo t1;rwa[q4,l4,emt] at this
   have hcs:=hr.t (t:Int) Qo t1;rw[emt] at hcs;have tI:=zfy nG.own nG.nb (i:=(t:Int)) Qo t1 (j:=0) (k:=9) Qd;rw[emt] at tI;refine⟨WJ,_,_,_,_,_,_,_,_,_,hcs,λb4 hb4=>⟨_,J2,_,Eo,_,J2,WJ,tI,⟨Qo,Qo⟩,λSn Ay5 AL6=>Z4 Qo ⟨Qo,?_⟩⟩⟩;rw[By8];have SZ:=nG.own.AC1 (i:=(t:Int)) Qo t1 (j:=0) (vs:=Ys (zak (Q8 U (t:Int)))) (x:=zak (Q8 U (t:Int))) (by simp[Ys]) (by simp[Ys]);have dT:=nG.RN SZ LK;rw[emt] at dT;exact dT.step Ay5
  ·have dA:=Ou dA;rw[By9 Qo] at sd ⊢;have dT:=nG.step AB5;have RD:=Qu dT.own sd Qd Qd dT.base
   have e5:Qa U m2=[I (W.now+(N:Int)),.slice m'.cO W.IF.length m'.cC,.slice m'.tO W.IK.length m'.tC,.slice m'.gO W.IE.length m'.gC]:=by
    unfold Qa;rw[q2,q3,q4,q1,l1,l2,l3,l4,hd2]
   rw[e5] at RD;refine I5 RD ?_;rintro e2 RH ⟨m3,bS,Wc⟩;exact⟨_,_,_,_,_,_,_,_,_,_,bS,dT.kept Wc A35,λT' Bj9=>QM.ok hW hb ((dT.W9 Wc A35).step Bj9)⟩
section
variable {base pb:Nat}{w0 w':Wo}{m0 m':MW}
end
end
def VJ.same{W W':Q7}(p:VJ W)(ha:WA W')(ht:W'.IK=W.IK)(hc:W'.IF=W.IF)(hT:QY W.IE W'.IE)(hs:∀k c:Int,Qb W' k c=Qb W k c):VJ W':=by
 have est:∀k c:Int,UX W' k c↔UX W k c:=λk c=>by
  unfold UX;rw[hT.p,hs,hs]
 refine⟨⟨ha,λt t0 t1=>?_,λt t0 t1 n=>by rw[XR ht] at n ⊢;rw[hc];exact p.l t t0 t1 n,λk c hk c0 c1=>?_⟩,λc c0 c1=>?_⟩
 ·rw[XR ht];rcases p.t t t0 t1 with h|⟨h1,h2⟩
  ·exact .inl h
  ·exact .inr ⟨h1,h2.st,by rw[hT.dW];exact h2.g,h2.n,h2.m,h2.m0,h2.s,h2.u,h2.l1,h2.l2,λh=>by rw[hs];exact h2.f h⟩
 ·rw[hT.dW] at hk;rw[hc] at c1;exact(p.s k c hk c0 c1).Bg7 (hs _ _) λ_=>by rw[hT.p,hs]
 ·rw[hc] at c1;have h:=p.c c c0 c1;refine⟨by rw[hc];exact h.b,by rw[hc];exact h.i,by rw[hc];exact h.c1,by rw[hc];exact h.c2,by rw[hc];exact h.no,by rw[hc];exact h.yes,λh0 h1 h2=>?_⟩;rw[hc,XR ht] at *;obtain⟨q1,q2⟩:=h.q h0 h1 h2;refine⟨by rw[hs];exact q1,λy hy=>?_⟩;rw[VE hT] at hy;rw[est,hT.p,hs,hs];exact q2 y hy
def ztm{W W':Q7}(hT:QY W.IE W'.IE)(hm:∀i:Int,(gi W'.IE i).IF=(gi W.IE i).IF)(hu:Jb W'.IF=Jb W.IF)(g m:Int):Qv W' g m=Qv W g m:=by
 unfold Qv
 have hp:V7 W'.IE g (Jb W.IF)=V7 W.IE g (Jb W.IF):=by
  unfold V7;rw[show QV W'.IE g=QV W.IE g from hT.path 3 g]
  congr 1
  funext s x
  rw[hm]
 rw[hu,hp]
def Nx.same{W W':Q7}(h:Nx W)(ht:W'.IK=W.IK)(hT:QY W.IE W'.IE)(hm:∀i:Int,(gi W'.IE i).IF=(gi W.IE i).IF)(hu:Jb W'.IF=Jb W.IF):Nx W':=λt t0 t1 n=>by
 rw[XR ht] at n ⊢;rw[ztm hT hm hu];exact h t t0 t1 n
def zjp{W:Q7}{g:Int}{x:ZL}(s:x.IH=(gi W.IE g).IH)(k c:Int):Qb (Rw W g x) k c=Qb W k c:=by
 unfold Qb;rw[show (gi (Rw W g x).IE k).IH=(gi W.IE k).IH from YF (f:=ZL.IH) _ _ s k]
def zr7{W:Q7}{g q p:Int}(hW:QH W)(hb:zgy W g q p=0):J4 (zsq W g q p):=by
 have wp:=Qm.1 hW;obtain⟨hu,hz,_,_,sw,sw2⟩:=zph hW hb;obtain⟨u0,u1,_⟩:=Q5.1 hu;have h:=zey (W:=W) (g:=g) (q:=q) (p:=p);have hT:=Jh (W:=W) (x:=PF W g q p) u0 u1 h.1 h.2.1 h.2.2.1;exact Zo sw2 Qd Qd ((Xe wp).same sw2.a rfl rfl hT (zjp h.2.2.2.1)) ((Ue wp).same rfl hT (λi=>YF (f:=ZL.IF) _ _ h.2.2.2.2.2.1 i) rfl)
def zo5{W:Q7}{n:Int}(hW:QH W)(hb:MV W n=0):J4 (zdg W n):=by
 have wp:=Qm.1 hW;obtain⟨_,_,sw,_,sp,sd⟩:=zlo hW hb;have cN:=wp.a.gl;obtain⟨l1,l2,l3,l4⟩:=Tk W n.toNat 8;have hT:QY W.IE (ZH W n.toNat).IE:=GT W n.toNat 8 Qo
 have key:∀i:Int,(gi (ZH W n.toNat).IE i).IH=(gi W.IE i).IH/\(gi (ZH W n.toNat).IE i).IF=(gi W.IE i).IF:=λi=>by
  have hu:=Lh W.now n.toNat (gi W.IE ((i.toNat:Nat):Int));have e:=M7 W n.toNat 8 Qo ((i.toNat:Nat):Int) Qo;rw[Aq (ZH W n.toNat).IE i,Aq W.IE i];unfold ZH;rw[e];split
  ·exact⟨hu.2.2.2.1,hu.2.2.2.2.2.1⟩
  ·exact⟨rfl,rfl⟩
 have p1:VJ (ZH W n.toNat):=(Xe wp).same sp.a l4 l3 hT λk c=>by unfold Qb;rw[(key k).1]
 have q1:Nx (ZH W n.toNat):=(Ue wp).same l4 hT (λi=>(key i).2) (by rw[show (ZH W n.toNat).IF=W.IF from l3])
 have all:∀k:Nat,k<=12->VJ (TX (ZH W n.toNat) k)/\Nx (TX (ZH W n.toNat) k):=by
  intro k
  induction k with
  |zero=>exact λ_=>⟨p1,q1⟩
  |succ k ih=>
   intro hk;obtain⟨a,b⟩:=ih Qo;show VJ (I' (TX (ZH W n.toNat) k) (k:Int) (zak (Q8 (TX (ZH W n.toNat) k) (k:Int))))/\Nx (I' (TX (ZH W n.toNat) k) (k:Int) (zak (Q8 (TX (ZH W n.toNat) k) (k:Int))));generalize TX (ZH W n.toNat) k=V at a b
   by_cases hs:(Q8 V (k:Int)).state=0
   ·have hz:Q8 V (k:Int)=VI:=by
     rcases a.t (k:Int) Qo Qo with h|h
     ·exact h.2
     ·exact It hs h.1
    rw[hz];have hd:zak VI=VI:=Qd;rw[hd];exact⟨a.I' Qo Qo (.inl ⟨rfl,rfl⟩) λc _ _ _ h _=>(by cases h),b.I' a.a Qo Qo λh=>It rfl h⟩
   ·have h:=Tw a (t:=(k:Int)) Qo Qo hs;have hlo:=a.l (k:Int) Qo Qo hs
    have hld:0<=(zak (Q8 V (k:Int))).load/\(zak (Q8 V (k:Int))).load<=8000000:=by
     have h1:=h.l1;have h2:=h.l2;have h3:=Y2.1 h.u
     have ht:0<=Int.tdiv (Q8 V (k:Int)).load 8/\Int.tdiv (Q8 V (k:Int)).load 8<=(Q8 V (k:Int)).load:=by
      rw[Int.tdiv_eq_ediv_of_nonneg h1];omega
     show 0<=Y1 (Hy (Q8 V (k:Int)).load (Y1 (Q8 V (k:Int)).IW 1000000)) 8000000/\Y1 (Hy (Q8 V (k:Int)).load (Y1 (Q8 V (k:Int)).IW 1000000)) 8000000<=8000000;have hm:0<=Y1 (Q8 V (k:Int)).IW 1000000:=by unfold Y1;split <;> omega
     have hbt:0<=Hy (Q8 V (k:Int)).load (Y1 (Q8 V (k:Int)).IW 1000000):=by unfold Hy;split <;> omega
     generalize Hy (Q8 V (k:Int)).load (Y1 (Q8 V (k:Int)).IW 1000000)=y at hbt;unfold Y1
     split <;> omega
    refine⟨a.I' Qo Qo (.inr ⟨hs,⟨h.st,h.g,h.n,h.m,h.m0,h.s,by show ZD 0=true;decide,hld.1,hld.2,h.f⟩,hlo⟩) λc c0 c1 rA h1 h2=>?_,b.I' a.a Qo Qo λ_=>b (k:Int) Qo Qo hs⟩;have hc:=(a.c c c0 c1).q (by rw[rA];omega);rw[rA] at hc;exact hc h1 h2
 obtain⟨p2,q2⟩:=all 12 (I9 _);exact Zo sd Qd Qd p2 q2
def Cv{W:Q7}(p:VJ W){t g c:Int}(t0:0<=t)(t1:t<12)(n:(Q8 W t).state≠0)(hg:Q6 W.IE g)(c0:0<=c)(c1:c<(W.IF.length:Int)):VJ (UU W t g c):=by
 have h:=Tw p t0 t1 n
 have hT:H9 W (PH W t g c):=⟨h.st,hg,h.n,h.m,h.m0,h.s,h.u,h.l1,h.l2,λ_=>by
  have:=ZX ((Q8 W t).v-(Qb W (Q8 W t).II (Q8 W t).R8).IL) (Qe (Q8 W t).nice);show (Qb W g c).IL<=(Qb W g c).IL+Ey W t/\(Qb W g c).IL+Ey W t-(Qb W g c).IL<=Zs (Qe (Q8 W t).nice);unfold Ey;exact⟨Qo,Qo⟩⟩
 unfold UU;split
 ·exact Nn p t0 t1 n hT rfl c0 c1
 ·rename_i hs;exact p.I' t0 t1 (.inr ⟨n,hT,c0,c1⟩) λd _ _ _ h _=>It h hs
def Nt(W:Q7)(t g c:Int):VM W (UU W t g c):=by
 unfold UU;split
 ·exact(zjt _ _ _).trans (Lm _ _)
 ·exact zjt _ _ _
def zjh{W:Q7}(hl:W.IK.length=12){t g c:Int}(t0:0<=t)(t1:t<12){i:Int}(i0:0<=i):Q8 (UU W t g c) i=if t=i then PH W t g c else Q8 W i:=by
 have e:Q8 (I' W t (PH W t g c)) i=if t=i then PH W t g c else Q8 W i:=QD _ _ t0 Qo i0;unfold UU;split
 ·exact e
 ·exact e
def zld{W:Q7}(p:VJ W):∀k:Nat,k<=12->VJ (JP W k)/\VM W (JP W k)/\(∀t:Int,0<=t->t<(k:Int)->(Q8 (JP W k) t).state≠0->Zb (Qv (JP W k) (Q8 (JP W k) t).II (Q8 (JP W k) t).mask) (Q8 (JP W k) t).R8)
 |0,_=>⟨p,VM.refl _,λt a b=>by omega⟩
 |k+1,hk=>by
  obtain⟨a,b,d⟩:=zld p k Qo;simp only[JP];generalize JP W k=V at a b d;have hl:=a.a.t;split
  ·rename_i hm;unfold KG at hm;simp only[A',Iv,ne_eq] at hm;have h:=Tw a (t:=(k:Int)) Qo Qo hm.1;have hf:=Lr a.a (Q8 V (k:Int)).II (Q8 V (k:Int)).mask;have hw:=L4 a.a (Q8 V (k:Int)).II (Q8 V (k:Int)).mask;refine⟨Cv a Qo Qo hm.1 h.g hf.1 hf.2,b.trans (Nt _ _ _ _),λt t0 t1 n=>?_⟩;rw[(Nt V _ _ _).wh];rw[zjh hl Qo Qo t0] at n ⊢
   split at n
   ·rename_i he;rw[H' he];exact D1 hw.1 hw.2
   ·rename_i he;rw[E' he];exact d t t0 Qo n
  ·rename_i hm;refine⟨a,b,λt t0 t1 n=>?_⟩
   by_cases he:t=(k:Int)
   ·subst he;have hm:KG V (k:Int)=false:=by simpa using hm
    unfold KG at hm;rw[show ((Q8 V (k:Int)).state != 0)=true by simpa using n,Bool.true_and] at hm
    simpa using hm
   ·exact d t t0 Qo n
def Nr{W:Q7}(sf:SF Qt (Qt+Qp) W)(p:VJ W):J4 (Qh (LJ W)):=by
 obtain⟨a,b,d⟩:=zld p 12 (I9 _);exact Zo (Lk sf (I4 _)).1.w (by simp only[Qp];decide) (by simp only[Qp,UW];decide) a d
def zsb{W:Q7}{t x:Int}(hW:QH W)(hb:GV W t x=0):J4 (zqa W t x):=by
 have wp:=Qm.1 hW;obtain⟨h1,_,sf⟩:=zqb hW hb;obtain⟨t0,t1,tn⟩:=YK h1;have hl:=wp.a.t;have p:=Xe wp;have h:=Tw p t0 Qo tn
 have hx:Om x/\x≠0:=by
  unfold GV at hb
  split at hb
  ·cases hb
  ·rename_i hn;exact⟨by cases hm:Om x with|true=>rfl|false=>exact It (.inl hm) hn,λe=>hn (.inr e)⟩
 refine Nr sf (p.I' t0 Qo (.inr ⟨tn,⟨h.st,h.g,h.n,hx.1,hx.2,h.s,h.u,h.l1,h.l2,h.f⟩,p.l t t0 Qo tn⟩) λc c0 c1 rA h1 h2=>?_);have hc:=(p.c c c0 c1).q (by rw[rA];omega);rw[rA] at hc;exact hc h1 h2
def zr6{W:Q7}{g x:Int}(hW:QH W)(hb:zgm W g x=0):J4 (zou W g x):=by
 have wp:=Qm.1 hW;obtain⟨hu,_,_,sf,hT⟩:=zov hW hb;exact Nr sf ((Xe wp).same sf.w.a rfl rfl hT (zjp rfl))
def H9.gr{W W':Q7}{x:Pv}(h:H9 W x)(e:W'.IE=W.IE):H9 W' x:=
 ⟨h.st,by rw[e];exact h.g,h.n,h.m,h.m0,h.s,h.u,h.l1,h.l2,λhs=>by unfold Qb;rw[e];exact h.f hs⟩
def zuq{W:Q7}{c:Int}(hW:QH W)(hb:UF W c false 0=0):J4 (zv6 W c):=by
 have wp:=Qm.1 hW;obtain⟨c0,c1,_,sf⟩:=ztx hW hb;have p:=Xe wp;refine Nr sf ⟨⟨sf.w.a,λt t0 t1=>(p.t t t0 t1).imp id λh=>⟨h.1,h.2.gr rfl⟩,λt t0 t1 n=>?_,λk d hk d0 d1=>?_⟩,λd d0 d1=>?_⟩
 ·have:=p.l t t0 t1 n;show _/\_<(((W.IF.set c.toNat _).length:Nat):Int);rw[I0];exact this
 ·have d1:d<(((W.IF.set c.toNat (MZ (gi W.IF c) true)).length:Nat):Int):=d1;rw[I0] at d1;exact(p.s k d hk d0 d1).Bg7 rfl λ_=>rfl
 ·have d1:d<(((W.IF.set c.toNat (MZ (gi W.IF c) true)).length:Nat):Int):=d1;rw[I0] at d1;have h:=p.c d d0 d1;have e:gi (S8 W c (MZ (gi W.IF c) true)).IF d=if c=d then MZ (gi W.IF c) true else gi W.IF d:=QD _ _ c0 c1 d0
  have eb:(gi (S8 W c (MZ (gi W.IF c) true)).IF d).cur=(gi W.IF d).cur/\(gi (S8 W c (MZ (gi W.IF c) true)).IF d).WC=(gi W.IF d).WC/\(gi (S8 W c (MZ (gi W.IF c) true)).IF d).busy=(gi W.IF d).busy/\(gi (S8 W c (MZ (gi W.IF c) true)).IF d).idle=(gi W.IF d).idle/\((gi W.IF d).up->(gi (S8 W c (MZ (gi W.IF c) true)).IF d).up):=by
   rw[e];split
   ·rename_i he;subst he;exact⟨rfl,rfl,rfl,rfl,λ_=>rfl⟩
   ·exact⟨rfl,rfl,rfl,rfl,id⟩
  obtain⟨e1,e2,e3,e4,e5⟩:=eb;refine⟨by rw[e3];exact h.b,by rw[e4];exact h.i,by rw[e1];exact h.c1,by rw[e1];exact h.c2,by rw[e1,e2];exact h.no,λh0=>?_,?_⟩
  ·rw[e1] at h0;have:=h.yes h0;exact⟨e5 this.1,by rw[e2];exact this.2⟩
  ·rw[e1,e2];exact h.q
def zsa{W:Q7}{c:Int}(hW:QH W)(hb:UF W c true (KK W)=0):J4 (zpz W c):=by
 have wp:=Qm.1 hW;obtain⟨c0,c1,_,sf⟩:=zp0 hW hb;have p:=Xe wp;have hl:(S8 W c (MZ (gi W.IF c) false)).IF.length=W.IF.length:=I0;have sfE:=sf.RG c0 (by rw[hl];exact c1)
 have hcs:RG (S8 W c (MZ (gi W.IF c) false)) c=S8 W c (XB (MZ (gi W.IF c) false)):=by
  have e:gi (S8 W c (MZ (gi W.IF c) false)).IF c=MZ (gi W.IF c) false:=(QD _ _ c0 c1 c0).trans (H' rfl);unfold RG;rw[e];simp[S8,List.set_set]
 show J4 (Qh (LJ (RG (S8 W c (MZ (gi W.IF c) false)) c)));rw[hcs] at sfE ⊢;refine Nr sfE ⟨⟨sfE.w.a,λt t0 t1=>(p.t t t0 t1).imp id λh=>⟨h.1,h.2.gr rfl⟩,λt t0 t1 n=>?_,λk d hk d0 d1=>?_⟩,λd d0 d1=>?_⟩
 ·have:=p.l t t0 t1 n;show _/\_<(((W.IF.set c.toNat _).length:Nat):Int);rw[I0];exact this
 ·have d1:d<(((W.IF.set c.toNat (XB (MZ (gi W.IF c) false))).length:Nat):Int):=d1;rw[I0] at d1;exact(p.s k d hk d0 d1).Bg7 rfl λ_=>rfl
 ·have d1:d<(((W.IF.set c.toNat (XB (MZ (gi W.IF c) false))).length:Nat):Int):=d1;rw[I0] at d1;have h:=p.c d d0 d1;have e:gi (S8 W c (XB (MZ (gi W.IF c) false))).IF d=if c=d then XB (MZ (gi W.IF c) false) else gi W.IF d:=QD _ _ c0 c1 d0
  by_cases he:c=d
  ·subst he;have e:=e.trans (H' rfl);refine⟨by rw[e];exact h.b,by rw[e];exact h.i,by rw[e];show (-1:Int)<=-1;decide,by rw[e];show (-1:Int)<12;decide,λ_=>by rw[e];rfl,λh0=>?_,λh0=>?_⟩
   ·rw[e] at h0;have h0:(0:Int)<=-1:=h0;omega
   ·rw[e] at h0;have h0:(0:Int)<=-1:=h0;omega
  ·have e:=e.trans (E' he);exact⟨by rw[e];exact h.b,by rw[e];exact h.i,by rw[e];exact h.c1,by rw[e];exact h.c2,by rw[e];exact h.no,by rw[e];exact h.yes,by rw[e];exact h.q⟩
def CP(W:Q7)(g c x:Int):MK:={ Qb W g c with v:=if (Qb W g c).on=true then (Qb W (gi W.IE g).IG c).IL+Xc ((Qb W g c).v-(Qb W (gi W.IE g).IG c).IL) x else (Qb W g c).v,w:=x }
def zfu(W:Q7)(g c:Int):Bool:=decide ((gi W.IF c).cur>=0)&&VQ 3 W.IE g (Q8 W (gi W.IF c).cur).II
def JC(W:Q7)(g c x:Int):Q7:=RR W g c (CP W g c x)
def MI(W:Q7)(g c x:Int):Q7:=if (Qb W g c).w=x then W else if zfu (JC W g c x) g c then RG (JC W g c x) c else JC W g c x
def Gc(W:Q7):Prop:=∀c:Int,0<=c->c<(W.IF.length:Int)->(gi W.IF c).cur>=0->Q6 W.IE (Q8 W (gi W.IF c).cur).II=true
def zkf{W:Q7}(wp:Xw W):Gc W:=λc c0 c1 h=>by
 have hc:=wp.c c c0 c1;have hy:=hc.yes h;have hl:=hy.2.2.2.2.1;have c2:=hc.c2;have ht:=wp.a.t;unfold Zi at hl;simp only[A',Iu] at hl;rcases wp.t (gi W.IF c).cur h Qo with h1|h1
 ·rw[h1.1] at hl;exact It hl.1 Qd
 ·exact h1.2.g
def Gc.RR{W:Q7}(h:Gc W){g c:Int}{s:MK}(u0:0<=g)(u1:g<(W.IE.length:Int)):Gc (RR W g c s):=λd d0 d1 hc=>by
 rw[(Xu u0 u1).dW];exact h d d0 d1 hc
def Gc.RG{W:Q7}(h:Gc W){c:Int}(c0:0<=c)(c1:c<(W.IF.length:Int)):Gc (RG W c):=λd d0 d1 hc=>by
 have d1:d<(((W.IF.set c.toNat (XB (gi W.IF c))).length:Nat):Int):=d1;rw[I0] at d1;have hg:gi (YtjinkcmkgnofjaaGreat.RG W c).IF d=if c=d then XB (gi W.IF c) else gi W.IF d:=QD _ _ c0 c1 d0;rw[hg] at hc ⊢
 split at hc
 ·exact It hc (by show ¬(-1:Int)>=0;decide)
 ·rename_i hn;rw[E' hn];exact h d d0 d1 hc
def ztl{F K:Int}{W:Q7}(h:SF F K W)(hk:F+Qp<=K){g c x:Int}(hu:Q6 W.IE g)(hz:g≠0)(c0:0<=c)(c1:c<(W.IF.length:Int))(x1:1<=x)(x2:x<=20):SF F K (JC W g c x):=by
 have hp:=h.w.a.up hu hz;have s1:=h.w.s g c hu c0 c1;have s2:=h.w.s _ c hp c0 c1;have f1:=h.f g c hu c0 c1;have f2:=h.f _ c hp c0 c1;have lc:=ZX ((Qb W g c).v-(Qb W (gi W.IE g).IG c).IL) x;have lm:=ZV x;refine h.RR hu c0 c1 s1.1 f1 (by show (Qb W g c).IL<=K;omega) ?_ ?_ x1 x2
 ·simp only[CP];split <;> omega
 ·simp only[CP];simp only[Qp] at hk;split <;> omega
def zlt{F K:Int}{W:Q7}(h:SF F K W)(hk:F+Qp<=K)(hc:Gc W){g c x:Int}(hu:Q6 W.IE g)(hz:g≠0)(c0:0<=c)(c1:c<(W.IF.length:Int))(x1:1<=x)(x2:x<=20):SF F K (MI W g c x)/\Fr W (MI W g c x)/\Gc (MI W g c x):=by
 obtain⟨u0,u1,_⟩:=Q5.1 hu;have hv:=ztl h hk hu hz c0 c1 x1 x2;have hf:Fr W (JC W g c x):=(M5 u0 u1).fr;have hc2:Gc (JC W g c x):=hc.RR u0 u1;unfold MI;split
 ·exact⟨h,Fr.refl _,hc⟩
 ·split
  ·exact⟨hv.RG c0 c1,hf.trans (Ap _ _),hc2.RG c0 c1⟩
  ·exact⟨hv,hf,hc2⟩
def L2(W:Q7)(g x:Int):Nat->Q7
 |0=>W
 |c+1=>MI (L2 W g x c) g (c:Int) x
def zfv{F K:Int}{W:Q7}(h:SF F K W)(hk:F+Qp<=K)(hc:Gc W){g x:Int}(hu:Q6 W.IE g)(hz:g≠0)(x1:1<=x)(x2:x<=20):∀c:Nat,c<=W.IF.length->SF F K (L2 W g x c)/\Fr W (L2 W g x c)/\Gc (L2 W g x c)
 |0,_=>⟨h,Fr.refl _,hc⟩
 |c+1,hn=>by
  obtain⟨a,b,d⟩:=zfv h hk hc hu hz x1 x2 c Qo;obtain⟨a2,b2,d2⟩:=zlt a hk d (g:=g) (c:=(c:Int)) (x:=x) (by rw[b.g.dW];exact hu) hz Qo (by rw[b.c];omega) x1 x2;exact⟨a2,b.trans b2,d2⟩
def Me(W:Q7)(g x:Int):ZL:={ gi W.IE g with R2:=x }
noncomputable def zh7(W:Q7)(g x:Int):Int:=PA W g (Yp x 1 20)
def zq4(W:Q7)(g x:Int):Q7:=Qh (L2 (Rw W g (Me W g x)) g x W.IF.length)
def zq5{W:Q7}{g x:Int}(hW:QH W)(hb:zh7 W g x=0):Yp x 1 20/\g≠0/\Q6 W.IE g/\QO W/\SF Qt (Qt+Qp) W/\SF Qt (Qt+Qp) (Rw W g (Me W g x))/\Gc (Rw W g (Me W g x))/\QY W.IE (Rw W g (Me W g x)).IE:=by
 obtain⟨h1,h2,h3,h4⟩:=zet hb;have wp:=Qm.1 hW;have sw:=P8 wp (Qm.1 h4);obtain⟨u0,u1,hg⟩:=wp.a.u h3;have hx:=Qr.1 h1;have hl:=wp.a.gl;have s1:=sw.Rw (x:=Me W g x) h3 rfl rfl rfl rfl ⟨hx.1,hx.2,hg.m,hg.m0,hg.s,hg.len,λh=>It h h2,hg.none,hg.IY⟩;have hT:QY W.IE (Rw W g (Me W g x)).IE:=Jh u0 Qo rfl rfl rfl;refine⟨h1,h2,h3,h4,sw.sf.mono (I4 _) (by simp only[Qp];decide),s1.sf.mono (I4 _) (by simp only[Qp];decide),λd d0 d1 hc=>?_,hT⟩;rw[hT.dW];exact zkf wp d d0 d1 hc
def zq1{gs:List ZL}(ht:ZZ gs){g h:Int}(u1:Q6 gs g)(u2:Q6 gs h):Oc gs g h=VQ 3 gs g h:=by
 unfold Oc;rw[u1,u2,show Po gs=true from @Ij _ (Classical.propDecidable _) ht];rfl
section
variable {base:Nat}{W W':Q7}{m:MW}{w:Wo}{jG:Int}
def M0{F K:Int}(h:Yn 8 base w W m)(pR:SF F K W)(hk:F+Qp<=K)(hK:K<=1000000000000000000)(hcu:Gc W){g c x:Int}(hu:Q6 W.IE g)(hz:g≠0)(c0:0<=c)(c1:c<(W.IF.length:Int)) :
  Cz Js #[.agg (Qa W m).toArray,I g,I c,I x] w λe w'=>e=.returned (.agg (Qa W m).toArray)/\Mv 8 base [] w m w' (MI W g c x) m:=by
 refine(E9 _ _ _ _ _ _ _ _ _ _ g c x (R:=λv w'=>v=.agg (Qa W m).toArray/\Mv 8 base [] w m w' (MI W g c x) m) ?_).mono λe w' ⟨v,he,hv,h3⟩=>⟨by rw[he,hv],h3⟩
 intro y hy y1 eR;obtain⟨u0,u1,_⟩:=Q5.1 hu;have cN:=pR.w.a.gl;have lB:=pR.w.a.t;have hsl:=pR.w.a.sl hu;have hp:=pR.w.a.up hu hz;obtain⟨p0,p1,_⟩:=Q5.1 hp;have hpl:=pR.w.a.sl hp;have s1:=pR.w.s g c hu c0 c1;have s2:=pR.w.s _ c hp c0 c1;have lc:=ZX ((Qb W g c).v-(Qb W (gi W.IE g).IG c).IL) x;have lm:=ZV x;have hM:=Mv.two h hy eR;have hr:=(Mv.start h).rd;have WJ:=hr.g.ix (i:=g) u0 u1;have AG3:=(hr.g.IH g u0 u1).ix Zz c0 Qo;have hcx:=hr.c.ix Zy c0 c1;have tI:=zt0 h Qs (i:=g) (bs:=[]) u0 Qo c0 Qo (j:=0) (k:=5) Qd;have hcr:=pR.w.cu c c0 c1;have kX:decide ((gi W.IF c).cur>=0)->(gi W.IF c).cur<(W.IK.length:Int):=λ_=>by omega
 have hT:QY W.IE (JC W g c x).IE:=Xu u0 u1
 have hE:(decide ((gi W.IF c).cur>=0)&&Oc (JC W g c x).IE g (gi W.IK (gi W.IF c).cur).II)=zfu (JC W g c x) g c:=by
  unfold zfu;show _=(decide ((gi W.IF c).cur>=0)&&VQ 3 (JC W g c x).IE g (Q8 W (gi W.IF c).cur).II)
  by_cases hc:(gi W.IF c).cur>=0
  ·rw[zq1 (hT.tree pR.w.a.tree) (by rw[hT.dW];exact hu) (by rw[hT.dW];exact hcu c c0 c1 hc)];rfl
  ·rw[decide_eq_false hc];rfl
 have hlen:(JC W g c x).IE.length=W.IE.length:=hT.len;have yR:Fr W (JC W g c x):=(M5 u0 u1).fr;have eW:Qa (JC W g c x) m=Qa W m:=Oh yR;have eE:Qa (RG (JC W g c x) c) m=Qa W m:=Oh (yR.trans (Ap _ _));refine⟨WJ,_,_,_,hr.g.RY u0 u1,AG3,_,_,_,_,_,(hr.g.IH g u0 u1) c c0 Qo,λb2 cA=>⟨λg1 wr hx=>⟨rfl,?_⟩,λg1=>⟨λg2=>?_,λg2=>?_⟩⟩⟩
 ·have g1:(Qb W g c).w=x:=IA g1;unfold MI;rw[H' g1];exact(Mv.start h).RJ hx
 ·have hss:CP W g c x=⟨(Qb W g c).IL,(Qb W g c).on,(Qb W (gi W.IE g).IG c).IL+Xc ((Qb W g c).v-(Qb W (gi W.IE g).IG c).IL) x,x,(Qb W g c).sum⟩:=by
   unfold CP;rw[H' (show (Qb W g c).on=true from g2)]
  have SZ:=AN pR h hk hu rfl c0 c1 (CP W g c x);rw[hss] at SZ;have dS:=((hM.add cA).W9 SZ (N9 Qo));have hV:RR W g c ⟨(Qb W g c).IL,(Qb W g c).on,(Qb W (gi W.IE g).IG c).IL+Xc ((Qb W g c).v-(Qb W (gi W.IE g).IG c).IL) x,x,(Qb W g c).sum⟩=JC W g c x:=by unfold JC;rw[hss]
  rw[hV] at dS;have sU:=dS.rd;have B54:=dS.close;have bH:=B54.rd;refine⟨WJ,_,hr.g.IG u0 u1,hr.g.ix p0 p1,_,_,_,hr.g.RY p0 p1,(hr.g.IH _ p0 p1).ix Zz c0 Qo,_,zia.f (hr.g.IH _ p0 p1) c0 Qo (j:=0) rfl,⟨by show _<=(Qb W g c).v-(Qb W (gi W.IE g).IG c).IL;omega,by show (Qb W g c).v-(Qb W (gi W.IE g).IG c).IL<=_;omega⟩,_,PE,⟨by show _<=(Qb W (gi W.IE g).IG c).IL+Xc ((Qb W g c).v-(Qb W (gi W.IE g).IG c).IL) x;omega,by show (Qb W (gi W.IE g).IG c).IL+Xc ((Qb W g c).v-(Qb W (gi W.IE g).IG c).IL) x<=_;omega⟩,WJ,_,_,_,hr.g.RY u0 u1,AG3,tI,hcx,(gi W.IF c).cur,?_⟩;refine⟨zvs.f bH.c c0 c1 (j:=1) rfl,λgc=>bH.t.ix QF (Ot gc) (kX gc),_,λgc=>zq9.f bH.t (Ot gc) (kX gc) (j:=1) rfl,_,λgc=>by rw[<-hlen];exact Th bH.g (by have:=Zp;omega),λgc Ra Ru kO=>?_,λgc RL Ru=>?_⟩
  ·have he:zfu (JC W g c x) g c:=by rw[<-hE];exact gc
   have hM3:=dS.step (Ru.of_nil);have RD:=Zr hM3.own c0 c1;rw[eW,eE] at RD;refine I5 RD ?_;rintro e wv ⟨mJ,Wc⟩;refine⟨_,_,_,_,_,_,_,_,_,_,mJ,hM3.kept Wc kO,λRg X'=>⟨rfl,?_⟩⟩;unfold MI;rw[E' (show ¬(Qb W g c).w=x from ne_of_beq_false g1),H' he];exact((hM3.call Wc kO).step X').close
  ·have he:zfu (JC W g c x) g c=false:=by rw[<-hE];exact gc
   refine⟨rfl,?_⟩;unfold MI;rw[E' (show ¬(Qb W g c).w=x from ne_of_beq_false g1),E' (by rw[he];decide)];exact(dS.step Ru.of_nil).close
 ·have hss:CP W g c x=⟨(Qb W g c).IL,(Qb W g c).on,(Qb W g c).v,x,(Qb W g c).sum⟩:=by
   unfold CP;rw[E' (by rw[show (Qb W g c).on=false from g2];decide)]
  have SZ:=AN pR h hk hu rfl c0 c1 (CP W g c x);rw[hss] at SZ;have dS:=((hM.add cA).W9 SZ (N9 Qo));have hV:RR W g c ⟨(Qb W g c).IL,(Qb W g c).on,(Qb W g c).v,x,(Qb W g c).sum⟩=JC W g c x:=by unfold JC;rw[hss]
  rw[hV] at dS;have sU:=dS.rd;have B54:=dS.close;have bH:=B54.rd;refine⟨WJ,_,_,_,hr.g.RY u0 u1,AG3,tI,hcx,(gi W.IF c).cur,?_⟩;refine⟨zvs.f bH.c c0 c1 (j:=1) rfl,λgc=>bH.t.ix QF (Ot gc) (kX gc),_,λgc=>zq9.f bH.t (Ot gc) (kX gc) (j:=1) rfl,_,λgc=>by rw[<-hlen];exact Th bH.g (by have:=Zp;omega),λgc Ra Ru kO=>?_,λgc RL Ru=>?_⟩
  ·have he:zfu (JC W g c x) g c:=by rw[<-hE];exact gc
   have hM3:=dS.step (Ru.of_nil);have RD:=Zr hM3.own c0 c1;rw[eW,eE] at RD;refine I5 RD ?_;rintro e wv ⟨mJ,Wc⟩;refine⟨_,_,_,_,_,_,_,_,_,_,mJ,hM3.kept Wc kO,λRg X'=>⟨rfl,?_⟩⟩;unfold MI;rw[E' (show ¬(Qb W g c).w=x from ne_of_beq_false g1),H' he];exact((hM3.call Wc kO).step X').close
  ·have he:zfu (JC W g c x) g c=false:=by rw[<-hE];exact gc
   refine⟨rfl,?_⟩;unfold MI;rw[E' (show ¬(Qb W g c).w=x from ne_of_beq_false g1),E' (by rw[he];decide)];exact(dS.step Ru.of_nil).close
def HT{g x:Int}(h:X0 [] w W m)(hl:Xk W) :
  Cz UN #[.agg (Qa W m).toArray,I g,I x] w λe w'=>∃v,e=.returned v/\QM (Xz W (zh7 W g x) (zq4 W g x)) w v w':=by
 refine HB _ _ _ _ _ _ _ _ _ _ g x (R:=λv w'=>QM (Xz W (zh7 W g x) (zq4 W g x)) w v w') ?_;intro y hy y1 eR;refine⟨_,Ja,λwr Rt Wg=>?_⟩;refine I5 (Uy (g:=g) (ok:=Yp x 1 20) (h.ext Rt) hl) ?_;rintro e wv (⟨hW,he,Wc⟩|⟨hW,m',he,hM,Wc⟩)
 ·exact⟨_,_,_,_,_,_,_,_,_,_,_,he,Qf Wc Wg,λ_ Ra Ru=>QM.bad hW ((Rt.trans Wc).fresh Ru λz hm=>.inl (Yz hy eR z hm)),λg=>by simp at g⟩
 have hK:=Wk.begin hy eR Rt Wg hM Wc;refine⟨_,_,_,_,_,_,_,_,_,_,_,he,Qf Wc Wg,λg1 Ra Ru=>QM.no hW (by simpa[zh7] using g1) (hK.step Ru) rfl,λg1=>?_⟩;have hb:zh7 W g x=0:=by simpa[zh7] using g1
 have hr:=hK.rd;obtain⟨Ci9,hz,hu,yY,_,sf,hcu,hT⟩:=zq5 hW hb;have hxr:=Qr.1 Ci9;obtain⟨u0,u1,_⟩:=Q5.1 hu;have cN:W.IE.length=8:=by have:=sf.w.a.gl;rwa[hT.len] at this
 have WJ:=hr.g.ix (i:=g) u0 u1;have SZ:Wk 8 [y,y1] w (RN wv m'.gO (Int.toNat g*14+3) [I x]) (Rw W g (Me W g x)) m':=hK.RN (hK.own.A84 u0 Qo (g:=Me W g x) rfl rfl rfl (j:=3) (vs:=[I x]) rfl Qs) F3;have tI:=zb1 hK.own hK.nb (i:=g) u0 Qo (j:=3) (k:=1) Qd;have e0:Qa (Rw W g (Me W g x)) m'=Qa W m':=by simp[Qa,Rw]
 have huV:Q6 (Rw W g (Me W g x)).IE g:=by rw[hT.dW];exact hu
 have rL:(Rw W g (Me W g x)).IF.length=W.IF.length:=rfl;have hE:zq4 W g x=Qh (L2 (Rw W g (Me W g x)) g x W.IF.length):=rfl;rw[hE];have hc4:=sf.w.a.c2;generalize Rw W g (Me W g x)=V at SZ sf hcu hT e0 huV rL hc4;refine⟨WJ,tI,λvs w1=>∃(k:Nat),vs=I (k:Int)::Qa W m'/\k<=W.IF.length/\Wk 8 [y,y1] w w1 (L2 V g x k) m',Zk W.IF.length 0,λw1 tJ _=>⟨0,rfl,Ig _,SZ.step tJ⟩,?_⟩;rintro c1 l Sd Sm Sr Sj So Sq Se Sf Sg RH kO ⟨k,bS,hk,hY⟩;obtain⟨hS,hf,hc2⟩:=zfv sf (I4 _) hcu huV hz hxr.1 hxr.2 k Qo;have aU:L2 V g x (k+1)=MI (L2 V g x k) g (k:Int) x:=rfl;have AB1:k=W.IF.length->L2 V g x W.IF.length=L2 V g x k:=λe=>by rw[e]
 have eU:Qa (L2 V g x k) m'=Qa W m':=(Oh hf).trans e0;have hcU:=hf.c;have huU:Q6 (L2 V g x k).IE g:=by rw[hf.g.dW];exact huV
 simp only[Qa,I6,I7,Iy,true_and,and_true] at bS;obtain⟨rfl,rfl,⟨rfl,rfl,rfl⟩,⟨rfl,rfl,rfl⟩,rfl,rfl,rfl⟩:=bS;generalize L2 V g x k=U at hY hS hf hc2 aU AB1 eU hcU huU;refine⟨λIX RL Ru gX=>?_,λRX S5 Wb kM=>?_⟩
 ·have IX:=Ot IX;have nG:=hY.step Ru;have RD:=M0 nG.own hS (I4 _) (by simp only[Qp];decide) hc2 (g:=g) (c:=(k:Int)) (x:=x) huU hz Qo Qo;rw[eU] at RD;refine I5 RD ?_;rintro e Sx ⟨jM,rN⟩;refine⟨_,_,_,_,_,_,_,_,_,_,jM,nG.kept rN gX,⟨Qo,Qo⟩,λRO X' _=>⟨⟨k+1,rfl,Qo,?_⟩,?_⟩⟩
  ·rw[aU];exact(nG.W9 rN gX).step X'
  ·simp only[Zk,J5,Y5,Ih];omega
 ·have RX:=Ou RX;rw[AB1 Qo];have dE:=hY.step Wb;have RD:=Qu dE.own hS.w (by simp only[Qp];decide) (by simp only[Qp];decide) dE.base;rw[eU] at RD;refine I5 RD ?_;rintro e2 RH ⟨m2,bS,Wc⟩;exact⟨_,_,_,_,_,_,_,_,_,_,bS,dE.kept Wc kM,λRO Wb=>QM.ok hW hb ((dE.W9 Wc kM).step Wb)⟩
section
variable {pb:Nat}
end
end
def zvz(W:Q7)(t b c:Int):Bool:=(Pm W c==0)||decide (Pm W c+Qe (Q8 W t).nice<=Pm W b-Qe (Q8 W t).nice)
def zb0(W:Q7)(b c:Int)(t:Nat):Bool:=(((Q8 W (t:Int)).R8==b)&&Ua W (t:Int) c)&&zvz W (t:Int) b c
def TH(W:Q7)(b c:Int):Nat->Nat->Int
 |0,_ => -1
 |f+1,j=>if zb0 W b c j=true then (j:Int) else TH W b c f (j+1)
def zma{W:Q7}{b c:Int}{f j:Nat}(h:zb0 W b c j):TH W b c (f+1) j=(j:Int):=H' h
def zis{W:Q7}{b c:Int}{f j:Nat}(h:zb0 W b c j=false):TH W b c (f+1) j=TH W b c f (j+1):=E' (by rw[h];decide)
noncomputable def zha(W:Q7)(c:Int):Nat->Nat->Int
 |0,_ => -1
 |f+1,k=>if TE W c (k:Int)<0 then zha W c f (k+1) else if TH W (TE W c (k:Int)) c 12 0<0 then zha W c f (k+1) else TH W (TE W c (k:Int)) c 12 0
noncomputable def M9(W:Q7)(c:Int):Int:=zha W c (Nl (W.IF.length:Int)).toNat 0
def zhc{W:Q7}{c:Int}{f k:Nat}(h:TE W c (k:Int)<0):zha W c (f+1) k=zha W c f (k+1):=H' h
def zhb{W:Q7}{c:Int}{f k:Nat}(h:TH W (TE W c (k:Int)) c 12 0<0):zha W c (f+1) k=zha W c f (k+1):=by
 simp only[zha]
 by_cases h0:TE W c (k:Int)<0
 ·rw[H' h0]
 ·rw[E' h0,H' h]
def zhd{W:Q7}{c:Int}{f k:Nat}(h0:¬TE W c (k:Int)<0)(h:¬TH W (TE W c (k:Int)) c 12 0<0):zha W c (f+1) k=TH W (TE W c (k:Int)) c 12 0:=by
 simp only[zha];rw[E' h0,E' h]
def AQ{W:Q7}(wp:Xw W)(c:Int):0<=Pm W c/\Pm W c<=240:=by
 have:=UY (Fm W c) W.IK.length;have ht:=wp.a.t;unfold Pm;omega
section
variable {W:Q7}{m:MW}{w:Wo}{bs:List Nat}{p:OA}
def AH{t b c:Int}(h:X0 bs w W m)(wp:Xw W)(t0:0<=t)(t1:t<(W.IK.length:Int)):PX bs O3 #[.agg (Qa W m).toArray,I t,I b,I c] w (.bool (zvz W t b c)):=
 Ch _ _ _ _ _ _ _ _ _ _ t b c λwr hx=>by
  have h:=(h.ext hx).less (cs:=[]) Qs;have r1:=AQ wp c;have r2:=AQ wp b;have r3:0<=Qe (gi W.IK t).nice/\Qe (gi W.IK t).nice<=20:=XS _;exact λ_ _=>⟨_,JK h wp,h.t.ix QF t0 t1,_,h.t.f t0 t1 (j:=3) rfl,_,ZG,λ_=>⟨Qo,Qo⟩,_,λ_=>JK h wp,λ_=>⟨Qo,Qo⟩,rfl⟩
def AI{c:Int}(h:X0 bs w W m)(wp:Xw W)(c0:0<=c)(c1:c<(W.IF.length:Int)):PX bs O4 #[.agg (Qa W m).toArray,I c] w (I (M9 W c)):=
 Cj _ _ _ _ _ _ _ _ _ _ c λwr hx=>by
  have h:=(h.ext hx).less (cs:=[]) Qs;have hlv:=zkx (W.IF.length:Int);have lB:=wp.a.t;intro _ _;refine Xr 2 0 rfl (λk=>(k:Int)<=Nl (W.IF.length:Int)/\zha W c ((Nl (W.IF.length:Int)).toNat-k) k=M9 W c) ⟨hlv.1,rfl⟩ λk ⟨hk,hI⟩=>⟨_,Of,λIX=>?_,λRX=>?_⟩
  ·have IX:=Ot IX;have ek:(Nl (W.IF.length:Int)).toNat-k=((Nl (W.IF.length:Int)).toNat-(k+1))+1:=Qo;rw[ek] at hI;have nxt:zha W c ((Nl (W.IF.length:Int)).toNat-(k+1)) (k+1)=M9 W c->((k+1:Nat):Int)<=Nl (W.IF.length:Int)/\zha W c ((Nl (W.IF.length:Int)).toNat-(k+1)) (k+1)=M9 W c:=λhp=>⟨Qo,hp⟩
   refine⟨_,HR,_,HV h wp c0 c1,λg=>⟨⟨Qo,Qo⟩,QB Qo (nxt ?_)⟩,λg=>?_⟩
   ·rw[<-hI,zhc (show TE W c (k:Int)<0 from Ot g)]
   ·have g:¬TE W c (k:Int)<0:=Ou g;refine Xr 12 0 rfl (λj=>j<=12/\TH W (TE W c (k:Int)) c (12-j) j=TH W (TE W c (k:Int)) c 12 0) ⟨Ig _,rfl⟩ λj ⟨hj,hF⟩=>⟨λSi=>?_,λdA=>?_⟩
    ·have Si:=Ot Si;have tG:j<12:=Qo;rw[show 12-j=(12-(j+1))+1 by omega] at hF;refine⟨h.t.ix QF Qo Si,_,h.t.f Qo Si (j:=2) rfl,_,λ_=>MS h wp Qo Si c0 c1,_,λ_=>AH h wp Qo Si,λg2=>?_,λg2=>⟨⟨Qo,Qo⟩,QB tG ⟨Qo,?_⟩⟩⟩
     ·have g2:zb0 W (TE W c (k:Int)) c j:=g2;rw[zma g2] at hF;rw[<-hI,zhd g (by rw[<-hF];omega),<-hF]
     ·have g2:zb0 W (TE W c (k:Int)) c j=false:=g2;rw[<-hF,zis g2]
    ·have dA:=Ou dA;have:j=12:=Qo;subst this;refine⟨⟨Qo,Qo⟩,QB Qo (nxt ?_)⟩;rw[<-hI,zhb (by rw[<-hF];show (-1:Int)<0;decide)]
  ·have RX:=Ou RX;have:(Nl (W.IF.length:Int)).toNat-k=0:=Qo;rw[this] at hI;rw[<-hI];rfl
def zjf(W:Q7)(c:Int) : -1<=M9 W c:=by
 have hf:∀(b:Int) (f j:Nat),-1<=TH W b c f j:=λb f=>by
  induction f with
  |zero=>intro j;exact I4 _
  |succ f ih=>
   intro j;simp only[TH];split
   ·omega
   ·exact ih _
 have hp:∀(f k:Nat),-1<=zha W c f k:=λf=>by
  induction f with
  |zero=>intro k;exact I4 _
  |succ f ih=>
   intro k;simp only[zha];split
   ·exact ih _
   ·split
    ·exact ih _
    ·exact hf _ _ _
 exact hp _ _
end
def zaj(W:Q7)(g:Int)(j:Nat):Int:=Aw W g (j:Int)
def OR(W:Q7)(g c:Int)(h:W.IK.length=12):0<=Aw W g c/\Aw W g c<=240:=by
 have:=UY (Av W g c) W.IK.length;unfold Aw;omega
def zu0(a b:Int):Int:=if a>b then a else b
def P6(W:Q7)(g c:Int):Int:=
 if XD (zaj W g) W.IF.length=0 then (gi W.IE g).R2 else zu0 1 (Int.tdiv ((gi W.IE g).R2*Aw W g c) (XD (zaj W g) W.IF.length))
def zub{a b:Int}(ha:0<=a)(ha2:a<=100000)(hb:0<b):Qq .i64 (Int.tdiv a b):=by
 have h1:=Int.tdiv_nonneg ha (Int.le_of_lt hb);have h2:Int.tdiv a b<=a:=by rw[Int.tdiv_eq_ediv_of_nonneg ha];exact Int.ediv_le_self _ ha
 exact⟨Qo,Qo⟩
def za2{a b:Int}{w:Wo}{bs:List Nat}:PX bs Yu #[I a,I b] w (I (zu0 a b)):=VB
section
variable {W:Q7}{m:MW}{w:Wo}{bs:List Nat}{p:OA}
def zjo{g c:Int}(wp:TU W)(hu:Q6 W.IE g):0<=(gi W.IE g).R2*Aw W g c/\(gi W.IE g).R2*Aw W g c<=4800:=by
 have hw:=(wp.a.u hu).2.2;have hi:=OR W g c wp.a.t;have w1:=hw.w1;have w2:=hw.w2;refine⟨Int.mul_nonneg Qo hi.1,?_⟩;have:=Int.mul_le_mul w2 hi.2 hi.1 (show (0:Int)<=20 by decide);omega
def DY{g:Int}(wp:TU W)(k:Nat):0<=XD (zaj W g) k/\XD (zaj W g) k<=(k:Int)*240:=UY (λj=>OR W g (j:Int) wp.a.t) k
def BJ{g c:Int}(h:X0 bs w W m)(wp:TU W)(hl:Xk W)(hu:Q6 W.IE g):PX bs Tb #[.agg (Qa W m).toArray,I g,I c] w (I (P6 W g c)):=
 N1 _ _ _ _ _ _ _ _ _ _ g c λwr hx=>by
  have h:=(h.ext hx).less (cs:=[]) Qs;have rL:=wp.a.c2;obtain⟨u1,u2,_⟩:=Q5.1 hu;intro _ _;refine TM W.IF.length 0 rfl (λx k=>k<=W.IF.length/\x=XD (zaj W g) k) ⟨Ig _,rfl⟩ λx k ⟨hk,Rt⟩=>⟨λIX=>?_,λRX=>⟨λg2=>⟨h.g.ix u1 u2,_,(h.g.cells g u1 u2).get 3 _ rfl,?_⟩,λg2=>?_⟩⟩
  ·have IX:=Ot IX;have hr:=DY (g:=g) wp k;have hi:=OR W g (k:Int) wp.a.t;exact⟨_,M1 h wp hl hu,⟨Qo,Qo⟩,⟨Qo,Qo⟩,QG Qo ⟨Qo,by simp only[XD];rw[Rt];rfl⟩⟩
  ·have RX:=Ou RX;have:k=W.IF.length:=Qo;subst this;unfold P6;rw[H' (by rw[<-Rt];simpa using g2)]
  ·have RX:=Ou RX;have:k=W.IF.length:=Qo;subst this;have hr:=DY (g:=g) wp W.IF.length;have hp:=zjo (c:=c) wp hu;have fJ:x≠0:=by simpa using g2
   refine⟨h.g.ix u1 u2,_,(h.g.cells g u1 u2).get 3 _ rfl,Aw W g c,M1 h wp hl hu,⟨Qo,Qo⟩,⟨fJ,zub hp.1 Qo Qo⟩,_,za2,?_⟩;unfold P6;rw[E' (by rw[<-Rt];exact fJ),Rt]
end
def zo0{gs:List ZL}(ht:ZZ gs){g:Int}:∀h:Int,Q6 gs h->g∈QV gs h->VQ 3 gs g h:=
 TP ht (λhx=>by rw[show QV gs 0=[] from Zf _ _] at hx;cases hx) λh hu hz ih hx=>by
  by_cases e:h=g
  ·subst e;simp[VQ]
  ·rw[zcg ht hu hz e];rw[Yb ht hu hz] at hx;rcases Ik.1 hx with e2|e2
   ·exact It e2.symm e
   ·exact ih e2
def zlk(W:Q7)(g c x:Int):VM W (MI W g c x):=by
 unfold MI;split
 ·exact VM.refl _
 ·split
  ·exact(CH _ _ _ _).trans (Lm _ _)
  ·exact CH _ _ _ _
def VJ.wei{W:Q7}(p:VJ W){g c x:Int}(hu:Q6 W.IE g)(hz:g≠0)(c0:0<=c)(c1:c<(W.IF.length:Int)):VJ (MI W g c x):=by
 obtain⟨u0,u1,_⟩:=Q5.1 hu;have hl:=p.a.gl;have hsl:=p.a.sl hu;have yP:c<((gi W.IE g).IH.length:Int):=Qo;have e:∀{i j:Int},0<=i->0<=j->Qb (JC W g c x) i j=if g=i/\c=j then CP W g c x else Qb W i j:=λhi hj=>Jg u0 u1 c0 yP hi hj
 have hT:QY W.IE (JC W g c x).IE:=Xu u0 u1
 have ef:∀{i j:Int},0<=i->0<=j->(Qb (JC W g c x) i j).IL=(Qb W i j).IL:=λ{i j} hi hj=>by
  rw[e hi hj];split
  ·rename_i h;obtain⟨rfl,rfl⟩:=h;rfl
  ·rfl
 have hpu:=p.a.up hu hz;have p0:=(Q5.1 hpu).1
 have same:∀{i j:Int},Q6 W.IE i->i≠0->0<=j->¬(g=i/\c=j)->UX W i j->UX (JC W g c x) i j:=λ{i j} iu iz j0 hn h=>by
  unfold UX at h ⊢;rw[hT.p,ef (Q5.1 (p.a.up iu iz)).1 j0,e (Q5.1 iu).1 j0,E' hn];exact h
 have hA:PreA (JC W g c x):=by
  refine⟨p.a.RR u0 Qo,λt t0 t1=>?_,λt t0 t1 n=>p.l t t0 t1 n,λi j iu j0 j1=>?_⟩
  ·rcases p.t t t0 t1 with h|⟨n,h⟩
   ·exact .inl h
   ·exact .inr ⟨n,h.st,by rw[hT.dW];exact h.g,h.n,h.m,h.m0,h.s,h.u,h.l1,h.l2,λh1=>by
     show (Qb (JC W g c x) (Q8 W t).II (Q8 W t).R8).IL<=(Q8 W t).v/\(Q8 W t).v-(Qb (JC W g c x) (Q8 W t).II (Q8 W t).R8).IL<=_;rw[ef (Q5.1 h.g).1 (p.l t t0 t1 n).1];exact h.f h1⟩
  ·rw[hT.dW] at iu;have hs:=p.s i j iu j0 j1;have i0:=(Q5.1 iu).1
   by_cases h:g=i/\c=j
   ·obtain⟨rfl,rfl⟩:=h;refine⟨by rw[e i0 j0,H' ⟨rfl,rfl⟩];exact hs.s,λh0=>It h0 hz,λ_ ho=>?_⟩;rw[e i0 j0,H' ⟨rfl,rfl⟩] at ho;have ho:(Qb W g c).on:=ho;unfold UX;rw[hT.p,ef p0 j0,e i0 j0,H' ⟨rfl,rfl⟩];simp only[CP];rw[H' ho];have:=ZX ((Qb W g c).v-(Qb W (gi W.IE g).IG c).IL) x;omega
   ·refine⟨by rw[e i0 j0,E' h];exact hs.s,by rw[e i0 j0,E' h];exact hs.root,λiz ho=>?_⟩;rw[e i0 j0,E' h] at ho;exact same iu iz j0 h (hs.st iz ho)
 have hC:∀d:Int,0<=d->d<(W.IF.length:Int)->(d=c->zfu (JC W g c x) g c=false)->zt4 (JC W g c x) d:=λd d0 d1 hd=>by
  have h:=p.c d d0 d1;refine⟨h.b,h.i,h.c1,h.c2,h.no,h.yes,λh0 h1 h2=>?_⟩;obtain⟨q1,q2⟩:=h.q h0 h1 h2
  have hcu:Q6 W.IE (Q8 W (gi W.IF d).cur).II:=by
   rcases p.t _ h0 h.c2 with hz|⟨_,hx⟩
   ·have h1:(Q8 W (gi W.IF d).cur).state=1:=h1;have h3:(Q8 W (gi W.IF d).cur).state=0:=hz.1;rw[h3] at h1;cases h1
   ·exact hx.g
  refine⟨by show (Q8 W (gi W.IF d).cur).v-(Qb (JC W g c x) (Q8 W (gi W.IF d).cur).II d).IL<=_;rw[ef (Q5.1 hcu).1 d0];exact q1,λy hy=>?_⟩;have hy:y∈QV W.IE (Q8 W (gi W.IF d).cur).II:=by rw[<-VE hT];exact hy
  obtain⟨yu,yz⟩:=Yy p.a.tree _ hcu y hy;have y0:=(Q5.1 yu).1
  have hn:¬(g=y/\c=d):=by
   rintro⟨rfl,rfl⟩;have h3:=hd rfl;unfold zfu at h3;have h4:=zo0 (hT.tree p.a.tree) (g:=g) (Q8 W (gi W.IF c).cur).II (by rw[hT.dW];exact hcu) (by rw[VE hT];exact hy);rw[show (gi (JC W g c x).IF c).cur=(gi W.IF c).cur from rfl,Ij (show (gi W.IF c).cur>=0 from h0),Bool.true_and] at h3;rw[show (Q8 (JC W g c x) (gi W.IF c).cur).II=(Q8 W (gi W.IF c).cur).II from rfl,h4] at h3;cases h3
  obtain⟨s1,s2⟩:=q2 y hy;refine⟨same yu yz d0 hn s1,?_⟩;rw[hT.p,ef (Q5.1 (p.a.up yu yz)).1 d0,e y0 d0,E' hn];exact s2
 unfold MI;split
 ·exact p
 ·split
  ·refine⟨hA.RG c0 c1,λd d0 d1=>?_⟩;have hlen:(YtjinkcmkgnofjaaGreat.RG (JC W g c x) c).IF.length=W.IF.length:=I0;have kT:gi (YtjinkcmkgnofjaaGreat.RG (JC W g c x) c).IF d=if c=d then XB (gi W.IF c) else gi W.IF d:=QD _ _ c0 c1 d0;rw[hlen] at d1
   by_cases ed:c=d
   ·subst ed;have h:=p.c c c0 c1;rw[H' rfl] at kT;have n1:(XB (gi W.IF c)).cur = -1:=rfl;exact⟨by rw[kT];exact h.b,by rw[kT];exact h.i,by rw[kT,n1];exact I4 _,by rw[kT,n1];decide,λ_=>by rw[kT];rfl,λh=>by rw[kT,n1] at h;omega,λh=>by rw[kT,n1] at h;omega⟩
   ·have h:=hC d d0 d1 λhd=>It hd.symm ed
    rw[E' ed] at kT;exact⟨by rw[kT];exact h.b,by rw[kT];exact h.i,by rw[kT];exact h.c1,by rw[kT];exact h.c2,by rw[kT];exact h.no,by rw[kT];exact h.yes,by rw[kT];exact h.q⟩
  ·rename_i he;exact⟨hA,λd d0 d1=>hC d d0 d1 λ_=>by simpa using he⟩
def SW.tu{K:Int}{W:Q7}(h:SW K W):TU W:=⟨h.a,λt0 t1 hs=>h.li t0 t1 hs⟩
def zlm{f:Nat->Int}(h:∀j,0<=f j):∀m:Nat,0<=XD f m
 |0=>I4 _
 |m+1=>by
  have ih:=zlm h m;have:=h m;simp only[XD];omega
def zll{f:Nat->Int}(h:∀j,0<=f j){k:Nat}:∀n:Nat,k<n->f k<=XD f n
 |0,hk=>It hk (Nat.not_lt_zero k)
 |n+1,hk=>by
  simp only[XD];have hn:=zlm h
  by_cases e:k=n
  ·subst e;have:=hn k;omega
  ·have:=zll h (k:=k) n Qo;have:=h n;omega
def zhs{W:Q7}(wp:TU W){g c:Int}(hu:Q6 W.IE g)(c0:0<=c)(c1:c<(W.IF.length:Int)):1<=P6 W g c/\P6 W g c<=(gi W.IE g).R2:=by
 have hg:=(wp.a.u hu).2.2;have w1:=hg.w1;have hi:=OR W g c wp.a.t
 have tZ:Aw W g c<=XD (zaj W g) W.IF.length:=by
  have:=zll (f:=zaj W g) (λj=>(OR W g (j:Int) wp.a.t).1) (k:=c.toNat) W.IF.length Qo;unfold zaj at this
  rwa[show ((c.toNat:Nat):Int)=c by omega] at this
 unfold P6;split
 ·omega
 ·rename_i hn
  have hp:0<XD (zaj W g) W.IF.length:=by
   have:=(DY (g:=g) wp W.IF.length).1;omega
  have hq:Int.tdiv ((gi W.IE g).R2*Aw W g c) (XD (zaj W g) W.IF.length)<=(gi W.IE g).R2:=by
   rw[Int.tdiv_eq_ediv_of_nonneg (Int.mul_nonneg Qo hi.1)];refine Int.ediv_le_of_le_mul hp ?_;exact Int.mul_le_mul_of_nonneg_left tZ Qo
  unfold zu0
  split <;> omega
def zhr{W:Q7}(wp:TU W){g c:Int}(hu:Q6 W.IE g)(c0:0<=c)(c1:c<(W.IF.length:Int)):1<=P6 W g c/\P6 W g c<=20:=by
 have h:=zhs wp hu c0 c1;have:=(wp.a.u hu).2.2.w2;omega
def Pw(W:Q7)(c:Int):Nat->Q7
 |0=>W
 |k+1=>if k≠0/\(gi (Pw W c k).IE (k:Int)).IW then MI (Pw W c k) (k:Int) c (P6 (Pw W c k) (k:Int) c) else Pw W c k
def UD(W:Q7)(c:Int):Q7:=Qh (Pw W c 8)
noncomputable def VP(W:Q7)(c:Int):Int:=M9 (UD W c) c
noncomputable def zdz(W:Q7)(c:Int):Q7:=if VP W c<0 then UD W c else Qh (UU (UD W c) (VP W c) (Q8 (UD W c) (VP W c)).II c)
noncomputable abbrev Hw(W:Q7)(c:Int):Int:=UF W c true 0
structure ztp (W V:Q7):Prop where
 sf:SF Qt (Qt+Qp) V
 fr:Fr W V
 cu:Gc V
 pre:VJ V
 sta:VM W V
def zdy{W:Q7}(wp:Xw W)(hr:LO W){c:Int}(c0:0<=c)(c1:c<(W.IF.length:Int)):∀k:Nat,k<=8->ztp W (Pw W c k)
 |0,_=>⟨Mb (P8 wp hr),Fr.refl _,zkf wp,Xe wp,VM.refl _⟩
 |k+1,hk=>by
  have ih:=zdy wp hr c0 c1 k Qo;simp only[Pw];split
  ·rename_i h;have hl:=ih.sf.w.a.gl;have hu:Q6 (Pw W c k).IE (k:Int):=Q5.2 ⟨Qo,Qo,h.2⟩;have yP:c<((Pw W c k).IF.length:Int):=by rw[ih.fr.c];exact c1
   have hs:=zhr ih.sf.w.tu hu c0 yP;obtain⟨a,b,d⟩:=zlt ih.sf (I4 _) ih.cu hu Qo c0 yP hs.1 hs.2;exact⟨a,ih.fr.trans b,d,ih.pre.wei hu Qo c0 yP,ih.sta.trans (zlk _ _ _ _)⟩
  ·exact ih
def zd0{W:Q7}{c:Int}(hW:QH W)(hb:Hw W c=0):0<=c/\c<(W.IF.length:Int)/\ztp W (Pw W c 8)/\Xw (UD W c)/\SW (Qt+Qp+UW) (UD W c)/\Fr W (UD W c):=by
 obtain⟨h1,_,_,h4⟩:=zd8 hb;have wp:=Qm.1 hW;obtain⟨c0,c1⟩:=Xg h1;have hB:=zdy wp (Qm.1 h4) c0 c1 8 (I9 _);have hs:=Tp hB.sf.w (by simp only[Qp];decide);exact⟨c0,c1,hB,(CE hB.sf.w (by simp only[Qp];decide) (by simp only[Qp,UW];decide) hB.pre (hB.sta.loc hB.fr.t (Ue wp))).1,hs.1,hB.fr.trans hs.2⟩
def Ak{W:Q7}{b c:Int}:∀f j:Nat,0<=TH W b c f j->∃i:Nat,TH W b c f j=(i:Int)/\j<=i/\i<j+f/\zb0 W b c i=true
 |0,j,h=>by
  have:(0:Int)<=-1:=h;omega
 |f+1,j,h=>by
  simp only[TH] at h ⊢;split
  ·rename_i hp;exact⟨j,rfl,I9 _,Qo,hp⟩
  ·rename_i hp;rw[E' hp] at h;obtain⟨i,a,b',c',d⟩:=Ak f (j+1) h;exact⟨i,a,Qo,Qo,d⟩
def zcz{W:Q7}{c:Int}(h:¬M9 W c<0):∃(i:Nat) (b:Int),M9 W c=(i:Int)/\i<12/\zb0 W b c i:=by
 have key:∀f k:Nat,0<=zha W c f k->∃(i:Nat) (b:Int),zha W c f k=(i:Int)/\i<12/\zb0 W b c i:=λf=>by
  induction f with
  |zero=>intro k h;have:(0:Int)<=-1:=h;omega
  |succ f ih=>
   intro k h
   by_cases h0:TE W c (k:Int)<0
   ·rw[zhc h0] at h ⊢;exact ih _ h
   ·by_cases h1:TH W (TE W c (k:Int)) c 12 0<0
    ·rw[zhb h1] at h ⊢;exact ih _ h
    ·rw[zhd h0 h1] at h ⊢;obtain⟨i,a,_,b,d⟩:=Ak 12 0 h;exact⟨i,_,a,Qo,d⟩
 exact key _ _ (by have:=zjf W c;unfold M9 at *;omega)
def zs8{W:Q7}{c:Int}(h:¬M9 W c<0):0<=M9 W c/\M9 W c<12/\(Q8 W (M9 W c)).state=1:=by
 obtain⟨i,b,e,hi,hp⟩:=zcz h;unfold zb0 at hp;simp only[A'] at hp;rw[e];exact⟨Qo,Qo,(Fh hp.1.2).1⟩
def zsn{W V:Q7}(hl:Xk W)(ha:WA V)(hT:QY W.IE V.IE):Xk V:=by
 have h1:=ha.c2;have h2:=ha.t;have h3:=ha.gl;have hm:=Zp;have hn1:=ha.n1;have hn2:=ha.n2;refine⟨Qo,Qo,Qo,λi a b=>?_⟩;have hb:=Hx ha a Qo;have hg:=ha.grp i a Qo;refine⟨by rw[hT.n];exact(hl.f i a (by rw[<-hT.len];exact b)).nm,?_,Qo,Qo,Qo⟩
 cases hu:(gi V.IE i).IW with
 |false=>rw[(hg.1 hu).ne];exact⟨Qd,Qd⟩
 |true=>
  have hg:=hg.2 hu
  by_cases hq:(gi V.IE i).IY.R4=0
  ·rw[(hg.none hq).2.2];exact⟨Qd,Qd⟩
  ·have:=hg.IY hq;exact⟨Qo,Qo⟩
def zka{W:Q7}{c:Int}(hW:QH W)(hb:Hw W c=0)(hp:¬VP W c<0):0<=VP W c/\VP W c<12/\(Q8 (UD W c) (VP W c)).state=1/\Q6 (UD W c).IE (Q8 (UD W c) (VP W c)).II/\SF (Qt+Qp+UW) (Qt+Qp+UW+Qp) (UD W c)/\
  SF (Qt+Qp+UW) (Qt+Qp+UW+Qp) (UU (UD W c) (VP W c) (Q8 (UD W c) (VP W c)).II c):=by
 obtain⟨c0,c1,_,wp,sw,fr⟩:=zd0 hW hb;obtain⟨p0,p1,ps⟩:=zs8 hp;have sf:SF (Qt+Qp+UW) (Qt+Qp+UW+Qp) (UD W c):=sw.sf.mono (I4 _) (by simp only[Qp];omega);have hu:=(sw.t _ p0 p1 (show (Q8 (UD W c) (VP W c)).state≠0 by unfold VP;rw[ps];decide)).1;exact⟨p0,p1,ps,hu,sf,(Nq sf (I4 _) p0 p1 hu c0 (by rw[fr.c];exact c1)).2⟩
section
variable {base pb:Nat}{W W':Q7}{m:MW}{w:Wo}
def HQ{c:Int}(h:X0 [] w W m)(hl:Xk W) :
  Cz UK #[.agg (Qa W m).toArray,I c] w λe w'=>∃v,e=.returned v/\QM (Xz W (Hw W c) (zdz W c)) w v w':=by
 refine Hz _ _ _ _ _ _ _ _ _ _ c (R:=λv w'=>QM (Xz W (Hw W c) (zdz W c)) w v w') ?_;intro y hy y1 eR wr Rt Wg;have hm0:=YQ;have rM:=hl.c;refine I5 (Z8 (h.ext Rt) hl) ?_;rintro e wv (⟨hW,he,Wc⟩|⟨hW,m',he,hM,Wc⟩)
 ·exact⟨_,_,_,_,_,_,_,_,_,_,_,he,Qf Wc Wg,λg=>by simp at g,true,λg=>by simp at g,λ_ Ra Ru=>QM.bad hW ((Rt.trans Wc).fresh Ru λz hm=>.inl (Yz hy eR z hm)),λg=>by simp at g⟩
 have hK:=Wk.begin hy eR Rt Wg hM Wc;have hr:=hK.rd;have wp:=Qm.1 hW;refine⟨_,_,_,_,_,_,_,_,_,_,_,he,Qf Wc Wg,λ_=>⟨Qo,Qo⟩,Y4 W c,λ_=>Ql,λg Ra Ru=>?_,λg=>?_⟩
 ·have g:Y4 W c=false:=by
   cases hc:Y4 W c with
   |false=>rfl
   |true=>rw[hc] at g;split at g <;> simp at g
  have hb:Hw W c=1:=by unfold Hw UF;rw[H' g]
  exact QM.no hW (by rw[hb];decide) (hK.step Ru) hb
 have g:Y4 W c:=by
  cases hc:Y4 W c with
  |true=>rfl
  |false=>rw[hc] at g;simp at g
 obtain⟨c0,c1⟩:=Xg g;refine⟨hr.c.ix Zy c0 c1,_,hr.c.f c0 c1 (j:=0) rfl,λg2 Rg Ru=>?_,λg2=>⟨λg3 RL Ru=>?_,λg3=>?_⟩⟩
 ·have g2:(gi W.IF c).up=false:=by simpa using g2
  have hb:Hw W c=6:=by unfold Hw UF;rw[E' (by rw[g];decide),H' (by rw[g2];decide)]
  exact QM.no hW (by rw[hb];decide) (hK.step Ru) hb
 ·have g2:(gi W.IF c).up:=by simpa using g2
  have bH:¬QO W:=λhr=>by rw[H' hr] at g3;simp at g3
  have hb:Hw W c=10:=by unfold Hw;rw[L8 g g2 rfl,H' (by simpa using bH)]
  rw[E' bH];exact QM.no hW (by rw[hb];decide) (hK.step Ru) hb
 have g2:(gi W.IF c).up:=by simpa using g2
 have bH:QO W:=Is λhr=>by rw[E' hr] at g3;simp at g3
 have hb:Hw W c=0:=by unfold Hw;rw[L8 g g2 rfl,E' (by rw[bH];decide)]
 obtain⟨_,_,hB8,wpS,swS,frS⟩:=zd0 hW hb;refine⟨λvs w1=>∃k:Nat,vs=I (k:Int)::Qa W m'/\1<=k/\k<=8/\Wk 8 [y,y1] w w1 (Pw W c k) m',Zk 8 0,λw1 tJ _=>⟨1,rfl,Qd,Qd,hK.step tJ⟩,?_⟩;rintro g1 l Sd Sm Sr Sj So Sq Se Sf Sg RH kO ⟨k,bS,hk1,hk8,hKk⟩;have hOk:=zdy wp (Qm.1 bH) c0 c1 k hk8;have e0:Qa (Pw W c k) m'=Qa W m':=Oh hOk.fr;have aU:Pw W c (k+1)=if k≠0/\(gi (Pw W c k).IE (k:Int)).IW then MI (Pw W c k) (k:Int) c (P6 (Pw W c k) (k:Int) c) else Pw W c k:=rfl;have cN:=hOk.sf.w.a.gl;have Bh5:=wp.a.gl;simp only[Qa,I6,I7,Iy,true_and,and_true] at bS;obtain⟨rfl,rfl,⟨rfl,rfl,rfl⟩,⟨rfl,rfl,rfl⟩,rfl,rfl,rfl⟩:=bS;refine⟨λIX=>?_,λRX Sp AG6 rB=>?_⟩
 ·have IX:=Ot IX;have hrk:=hKk.rd;have WJ:=hrk.g.ix (i:=(k:Int)) Qo Qo;rw[cN] at WJ;rw[Bh5] at IX ⊢;refine⟨WJ,_,UE ((hrk.g.cells (k:Int) Qo Qo).get 0 _ rfl),λgu=>?_,λgu=>⟨⟨Qo,Qo⟩,λaM hx9 _=>⟨⟨k+1,by rw[<-Bh5];rfl,Qo,Qo,?_⟩,?_⟩⟩⟩
  ·have hu:Q6 (Pw W c k).IE (k:Int):=Q5.2 ⟨Qo,Qo,gu⟩;have yP:c<((Pw W c k).IF.length:Int):=by rw[hOk.fr.c];exact c1
   have hsh:=zhr hOk.sf.w.tu hu c0 yP;have Ay3:=BJ (c:=c) hrk hOk.sf.w.tu (zsn hl hOk.sf.w.a hOk.fr.g) hu;rw[e0] at Ay3;simp only[Qa] at Ay3;rw[Bh5] at Ay3;refine⟨_,Ay3,λSC mE hs7=>?_⟩;have hK7:=hKk.step mE;have RD:=M0 hK7.own hOk.sf (I4 _) (by simp only[Qp];decide) hOk.cu (x:=P6 (Pw W c k) (k:Int) c) hu Qo c0 yP;rw[e0] at RD;simp only[Qa] at RD;rw[Bh5] at RD;refine I5 RD ?_;rintro e1 Sx ⟨mJ,rN⟩;refine⟨_,_,_,_,_,_,_,_,_,_,mJ,hK7.kept rN hs7,⟨Qo,Qo⟩,λU' rD _=>⟨⟨k+1,by rw[<-Bh5];rfl,Qo,Qo,?_⟩,?_⟩⟩
   ·rw[aU,H' ⟨Qo,gu⟩];exact(hK7.W9 rN hs7).step rD
   ·simp only[Zk,J5,Y5,Ih];omega
  ·rw[aU,E' (by rintro⟨_,h⟩;rw[show (gi (Pw W c k).IE (k:Int)).IW=false from gu] at h;cases h)];exact hKk.step hx9
  ·simp only[Zk,J5,Y5,Ih];omega
 ·have RX:=Ou RX;have:k=8:=Qo;subst this;have AB0:=hKk.step AG6;have RD:=Qu AB0.own hB8.sf.w (by simp only[Qp];decide) (by simp only[Qp];decide) AB0.base;rw[e0] at RD;refine I5 RD ?_;rintro e3 WY ⟨m2,jM,hy5⟩;have Bh1:Wk 8 [y,y1] w WY (UD W c) m2:=AB0.W9 hy5 rB;have B87:=Bh1.rd;have CM1:=AI B87 wpS c0 (by rw[frS.c];exact c1);refine⟨_,_,_,_,_,_,_,_,_,_,jM,AB0.kept hy5 rB,_,CM1,λg5=>?_,λg5 Wx BH4=>?_⟩
  ·have g5:¬VP W c<0:=by have:=Ot g5;unfold VP;omega
   obtain⟨p0,p1,ps,hu,sf,sfP⟩:=zka hW hb g5;have lB:=wpS.a.t;refine⟨B87.t.ix QF p0 (by rw[lB];exact p1),_,B87.t.f p0 (by rw[lB];exact p1) (j:=1) rfl,λSn Ay5 AL6=>?_⟩;have A26:=Bh1.step Ay5;refine I5 (Ui A26.own sf (I4 _) (by simp only[Qp,UW];decide) (t:=VP W c) (g:=(Q8 (UD W c) (VP W c)).II) (c:=c) p0 p1 (by rw[ps];decide) hu c0 (by rw[frS.c];exact c1)) ?_;rintro e4 gV ⟨he4,hy6⟩;refine⟨_,_,_,_,_,_,_,_,_,_,he4,A26.kept hy6 AL6,λSv AB5 A35=>?_⟩;have Bs8:=(A26.W9 hy6 AL6).step AB5
   have Cc8:Qa (UU (UD W c) (VP W c) (Q8 (UD W c) (VP W c)).II c) m2=Qa (UD W c) m2:=by
    obtain⟨q1,q2,q3,q4⟩:=zqc (UD W c) (VP W c) (Q8 (UD W c) (VP W c)).II c;simp only[Qa,q1,q2,q3,q4]
   have aP:=Qu Bs8.own sfP.w (by simp only[Qp,UW];decide) (by simp only[Qp,UW];decide) Bs8.base;rw[Cc8] at aP;refine I5 aP ?_;rintro e5 dY ⟨m3,he5,hy7⟩;refine⟨_,_,_,_,_,_,_,_,_,_,he5,Bs8.kept hy7 A35,λT' Bj9=>?_⟩;have hE:zdz W c=Qh (UU (UD W c) (VP W c) (Q8 (UD W c) (VP W c)).II c):=by unfold zdz;rw[E' g5]
   rw[hE];exact QM.ok hW hb ((Bs8.W9 hy7 A35).step Bj9)
  ·have g5:VP W c<0:=by have:=Ou g5;unfold VP;omega
   have hE:zdz W c=UD W c:=by unfold zdz;rw[H' g5]
   rw[hE];exact QM.ok hW hb (Bh1.step BH4)
end
def zgs{W:Q7}{g n x:Int}(hW:QH W)(hb:TI W g n x=0):J4 (zgj W g n x):=by
 have wp:=Qm.1 hW;have h:=zkl hW hb;have p:=Xe wp
 have hT:H9 W (Kt W g n x):=⟨.inl rfl,h.u,h.w,h.m,h.m0,by show ZD 0=true;decide,by show ZD 0=true;decide,I4 _,by show (0:Int)<=8000000;decide,λ_=>by
  have:=(ZV (Qe n)).1;show (Qb W g (ML W g x)).IL<=(Qb W g (ML W g x)).IL/\(Qb W g (ML W g x)).IL-(Qb W g (ML W g x)).IL<=Zs (Qe n);omega⟩
 exact Zo (h.sw2.RG h.c0 h.c1) Qd Qd (Nn p h.f0 h.f1 (show (1:Int)≠0 by decide) hT rfl h.c0 h.c1) (((Ue wp).I' wp.a h.f0 h.f1 (x:=Kt W g n x) λ_=>h.ch).RG _)
def zsd{W:Q7}{g x:Int}(hW:QH W)(hb:zh7 W g x=0):J4 (zq4 W g x):=by
 have wp:=Qm.1 hW;obtain⟨h1,hz,hu,_,_,sf,cu,hT⟩:=zq5 hW hb;have hx:=Qr.1 h1;have hu':Q6 (Rw W g (Me W g x)).IE g:=by rw[hT.dW];exact hu
 have p1:VJ (Rw W g (Me W g x)):=(Xe wp).same sf.w.a rfl rfl hT (zjp rfl);have l1:Nx (Rw W g (Me W g x)):=(Ue wp).same rfl hT (λi=>YF (f:=ZL.IF) W.IE g (x:=Me W g x) rfl i) rfl;have hlen:(Rw W g (Me W g x)).IF.length=W.IF.length:=rfl;show J4 (Qh (L2 (Rw W g (Me W g x)) g x W.IF.length));rw[<-hlen];generalize Rw W g (Me W g x)=V at sf cu hu' p1 l1
 have all:∀k:Nat,k<=V.IF.length->VJ (L2 V g x k)/\VM V (L2 V g x k):=by
  intro k
  induction k with
  |zero=>exact λ_=>⟨p1,VM.refl _⟩
  |succ k ih=>
   intro hk;obtain⟨a,b⟩:=ih Qo;exact⟨a.wei (by rw[b.g.dW];exact hu') hz Qo (by rw[b.len];omega),b.trans (zlk _ _ _ _)⟩
 obtain⟨a,b⟩:=all _ (I9 _);obtain⟨sf2,fr,_⟩:=zfv sf (I4 _) cu hu' hz hx.1 hx.2 V.IF.length (I9 _);exact Zo sf2.w (by simp only[Qp];decide) (by simp only[Qp,UW];decide) a (b.loc fr.t l1)
def zl2{W:Q7}{t c:Int}(h:Ua W t c):Zb (Qv W (Q8 W t).II (Q8 W t).mask) c:=by
 unfold Ua at h;simp only[A',ID,I1,I8] at h;exact h.1.2
def zr4{W:Q7}{c:Int}(hW:QH W)(hb:Hw W c=0):J4 (zdz W c):=by
 have wp:=Qm.1 hW;obtain⟨c0,c1,hB,wpS,swS,frS⟩:=zd0 hW hb;have iS:J4 (UD W c):=Zo hB.sf.w (by simp only[Qp];decide) (by simp only[Qp,UW];decide) hB.pre (hB.sta.loc hB.fr.t (Ue wp));unfold zdz;split
 ·exact iS
 ·rename_i hp;obtain⟨p0,p1,ps,pu,_,sf⟩:=zka hW hb hp;obtain⟨i,b,e,hi,ht⟩:=zcz hp;have e:VP W c=(i:Int):=e;unfold zb0 at ht;simp only[A'] at ht;have hcd:=zl2 ht.1.2;rw[<-e] at hcd;have cS:c<((UD W c).IF.length:Int):=by rw[frS.c];exact c1
  clear hp iS swS frS hB ht e;have hK0:0<=Qt+Qp+UW+Qp:=Qd;have hK1:Qt+Qp+UW+Qp+UW<=100000000000000000:=Qd;have hcd:Zb (Qv (UD W c) (Q8 (UD W c) (VP W c)).II (Q8 (UD W c) (VP W c)).mask) c:=hcd;generalize VP W c=q at *;generalize UD W c=V at *;refine Zo sf.w hK0 hK1 (Cv (Xe wpS) p0 p1 (by rw[ps];decide) pu c0 cS) λt t0 t1 n=>?_
  rw[(Nt V _ _ _).wh];rw[zjh wpS.a.t p0 p1 t0] at n ⊢
  split at n
  ·rename_i he;rw[H' he];exact hcd
  ·rename_i he;rw[E' he];exact Ue wpS t t0 t1 n
def zba:MK:=⟨0,false,0,10,0⟩
def On(n:Nat)(p:Int)(name:ByteArray):ZL:=⟨true,p,name,10,15,0,0,0,⟨0,0,0,[],[]⟩,List.replicate n zba⟩
def CR:ZL:=⟨false,0,⟨[].toArray⟩,0,0,0,0,0,⟨0,0,0,[],[]⟩,[]⟩
def JB(n:Nat):Q7:=⟨0,List.replicate n ⟨true,-1,0,0,0⟩,List.replicate 12 VI,(List.replicate 8 CR).set 0 (On n (-1) ⟨[].toArray⟩)⟩
section
variable {n:Nat}
def GK(k:Int)(k0:0<=k)(k1:k<8):gi (JB n).IE k=if k=0 then On n (-1) ⟨[].toArray⟩ else CR:=by
 have:=QD (List.replicate 8 CR) (On n (-1) ⟨[].toArray⟩) (i:=0) (j:=k) (I4 _) Qd k0;show gi ((List.replicate 8 CR).set (0:Int).toNat _) k=_;rw[this]
 by_cases h:k=0
 ·rw[H' h.symm,H' h]
 ·rw[E' λe=>h e.symm,E' h,O7 _ _ k0 Qo]
def zpv:(JB n).IE.length=8:=by simp[JB]
def zpu(c:Int)(c0:0<=c)(c1:c<(n:Int)):gi (JB n).IF c=⟨true,-1,0,0,0⟩:=O7 _ _ c0 c1
def zpw(t:Int)(t0:0<=t)(t1:t<12):Q8 (JB n) t=VI:=O7 12 _ t0 Qo
def zu4(c:Int)(c0:0<=c)(c1:c<(n:Int)):Qb (JB n) 0 c=zba:=by
 unfold Qb;rw[GK 0 (I4 _) Qd,H' rfl];exact O7 _ _ c0 c1
def zmv:ZZ (JB n).IE:=by
 have g0:gi (JB n).IE 0=On n (-1) ⟨[].toArray⟩:=by rw[GK 0 (I4 _) Qd,H' rfl]
 have un:∀g:Int,1<=g->g<8->(gi (JB n).IE g).IW->False:=λg a b h=>by
  rw[GK g Qo b,E' Qo] at h;cases h
 exact⟨zpv,by rw[g0];rfl,by rw[g0];rfl,by rw[g0];rfl,λg a b h=>(un g a b h).elim,λg a b h=>(un g a b h).elim,λg a b h=>(un g a b h).elim,λg k a b d h=>(un g Qo d h).elim⟩
def zsz(n0:1<=n)(n1:n<=4):WA (JB n):=by
 have rL:(JB n).IF.length=n:=by simp[JB]
 refine⟨I4 _,by show (0:Int)<=_;decide,Qo,Qo,by simp[JB],zmv,Fb (c:=0) Qo (I4 _) Qo (by rw[zpu 0 (I4 _) Qo]),λk k0 k1=>?_⟩;unfold Pt;rw[GK k k0 k1];split
 ·refine⟨λh=>(by cases h),λ_=>⟨show (1:Int)<=10 by decide,show (10:Int)<=20 by decide,show Om 15=true by decide,show (15:Int)≠0 by decide,show ZD 0=true by decide,by simp[On,rL],λ_=>⟨rfl,rfl,rfl⟩,λ_=>⟨show Tj ⟨0,0,0,[],[]⟩=true by decide,rfl,rfl⟩,λh=>It rfl h⟩⟩
 ·exact⟨λ_=>⟨rfl,rfl,rfl,rfl,rfl,rfl,rfl,rfl,Qd⟩,λh=>by cases h⟩
def zr9(n0:1<=n)(n1:n<=4):J4 (JB n):=by
 have ha:=zsz n0 n1;have rL:(JB n).IF.length=n:=by simp[JB]
 have hmt:∀(k c:Int) (j:Nat),j<12->VT (JB n) k c j=false:=λk c j hj=>by
  unfold VT;rw[show gi (JB n).IK (j:Int)=VI from zpw (j:Int) Qo Qo];rfl
 have hmg:∀(k c:Int) (j:Nat),j<8->Xy (JB n) k c j=false:=λk c j hj=>by
  unfold Xy;rw[GK (j:Int) Qo Qo]
  by_cases h:(j:Int)=0
  ·rw[show decide (1<=j)=false from decide_eq_false Qo];rfl
  ·rw[E' h];simp[CR]
 refine⟨⟨ha,λt t0 t1=>.inl ?_,λk c k0 k1 c0 c1=>?_,λc c0 c1=>?_⟩,λk c hu c0 c1 hb=>?_⟩
 ·rw[zpw t t0 t1];exact⟨rfl,rfl⟩
 ·by_cases hk:k=0
  ·subst hk;rw[GK 0 k0 k1,H' rfl] at c1;have c1:c<(n:Int):=by simpa[On] using c1
   have e:=zu4 c c0 c1;refine⟨?_,?_,?_,?_,?_,λ_=>?_,λh=>It rfl h,λh=>It rfl h⟩ <;> rw[e]
   ·decide
   ·decide
   ·decide
   ·decide
   ·decide
   ·exact⟨rfl,rfl,rfl⟩
  ·rw[GK k k0 k1,E' hk] at c1;have c1:c<0:=c1;omega
 ·rw[rL] at c1;have e:=zpu c c0 c1;refine⟨by rw[e];decide,by rw[e];decide,by rw[e];decide,by rw[e];show (-1:Int)<((JB n).IK.length:Int);simp[JB],λ_=>by rw[e],λh=>?_⟩;rw[e] at h;have h:(0:Int)<=-1:=h;omega
 ·unfold ZO at hb;have hb:=Ot hb;rcases Z9 (QX (JB n) k c) (QZ (JB n) c) 20 with ⟨a,_⟩|⟨_,h2,h3,_⟩
  ·rw[a] at hb;omega
  ·exfalso
   have IX:(QN (QX (JB n) k c) (QZ (JB n) c) 20).toNat<20:=Qo;generalize (QN (QX (JB n) k c) (QZ (JB n) c) 20).toNat=j at h3 IX
   by_cases hj:j<12
   ·rw[XN hj,hmt k c j hj] at h3;cases h3
   ·rw[show j=12+(j-12) by omega,YZ,hmg k c (j-12) Qo] at h3;cases h3
end
def zf8{gs:List ZL}(ht:ZZ gs):∀(f:Nat) (h:Int),Q6 gs h->dep 3 gs h<=(f:Int)->dep f gs h=dep 3 gs h
 |0,h,hu,hd=>by
  by_cases hz:h=0
  ·subst hz;rw[Ye,Ye]
  ·obtain⟨_,_,_,d,e,_⟩:=ZR ht hu hz;omega
 |f+1,h,hu,hd=>by
  by_cases hz:h=0
  ·subst hz;rw[Ye,Ye]
  ·obtain⟨hp,_,_,d,e,e2,_⟩:=ZR ht hu hz;have ih:=zf8 ht f _ hp Qo;show (if h=0 then 0 else if dep f gs (gi gs h).IG<0 then -1 else dep f gs (gi gs h).IG+1)=_;rw[E' hz,ih,e2,E' Qo,e]
structure CU (W:Q7) (a p:Int) (name:ByteArray):Prop where
 a1:1<=a
 a8:a<8
 fr:(gi W.IE a).IW=false
 up:Q6 W.IE p=true
 nm:JO name=true
 no:∀h:Int,1<=h->h<8->(gi W.IE h).IW->¬((gi W.IE h).IG=p/\(gi W.IE h).name=name)
 dp:dep 3 W.IE p≠3
def TV(W:Q7)(a p:Int)(name:ByteArray):Q7:=Rw W a (On W.IF.length p name)
section
variable {W:Q7}{a p:Int}{name:ByteArray}
def Fo(ha:WA W)(h:CU W a p name){i:Int}(hi:0<=i):gi (TV W a p name).IE i=if a=i then On W.IF.length p name else gi W.IE i:=Ym (by have:=h.a1;omega) (by have:=ha.gl;have:=h.a8;omega) hi
def zps(h:CU W a p name){k:Int}(hu:Q6 W.IE k):a≠k:=λe=>by
 have:=(Q5.1 hu).2.2;rw[<-e,h.fr] at this;cases this
def GJ(ha:WA W)(h:CU W a p name){k:Int}(hu:Q6 W.IE k):gi (TV W a p name).IE k=gi W.IE k:=by
 rw[Fo ha h (Q5.1 hu).1,E' (zps h hu)]
def KF(ha:WA W)(h:CU W a p name):gi (TV W a p name).IE a=On W.IF.length p name:=by
 rw[Fo ha h (by have:=h.a1;omega),H' rfl]
def ze2(ha:WA W):(TV W a p name).IE.length=8:=by
 have:=ha.gl;simp[TV,Rw];omega
def D3(ha:WA W)(h:CU W a p name){k:Int}:Q6 (TV W a p name).IE k=true↔Q6 W.IE k\/k=a:=by
 have cN:=ha.gl;have a1:=h.a1;have a8:=h.a8;rw[Q5,Q5,ze2 ha,cN];constructor
 ·rintro⟨x,y,z⟩;rw[Fo ha h x] at z
  by_cases e:a=k
  ·exact .inr e.symm
  ·rw[E' e] at z;exact .inl ⟨x,y,z⟩
 ·rintro (⟨x,y,z⟩|rfl)
  ·refine⟨x,y,?_⟩;rw[Fo ha h x,E' λe=>by rw[<-e,h.fr] at z;cases z];exact z
  ·refine⟨Qo,Qo,?_⟩;rw[KF ha h];rfl
def zi7(ha:WA W)(h:CU W a p name):∀(f:Nat) (k:Int),Q6 W.IE k->dep f (TV W a p name).IE k=dep f W.IE k
 |0,_,_=>rfl
 |f+1,k,hu=>by
  by_cases hz:k=0
  ·subst hz;rw[Ye,Ye]
  ·have ih:=zi7 ha h f _ (ZR ha.tree hu hz).1;simp only[dep];rw[GJ ha h hu,ih]
def ze4(ha:WA W)(h:CU W a p name):∀(f:Nat) (k:Int),Q6 W.IE k->U6 f (TV W a p name).IE k=U6 f W.IE k
 |0,_,_=>rfl
 |f+1,k,hu=>by
  by_cases hz:k=0
  ·subst hz;rw[Zf,Zf]
  ·have ih:=ze4 ha h f _ (ZR ha.tree hu hz).1;simp only[U6];rw[GJ ha h hu,ih]
def zv2(ha:WA W)(h:CU W a p name):dep 3 (TV W a p name).IE a=dep 3 W.IE p+1/\0<=dep 3 W.IE p:=by
 have hr:=OD ha h.up;have hd:=h.dp;have e:=zf8 ha.tree 2 p h.up Qo;refine⟨?_,hr.1⟩;show (if a=0 then 0 else if dep 2 (TV W a p name).IE (gi (TV W a p name).IE a).IG<0 then -1 else dep 2 (TV W a p name).IE (gi (TV W a p name).IE a).IG+1)=_;rw[E' (by have:=h.a1;omega),KF ha h];show (if dep 2 (TV W a p name).IE p<0 then -1 else dep 2 (TV W a p name).IE p+1)=_;rw[zi7 ha h 2 p h.up,e,E' Qo]
def zsy(ha:WA W)(h:CU W a p name):ZZ (TV W a p name).IE:=by
 have ht:=ha.tree;have cN:=ha.gl;have a1:=h.a1;have r:=GJ ha h ha.root
 have sp:∀{g:Int},1<=g->g<8->(gi (TV W a p name).IE g).IW->g=a\/(Q6 W.IE g/\gi (TV W a p name).IE g=gi W.IE g):=λ{g} b d hh=>by
  rcases (D3 ha h).1 (Q5.2 ⟨Qo,by rw[ze2 ha];omega,hh⟩) with e|e
  ·exact .inr ⟨e,GJ ha h e⟩
  ·exact .inl e
 refine⟨ze2 ha,by rw[r];exact ht.ru,by rw[r];exact ht.rp,by rw[r];exact ht.rn,λg b d hh=>?_,λg b d hh=>?_,λg b d hh=>?_,λg k b d e hg hk=>?_⟩
 ·rcases sp b d hh with rfl|⟨hu,e⟩
  ·rw[KF ha h];exact h.nm
  ·rw[e] at hh ⊢;exact ht.nm g b d hh
 ·rcases sp b d hh with rfl|⟨hu,e⟩
  ·rw[KF ha h];exact(D3 ha h).2 (.inl h.up)
  ·rw[e] at hh ⊢;exact(D3 ha h).2 (.inl (ht.par g b d hh))
 ·rcases sp b d hh with rfl|⟨hu,e⟩
  ·have:=zv2 ha h;omega
  ·rw[zi7 ha h 3 g hu];exact ht.dp g b d (Q5.1 hu).2.2
 ·rintro⟨q1,q2⟩;rcases sp Qo e hg with hga|⟨hu,eg⟩
  ·rcases sp b Qo hk with hka|⟨hu2,ek⟩
   ·omega
   ·rw[hga,KF ha h,ek] at q1 q2;exact h.no k b Qo (Q5.1 hu2).2.2 ⟨q1,q2⟩
  ·rcases sp b Qo hk with hka|⟨hu2,ek⟩
   ·rw[hka,KF ha h,eg] at q1 q2;exact h.no g Qo e (Q5.1 hu).2.2 ⟨q1.symm,q2.symm⟩
   ·rw[eg,ek] at q1 q2;exact ht.uniq g k b d e (Q5.1 hu).2.2 (Q5.1 hu2).2.2 ⟨q1,q2⟩
end
section
variable {W:Q7}{a p:Int}{name:ByteArray}
def My(ha:WA W)(h:CU W a p name){k c:Int}(hu:Q6 W.IE k):Qb (TV W a p name) k c=Qb W k c:=by
 unfold Qb;rw[GJ ha h hu]
def zk1(ha:WA W)(h:CU W a p name){c:Int}(c0:0<=c)(c1:c<(W.IF.length:Int)):Qb (TV W a p name) a c=zba:=by
 unfold Qb;rw[KF ha h];exact O7 _ _ c0 c1
def zk0(ha:WA W)(h:CU W a p name){k c:Int}(c0:0<=c)(c1:c<(W.IF.length:Int))(j:Nat)(hj:j<8):Xy (TV W a p name) k c j=Xy W k c j:=by
 have a1:=h.a1;unfold Xy
 by_cases e:a=(j:Int)
 ·rw[<-e,zk1 ha h c0 c1,h.fr];show (_&&_&&zba.on)=_;simp[zba]
 ·rw[Fo ha h Qo,E' e]
  have:Qb (TV W a p name) (j:Int) c=Qb W (j:Int) c:=by
   unfold Qb;rw[Fo ha h Qo,E' e]
  rw[this]
def zpr(ha:WA W)(h:CU W a p name){k c:Int}(c0:0<=c)(c1:c<(W.IF.length:Int)):QA (TV W a p name) k c=QA W k c:=by
 unfold QA;rw[show VO (VT (TV W a p name) k c) (TV W a p name).IK.length=VO (VT W k c) W.IK.length from rfl,ze2 ha,ha.gl];rw[PK λj hj=>zk0 ha h c0 c1 j hj]
def ze3(wp:Xw W)(h:CU W a p name){c:Int}(j:Nat)(hj:j<20):QX W a c j=false:=by
 by_cases tG:j<12
 ·rw[XN tG];unfold VT;rcases wp.t (j:Int) Qo Qo with hz|⟨_,hx⟩
  ·have:(gi W.IK (j:Int)).state=0:=hz.1;rw[this];rfl
  ·have hg:(gi W.IK (j:Int)).II≠a:=λe=>zps h hx.g e.symm
   rw[show ((gi W.IK (j:Int)).II==a)=false by simpa using hg];simp
 ·rw[show j=12+(j-12) by omega,YZ];unfold Xy
  cases hu:(gi W.IE ((j-12:Nat):Int)).IW with
  |false=>simp
  |true=>
   have hl:=wp.a.gl;have huu:Q6 W.IE ((j-12:Nat):Int):=Q5.2 ⟨Qo,Qo,hu⟩
   by_cases h1:1<=j-12
   ·have hpu:=(ZR wp.a.tree huu Qo).1;have hg:(gi W.IE ((j-12:Nat):Int)).IG≠a:=λe=>zps h hpu e.symm
    rw[show ((gi W.IE ((j-12:Nat):Int)).IG==a)=false by simpa using hg];simp
   ·rw[show decide (1<=j-12)=false from decide_eq_false h1];simp
def PL{p:Nat->Bool}:∀{n:Nat},(∀j,j<n->p j=false)->VO p n=false
 |0,_=>rfl
 |n+1,h=>by simp only[VO];rw[PL λj hj=>h j Qo,h n Qo];rfl
def zsx(wp:Xw W)(h:CU W a p name){c:Int}:QA W a c=false:=by
 have hl:=wp.a.gl;have ht:=wp.a.t;unfold QA;rw[PL λj hj=>by have:=ze3 wp h (c:=c) j Qo;rwa[XN Qo] at this,PL λj hj=>by have:=ze3 wp h (c:=c) (12+j) Qo;rwa[YZ] at this];rfl
def Eh{α β:Type}{f g:β->α->β}:∀(l:List α) (s:β),(∀(s:β) (x:α),x∈l->f s x=g s x)->l.foldl f s=l.foldl g s
 |[],_,_=>rfl
 |y::l,s,hl=>by
  rw[List.foldl_cons,List.foldl_cons,hl s y Ib];exact Eh l _ λs x hx=>hl s x (I3 _ hx)
def zu1(ha:WA W)(h:CU W a p name){k:Int}(hu:Q6 W.IE k)(u:Int):V7 (TV W a p name).IE k u=V7 W.IE k u:=by
 have e:QV (TV W a p name).IE k=QV W.IE k:=ze4 ha h 3 k hu;unfold V7;rw[e];refine Eh _ _ λs x hx=>?_
 have hxu:Q6 W.IE x:=by
  rcases Ip.1 hx with hx|hx
  ·exact(Yy ha.tree k hu x hx).1
  ·rw[IB.1 hx];exact ha.root
 rw[GJ ha h hxu]
def zq6{W W':Q7}(e:W'.IF=W.IF){k:Int}(hp:∀u:Int,V7 W'.IE k u=V7 W.IE k u)(m:Int):Qv W' k m=Qv W k m:=by
 unfold Qv;rw[e,hp]
def zv3(ha:WA W)(h:CU W a p name){k:Int}(hu:Q6 W.IE k)(m:Int):Qv (TV W a p name) k m=Qv W k m:=zq6 (W:=W) (W':=TV W a p name) rfl (zu1 ha h hu) m
def zo3(iv:J4 W)(h:CU W a p name):J4 (TV W a p name):=by
 have wp:=iv.wp;have ha:=wp.a;have a1:=h.a1;have a8:=h.a8;have cN:=ha.gl;have hpu:∀{k:Int},Q6 W.IE k->k≠0->Q6 W.IE (gi W.IE k).IG:=λhu hz=>(ZR ha.tree hu hz).1
 have hA:WA (TV W a p name):=by
  refine⟨ha.n1,ha.n2,ha.c1,ha.c2,ha.t,zsy ha h,ha.ups,λk k0 k1=>?_⟩;unfold Pt;rw[Fo ha h k0];split
  ·refine⟨λhh=>(by cases hh),λ_=>⟨show (1:Int)<=10 by decide,show (10:Int)<=20 by decide,show Om 15=true by decide,show (15:Int)≠0 by decide,show ZD 0=true by decide,by simp[On];rfl,λ_=>⟨rfl,rfl,rfl⟩,λ_=>⟨show Tj ⟨0,0,0,[],[]⟩=true by decide,rfl,rfl⟩,λhh=>It rfl hh⟩⟩
  ·have:=ha.grp k k0 k1;exact⟨this.1,λhu=>by have:=this.2 hu;exact⟨this.w1,this.w2,this.m,this.m0,this.s,this.len,this.root,this.none,this.IY⟩⟩
 refine⟨⟨hA,λt t0 t1=>?_,λk c k0 k1 c0 c1=>?_,λc c0 c1=>?_⟩,λk c hu c0 c1 hb=>?_⟩
 ·rcases wp.t t t0 t1 with hz|⟨n,hx⟩
  ·exact .inl hz
  ·refine .inr ⟨n,hx.st,(D3 ha h).2 (.inl hx.g),hx.n,hx.m,hx.m0,hx.v,hx.s,hx.u,hx.l1,hx.l2,?_,λhs=>?_⟩
   ·rw[show (Q8 (TV W a p name) t)=Q8 W t from rfl,zv3 ha h hx.g];exact hx.c
   ·rw[show (Q8 (TV W a p name) t)=Q8 W t from rfl,My ha h hx.g];exact hx.f hs
 ·by_cases e:a=k
  ·subst e;rw[KF ha h] at c1;have c1:c<(W.IF.length:Int):=by simpa[On] using c1
   have es:=zk1 ha h c0 c1;refine⟨by rw[es];decide,by rw[es];decide,by rw[es];decide,by rw[es];decide,by rw[es];decide,λhz=>by omega,λ_=>?_,λ_ ho=>?_⟩
   ·rw[es,zpr ha h c0 c1,zsx wp h];rfl
   ·rw[es] at ho;cases ho
  ·have hg:gi (TV W a p name).IE k=gi W.IE k:=by rw[Fo ha h k0,E' e]
   rw[hg] at c1
   have hu:Q6 W.IE k:=by
    cases hh:(gi W.IE k).IW with
    |true=>exact Q5.2 ⟨k0,Qo,hh⟩
    |false=>
     have:=((ha.grp k k0 k1).1 hh).l;omega
   have cl:c<(W.IF.length:Int):=by rw[<-ha.sl hu];exact c1
   have hs:=wp.s k c k0 k1 c0 c1;have es:=My ha h (c:=c) hu;refine⟨by rw[es];exact hs.f,by rw[es];exact hs.v,by rw[es];exact hs.s,by rw[es];exact hs.w1,by rw[es];exact hs.w2,λhz=>by rw[es];exact hs.root hz,λhz=>?_,λhz ho=>?_⟩
   ·rw[es,zpr ha h c0 cl,show V6 (TV W a p name) k c=V6 W k c by unfold V6;rw[hg]];exact hs.on hz
   ·rw[es] at ho;rw[es,hg,My ha h (hpu hu hz)];exact hs.st hz ho
 ·have hc:=wp.c c c0 c1;refine⟨hc.b,hc.i,hc.c1,hc.c2,hc.no,λh0=>?_⟩;have h0:0<=(gi W.IF c).cur:=h0;obtain⟨y1,y2,y3,y4,y5,y6⟩:=hc.yes h0;have hl:=ha.t
  have kU:Q6 W.IE (Q8 W (gi W.IF c).cur).II:=by
   have hc2:=hc.c2;rcases wp.t _ h0 Qo with hz|⟨_,hx⟩
   ·unfold Zi at y5;rw[hz.1] at y5;simp at y5
   ·exact hx.g
  have hpt:QV (TV W a p name).IE (Q8 W (gi W.IF c).cur).II=QV W.IE (Q8 W (gi W.IF c).cur).II:=ze4 ha h 3 _ kU;refine⟨y1,y2,y3,y4,?_,?_⟩
  ·unfold Zi JM at y5 ⊢;rw[show (gi (TV W a p name).IF c).cur=(gi W.IF c).cur from rfl,show Q8 (TV W a p name) (gi W.IF c).cur=Q8 W (gi W.IF c).cur from rfl,hpt];rw[A',List.all_eq_true] at y5 ⊢;exact⟨y5.1,λx hx=>by rw[My ha h (Yy ha.tree _ kU x hx).1];exact y5.2 x hx⟩
  ·unfold P7 VS at y6 ⊢;rw[show (gi (TV W a p name).IF c).cur=(gi W.IF c).cur from rfl,show (gi (TV W a p name).IF c).WC=(gi W.IF c).WC from rfl,show Q8 (TV W a p name) (gi W.IF c).cur=Q8 W (gi W.IF c).cur from rfl,hpt,My ha h kU];rw[A',List.all_eq_true] at y6 ⊢;refine⟨y6.1,λx hx=>?_⟩;obtain⟨xu,xz⟩:=Yy ha.tree _ kU x hx;rw[My ha h xu,GJ ha h xu,My ha h (hpu xu xz)];exact y6.2 x hx
 ·have cl:c<(W.IF.length:Int):=c1
  have Aa1:∀j,j<20->QX (TV W a p name) k c j=QX W k c j:=λj hj=>by
   by_cases tG:j<12
   ·rw[XN tG,XN tG];rfl
   ·rw[show j=12+(j-12) by omega,YZ,YZ,zk0 ha h c0 cl (j-12) Qo]
  rcases (D3 ha h).1 hu with hk|rfl
  ·have hv:∀j,j<20->QX (TV W a p name) k c j->QZ (TV W a p name) c j=QZ W c j:=λj hj hm=>by
    unfold QZ;split
    ·rfl
    ·rename_i tG;rw[Aa1 j hj,show j=12+(j-12) by omega,YZ] at hm;unfold Xy at hm;simp only[A'] at hm;rw[My ha h (Q5.2 ⟨Qo,Qo,hm.1.2.1⟩)]
   have e:QN (QX (TV W a p name) k c) (QZ (TV W a p name) c) 20=QN (QX W k c) (QZ W c) 20:=Pl Aa1 hv;have pY:=iv.fl k c hk c0 cl (by unfold ZO at hb ⊢;rwa[e] at hb);rw[My ha h hk];refine Int.le_trans (Int.le_of_eq ?_) pY;unfold ZO at hb;have hb:=Ot hb;rw[e] at hb;unfold Zc;rw[e,E' Qo,E' Qo];rcases Z9 (QX W k c) (QZ W c) 20 with ⟨q,_⟩|⟨_,q2,q3,_⟩
   ·omega
   ·have IX:(QN (QX W k c) (QZ W c) 20).toNat<20:=Qo;exact hv _ IX (by rw[Aa1 _ IX];exact q3)
  ·exfalso
   unfold ZO at hb;have hb:=Ot hb;rcases Z9 (QX (TV W k p name) k c) (QZ (TV W k p name) c) 20 with ⟨q,_⟩|⟨_,q2,q3,_⟩
   ·omega
   ·rw[Aa1 _ Qo,ze3 wp h _ Qo] at q3;cases q3
end
def zpk{W:Q7}(ha:WA W){k c d:Int}(hu:Q6 W.IE k)(hd:dep 3 W.IE k=d)(d1:1<=d)(c0:0<=c)(c1:c<(W.IF.length:Int)) :
  WA (RR W k c (Yq W k c))/\Uk (RR W k c (Yq W k c)) c k/\∀g:Int,Q6 W.IE g->g≠k->(gi W.IE k).IG≠g->Uk W c g->Uk (RR W k c (Yq W k c)) c g:=by
 have hz:k≠0:=λe=>by subst e;rw[Ye] at hd;omega
 obtain⟨u0,u1,_⟩:=Q5.1 hu;have hl:=ha.gl;have hsl:=ha.sl hu;have yP:c<((gi W.IE k).IH.length:Int):=Qo
 have hpk:(gi W.IE k).IG≠k:=λe=>by
  obtain⟨_,_,_,n,e1,e2,_⟩:=ZR ha.tree hu hz;rw[e] at e2;omega
 have e:∀{i j:Int},0<=i->0<=j->Qb (RR W k c (Yq W k c)) i j=if k=i/\c=j then Yq W k c else Qb W i j:=λhi hj=>Jg u0 u1 c0 yP hi hj
 have hT:=Xu (W:=W) (g:=k) (c:=c) (s:=Yq W k c) u0 u1
 have act:∀g:Int,(gi W.IE k).IG≠g->QA (RR W k c (Yq W k c)) g c=QA W g c:=λg hg=>by
  refine TC (W:=W) (W':=RR W k c (Yq W k c)) rfl hT λj hj _ _ hp=>?_
  rw[e Qo c0,E'];rintro⟨h,_⟩;exact hg (by rw[h];exact hp)
 refine⟨ha.RR u0 Qo,?_,λg gu gk hg h=>?_⟩
 ·unfold Uk;rw[e u0 c0,H' ⟨rfl,rfl⟩,act k hpk,L9 u0 u1 u0];rfl
 ·unfold Uk;have g0:=(Q5.1 gu).1;rw[e g0 c0,E' λh=>gk h.1.symm,act g hg,L9 u0 u1 g0];exact h
def zg1{W:Q7}(ha:WA W){c d:Int}(d1:1<=d)(c0:0<=c)(c1:c<(W.IF.length:Int))(hI:∀g:Int,Q6 W.IE g->d<dep 3 W.IE g->Uk W c g):∀k:Nat,k<=8->
  WA (ZW W c d k)/\JD W (ZW W c d k)/\∀g:Int,Q6 W.IE g->d<dep 3 W.IE g\/dep 3 W.IE g=d/\g<(k:Int)->Uk (ZW W c d k) c g
 |0,_=>⟨ha,JD.refl _,λg gu h=>hI g gu (by
   rcases h with h|h
   ·exact h
   ·have:=(Q5.1 gu).1;have:=h.2;omega)⟩
 |k+1,hk=>by
  obtain⟨a,b,ih⟩:=zg1 ha d1 c0 c1 hI k Qo;have hl:=a.gl;have hT:=b.g;simp only[ZW];split
  ·rename_i hc;have hu:Q6 (ZW W c d k).IE (k:Int):=Q5.2 ⟨Qo,Qo,hc.1⟩;obtain⟨l1,l3,l4⟩:=zpk a hu hc.2 d1 c0 (c:=c) (by rw[b.c];exact c1);refine⟨l1,b.trans (M5 Qo Qo),λg gu h=>?_⟩
   by_cases e:g=(k:Int)
   ·subst e;exact l3
   ·have hkz:(k:Int)≠0:=λe=>by have:=hc.2;rw[e,Ye] at this;omega
    obtain⟨_,_,_,n,e1,e2,_⟩:=ZR a.tree hu hkz;refine l4 g (by rw[hT.dW];exact gu) e (λhp=>?_) (ih g gu ?_)
    ·rw[hp,hT.dep] at e2;have:=hc.2;omega
    ·rcases h with h|h
     ·exact .inl h
     ·exact .inr ⟨h.1,by have:=h.2;omega⟩
  ·rename_i hc;refine⟨a,b,λg gu h=>ih g gu ?_⟩;rcases h with h|h
   ·exact .inl h
   ·refine .inr ⟨h.1,?_⟩
    by_cases e:g=(k:Int)
    ·subst e;exact It ⟨by rw[hT.u];exact(Q5.1 gu).2.2,by rw[hT.dep];exact h.1⟩ hc
    ·have:=h.2;omega
def zmo{W:Q7}(ha:WA W){c:Int}(c0:0<=c)(c1:c<(W.IF.length:Int)):WA (QQ W c)/\JD W (QQ W c)/\∀g:Int,Q6 W.IE g->g≠0->Uk (QQ W c) c g:=by
 have key:∀j:Nat,j<=3->WA (XM W c j)/\JD W (XM W c j)/\∀g:Int,Q6 W.IE g->3-(j:Int)<dep 3 W.IE g->Uk (XM W c j) c g:=by
  intro j
  induction j with
  |zero=>exact λ_=>⟨ha,JD.refl _,λg gu h=>by have:=(OD ha gu).2;omega⟩
  |succ j ih=>
   intro hj;obtain⟨a,b,h⟩:=ih Qo;have hT:=b.g;obtain⟨a2,b2,h2⟩:=zg1 a (c:=c) (d:=3-(j:Int)) Qo c0 (by rw[b.c];exact c1) (λg gu hd=>h g (by rwa[hT.dW] at gu) (by rwa[hT.dep] at hd)) 8 (I9 _);refine⟨a2,b.trans b2,λg gu hd=>h2 g (by rw[hT.dW];exact gu) ?_⟩;rw[hT.dep];have:=(Q5.1 gu).2.1;have:=ha.gl
   by_cases e:dep 3 W.IE g=3-(j:Int)
   ·exact .inr ⟨e,Qo⟩
   ·exact .inl Qo
 obtain⟨a,b,h⟩:=key 3 (I9 _);refine⟨a,b,λg gu gz=>h g gu ?_⟩;obtain⟨_,_,_,n,e1,_⟩:=ZR ha.tree gu gz;omega
def zcs{W:Q7}(ha:WA W){c d:Int}(d1:1<=d)(c0:0<=c)(c1:c<(W.IF.length:Int)):∀k:Nat,k<=8->DB c W (ZW W c d k)/\WA (ZW W c d k)
 |0,_=>⟨DB.refl _ _,ha⟩
 |k+1,hk=>by
  obtain⟨o,a⟩:=zcs ha d1 c0 c1 k Qo;have hl:=a.gl;simp only[ZW];split
  ·rename_i hc;have hu:Q6 (ZW W c d k).IE (k:Int):=Q5.2 ⟨Qo,Qo,hc.1⟩;exact⟨o.trans (EI Qo Qo c0 (by rw[a.sl hu,o.len];exact c1)),a.RR Qo Qo⟩
  ·exact⟨o,a⟩
def zja{W:Q7}(ha:WA W){c:Int}(c0:0<=c)(c1:c<(W.IF.length:Int)):DB c W (QQ W c):=by
 have key:∀j:Nat,j<=3->DB c W (XM W c j)/\WA (XM W c j):=by
  intro j
  induction j with
  |zero=>exact λ_=>⟨DB.refl _ _,ha⟩
  |succ j ih=>
   intro hj;obtain⟨o,a⟩:=ih Qo;obtain⟨o2,a2⟩:=zcs a (c:=c) (d:=3-(j:Int)) Qo c0 (by rw[o.len];exact c1) 8 (I9 _);exact⟨o.trans o2,a2⟩
 exact(key 3 (I9 _)).1
structure Dm (W:Q7) (c:Int):Prop where
 on:∀k:Int,Q6 W.IE k->k≠0->Uk W c k
 cu:0<=(gi W.IF c).cur->(Q8 W (gi W.IF c).cur).R8=c/\Zi W (gi W.IF c).cur=true
def zog{W:Q7}(wp:Xw W){c:Int}(c0:0<=c)(c1:c<(W.IF.length:Int)):Dm W c:=
 ⟨λk hu hz=>(GX wp hu c0 c1).on hz,λh=>⟨((wp.c c c0 c1).yes h).2.2.2.1,((wp.c c c0 c1).yes h).2.2.2.2.1⟩⟩
def Dm.oth{K:Int}{c d:Int}{W W':Q7}(h:Dm W d)(sw:SW K W)(o:DB c W W')(d0:0<=d)(d1:d<(W.IF.length:Int))(hd:d≠c):Dm W' d:=by
 refine⟨λk hu hz=>?_,λh0=>?_⟩
 ·rw[o.g.dW] at hu;have k0:=(Q5.1 hu).1;have:=h.on k hu hz;unfold Uk at this ⊢;rw[o.e k d k0 d0 hd,o.bF d0 hd,zec (o.b k k0)];exact this
 ·rw[o.cp d d0 hd] at h0 ⊢;rw[XR o.t];obtain⟨h1,h2⟩:=h.cu h0;refine⟨h1,?_⟩
  have hs:(Q8 W (gi W.IF d).cur).state=1:=by
   unfold Zi at h2;rw[A'] at h2;exact IA h2.1
  have hu:=(sw.t _ h0 (sw.cu d d0 d1).2 (by rw[hs];decide)).1;rw[o.line sw.a.tree hu (by rw[h1];exact d0) (by rw[h1];exact hd)];exact h2
def zhx{K:Int}{W:Q7}(sw:SW K W){c:Int}(c0:0<=c)(c1:c<(W.IF.length:Int)):DB c W (VG W c)/\Dm (VG W c) c:=by
 obtain⟨p1,os,hon⟩:=zmo sw.a c0 c1;have ol:=zja sw.a c0 c1;obtain⟨f,hA,_⟩:=Ef p1 c0 (c:=c) (by rw[os.c];exact c1) 8 (I9 _);have f:FC c (QQ W c) (Zq (QQ W c) c):=f;have hon:∀g:Int,Q6 (QQ W c).IE g->g≠0->Uk (QQ W c) c g:=λg gu gz=>hon g (by rwa[os.g.dW] at gu) gz
 have aU:VG W c=if MM (Zq (QQ W c) c) c=true then RG (Zq (QQ W c) c) c else Zq (QQ W c) c:=rfl;have hO:DB c W (Zq (QQ W c) c):=ol.trans f.o;have hFc:(Zq (QQ W c) c).IF.length=W.IF.length:=hO.len;have hT:=f.o.g
 have BW1:∀k:Int,Q6 (Zq (QQ W c) c).IE k->k≠0->Uk (Zq (QQ W c) c) c k:=λk hu hz=>by
  rw[hT.dW] at hu;have k0:=(Q5.1 hu).1;have:=hon k hu hz;unfold Uk at this ⊢;rw[f.on k c k0 c0,TC f.o.t hT λj _ _ _ _=>f.on _ c Qo c0,zec (f.o.b k k0)];exact this
 rw[aU];clear aU;generalize Zq (QQ W c) c=F at BW1 hO hFc;have cF:c<(F.IF.length:Int):=by rw[hFc];exact c1
 split
 ·refine⟨hO.trans (zg6 c0 cF),BW1,λh0=>?_⟩;rw[show gi (RG F c).IF c=XB (gi F.IF c) from (QD _ _ c0 cF c0).trans (H' rfl)] at h0;have h0:(0:Int)<=-1:=h0;omega
 ·rename_i hg;have hg:MM F c=false:=by simpa using hg
  refine⟨hO,BW1,λh0=>?_⟩;unfold MM at hg;rw[Ij h0,Bool.true_and,I1] at hg;exact⟨by simpa using hg.1,by simpa using hg.2⟩
def zhv{K:Int}{W:Q7}(sw:SW K W)(hK:0<=K):∀c:Nat,c<=W.IF.length->∀d:Int,0<=d->d<(c:Int)->Dm (JQ W c) d
 |0,_=>λd a b=>by omega
 |c+1,hc=>λd d0 d1=>by
  obtain⟨s1,f1⟩:=KS sw hK c Qo;obtain⟨o,dm⟩:=zhx s1 (c:=(c:Int)) Qo (by rw[f1.c];omega)
  by_cases h:d=(c:Int)
  ·subst h;exact dm
  ·exact(zhv sw hK c Qo d d0 Qo).oth s1 o d0 (by rw[f1.c];omega) h
def znb{K:Int}{W:Q7}(sw:SW K W)(hK:0<=K){d:Int}(d0:0<=d)(d1:d<(W.IF.length:Int)):Dm (Qh W) d:=by
 obtain⟨s1,o1⟩:=Ov (F:=K) (K:=K+Qp) (sw.sf.mono (I4 _) (by simp only[Qp];omega)) (I4 _) W.IF.length (I9 _);obtain⟨s2,b2⟩:=TJ s1 8 (I9 _);exact zhv s2.w (by simp only[Qp];omega) W.IF.length (by show W.IF.length<=(X1 (YV W W.IF.length) 8).IF.length;rw[b2.c,o1.c];exact I9 _) d d0 d1
structure zj4 (W:Q7) (t c:Int):Prop where
 t0:0<=t
 t1:t<12
 st:(Q8 W t).state=1
 R8:(Q8 W t).R8=c
 on:∀x∈QV W.IE (Q8 W t).II,(Qb W x c).on=true
def zmx{W:Q7}(ha:WA W){c:Int}(f:Nat):∀g:Int,Q6 W.IE g->(4-dep 3 W.IE g).toNat=f->(∀x∈QV W.IE g,(Qb W x c).on)->0<=U5 W g c->zj4 W (U5 W g c) c:=by
 induction f with
 |zero=>
  intro g hu hf;have:=OD ha hu;omega
 |succ f ih=>
  intro g hu hf hp h;rw[Ox ha hu] at h ⊢
  by_cases h1:Qi W g c<0
  ·rw[H' h1] at h;omega
  ·rw[E' h1] at h ⊢
   by_cases h2:Qi W g c<12
   ·rw[H' h2] at h ⊢
    have hm:QX W g c (Qi W g c).toNat:=by
     rcases Z9 (QX W g c) (QZ W c) 20 with ⟨a,_⟩|⟨_,_,a,_⟩
     ·unfold Qi at h1;omega
     ·exact a
    rw[XN Qo] at hm;unfold VT at hm;rw[show (((Qi W g c).toNat:Nat):Int)=Qi W g c by omega] at hm;simp only[A',Iu] at hm;refine⟨h,h2,hm.1.1,hm.2,?_⟩;rw[show (Q8 W (Qi W g c)).II=g from hm.1.2];exact hp
   ·rw[E' h2] at h ⊢;obtain⟨k1,k2,k3,k4⟩:=Oq ha hu (g:=g) (c:=c) Qo
    have hm:QX W g c (Qi W g c).toNat:=by
     rcases Z9 (QX W g c) (QZ W c) 20 with ⟨a,_⟩|⟨_,_,a,_⟩
     ·unfold Qi at h1;omega
     ·exact a
    rw[show (Qi W g c).toNat=12+(Qi W g c-12).toNat by omega,YZ] at hm;unfold Xy at hm;rw[show (((Qi W g c-12).toNat:Nat):Int)=Qi W g c-12 by omega] at hm;simp only[A',Iu] at hm;refine ih _ k1 Qo (λx hx=>?_) h;rw[Yb ha.tree k1 k2] at hx;rcases Ik.1 hx with e|e
    ·rw[e];exact hm.2
    ·rw[hm.1.2.2] at e;exact hp x e
def zcw{W:Q7}(ha:WA W){c:Int}(h12:(gi W.IF c).cur<12)(hcu:0<=(gi W.IF c).cur->(Q8 W (gi W.IF c).cur).R8=c/\Zi W (gi W.IF c).cur)(h:¬Qj W c<0):zj4 W (Qj W c) c:=by
 unfold Qj at h ⊢;split
 ·rename_i hc;obtain⟨h1,h2⟩:=hcu hc.1;unfold Zi JM at h2;rw[A',List.all_eq_true,h1] at h2;exact⟨hc.1,h12,IA h2.1,h1,h2.2⟩
 ·rename_i hc;rw[E' hc] at h;exact zmx ha _ 0 ha.root rfl (λx hx=>by rw[show QV W.IE 0=[] from Zf _ _] at hx;cases hx) Qo
structure VN (W W':Q7):Prop where
 n:W'.now=W.now
 t:W'.IK=W.IK
 s:∀i d:Int,(Qb W' i d).sum=(Qb W i d).sum
 g:∀i:Int,(gi W'.IE i).sum=(gi W.IE i).sum
 b:∀i:Int,(gi W'.IF i).busy=(gi W.IF i).busy
 i:∀i:Int,(gi W'.IF i).idle=(gi W.IF i).idle
 u:∀i:Int,(gi W'.IF i).up=(gi W.IF i).up
 r:∀i:Int,(gi W'.IF i).WC=(gi W.IF i).WC\/(gi W'.IF i).WC=0
def VN.refl(W:Q7):VN W W:=⟨rfl,rfl,λ_ _=>rfl,λ_=>rfl,λ_=>rfl,λ_=>rfl,λ_=>rfl,λ_=>.inl rfl⟩
def VN.trans{A B C:Q7}(h:VN A B)(k:VN B C):VN A C:=
 ⟨k.n.trans h.n,k.t.trans h.t,λi d=>(k.s i d).trans (h.s i d),λi=>(k.g i).trans (h.g i),λi=>(k.b i).trans (h.b i),λi=>(k.i i).trans (h.i i),λi=>(k.u i).trans (h.u i),λi=>by
  rcases k.r i with e|e
  ·rcases h.r i with e2|e2
   ·exact .inl (e.trans e2)
   ·exact .inr (e.trans e2)
  ·exact .inr e⟩
def zqs(W:Q7){g c:Int}{s:MK}(h:s.sum=(Qb W g c).sum):VN W (RR W g c s):=
 ⟨rfl,rfl,λi d=>YF (f:=λG:ZL=>(gi G.IH d).sum) W.IE g (x:={ gi W.IE g with IH:=(gi W.IE g).IH.set c.toNat s }) (YF (f:=MK.sum) (gi W.IE g).IH c h d) i,λi=>YF (f:=ZL.sum) W.IE g (x:={ gi W.IE g with IH:=(gi W.IE g).IH.set c.toNat s }) rfl i,λ_=>rfl,λ_=>rfl,λ_=>rfl,λ_=>.inl rfl⟩
def zqr(W:Q7)(g:Int)(b:Jx):VN W (WW W g b):=
 ⟨rfl,rfl,λi d=>YF (f:=λG:ZL=>(gi G.IH d).sum) W.IE g (x:={ gi W.IE g with IY:=b }) rfl i,λi=>YF (f:=ZL.sum) W.IE g (x:={ gi W.IE g with IY:=b }) rfl i,λ_=>rfl,λ_=>rfl,λ_=>rfl,λ_=>.inl rfl⟩
def zmc{α:Type}[Inhabited α](l:List α)(k:Int)(x:α)(i:Int):gi (l.set k.toNat x) i=gi l i\/gi (l.set k.toNat x) i=x:=by
 unfold gi;simp only[List.getD_eq_getElem?_getD,List.getElem?_set];split
 ·split
  ·exact .inr rfl
  ·rename_i e hl;refine .inl ?_;rw[show l[i.toNat]? = none from List.getElem?_eq_none_iff.2 Qo]
 ·exact .inl rfl
def zln(W:Q7)(c:Int):VN W (RG W c):=
 ⟨rfl,rfl,λ_ _=>rfl,λ_=>rfl,λi=>YF (f:=Pe.busy) W.IF c (x:=XB (gi W.IF c)) rfl i,λi=>YF (f:=Pe.idle) W.IF c (x:=XB (gi W.IF c)) rfl i,λi=>YF (f:=Pe.up) W.IF c (x:=XB (gi W.IF c)) rfl i,λi=>by
  rcases zmc W.IF c (XB (gi W.IF c)) i with e|e
  ·exact .inl (by show (gi (W.IF.set c.toNat (XB (gi W.IF c))) i).WC=_;rw[e])
  ·exact .inr (by show (gi (W.IF.set c.toNat (XB (gi W.IF c))) i).WC=0;rw[e];rfl)⟩
def F7(W:Q7)(c d:Int):∀k:Nat,VN W (ZW W c d k)
 |0=>VN.refl _
 |k+1=>by
  simp only[ZW];split
  ·exact(F7 W c d k).trans (zqs _ rfl)
  ·exact F7 W c d k
def H2(W:Q7)(c:Int):∀j:Nat,VN W (XM W c j)
 |0=>VN.refl _
 |j+1=>(H2 W c j).trans (F7 _ _ _ _)
def CM(W:Q7):∀c:Nat,VN W (YV W c)
 |0=>VN.refl _
 |c+1=>(CM W c).trans (H2 (YV W c) (c:Int) 3)
def F5(W:Q7)(k:Int):∀c:Nat,VN W (YG W k c)
 |0=>VN.refl _
 |c+1=>by
  simp only[YG];split
  ·exact(F5 W k c).trans (zqr _ _ _)
  ·exact F5 W k c
def F6(W:Q7):∀k:Nat,VN W (X1 W k)
 |0=>VN.refl _
 |k+1=>by
  simp only[X1];split
  ·exact(F6 W k).trans (F5 _ _ _)
  ·exact F6 W k
def H1(W:Q7)(c:Int):∀k:Nat,VN W (Z3 W c k)
 |0=>VN.refl _
 |k+1=>by
  simp only[Z3];split
  ·exact(H1 W c k).trans (zqs _ rfl)
  ·exact H1 W c k
def zng(W:Q7)(c:Int):VN W (VG W c):=by
 have h:=(H2 W c 3).trans (H1 (QQ W c) c 8);unfold VG;split
 ·exact h.trans (zln _ _)
 ·exact h
def zdd(W:Q7):∀c:Nat,VN W (JQ W c)
 |0=>VN.refl _
 |c+1=>(zdd W c).trans (zng (JQ W c) (c:Int))
def zju(W:Q7):VN W (Qh W):=((CM W W.IF.length).trans (F6 (YV W W.IF.length) 8)).trans (zdd (LX (YV W W.IF.length)) W.IF.length)
structure RB (S:Int) (W:Q7):Prop where
 n:W.now<=50000000000000000
 t:∀t:Int,0<=t->t<12->0<=(Q8 W t).sum/\(Q8 W t).sum<=S/\0<=(Q8 W t).IW/\(Q8 W t).IW<=S
 s:∀k c:Int,Q6 W.IE k->0<=c->c<(W.IF.length:Int)->0<=(Qb W k c).sum/\(Qb W k c).sum<=S
 g:∀k:Int,Q6 W.IE k->0<=(gi W.IE k).sum/\(gi W.IE k).sum<=S
 c:∀c:Int,0<=c->c<(W.IF.length:Int)->0<=(gi W.IF c).busy/\(gi W.IF c).busy<=S/\0<=(gi W.IF c).idle/\(gi W.IF c).idle<=50000000000000000/\0<=(gi W.IF c).WC/\(gi W.IF c).WC<=149
def RB.sum{S:Int}{W W':Q7}(h:RB S W)(k:VN W W')(hT:QY W.IE W'.IE)(hl:W'.IF.length=W.IF.length):RB S W':=by
 refine⟨by rw[k.n];exact h.n,λt a b=>by rw[XR k.t];exact h.t t a b,λi c u a b=>?_,λi u=>?_,λc a b=>?_⟩
 ·rw[hT.dW] at u;rw[hl] at b;rw[k.s];exact h.s i c u a b
 ·rw[hT.dW] at u;rw[k.g];exact h.g i u
 ·rw[hl] at b;have:=h.c c a b;rw[k.b,k.i];refine⟨this.1,this.2.1,this.2.2.1,this.2.2.2.1,?_⟩;rcases k.r c with e|e
  ·rw[e];exact this.2.2.2.2
  ·rw[e];exact⟨Qo,Qo⟩
def zwb{W:Q7}(wp:Xw W)(r:LO W):RB Qt W:=by
 have hl:=wp.a.gl;have ht:=wp.a.t;refine⟨r.n,λt a b=>?_,λk c u a b=>?_,λk u=>?_,λc a b=>?_⟩
 ·have h:=r.t t a Qo;rcases wp.t t a b with hz|⟨_,hx⟩
  ·rw[hz.2];decide
  ·exact⟨(Y2.1 hx.s).1,h.2.1,(Y2.1 hx.u).1,h.2.2⟩
 ·obtain⟨u0,u1,_⟩:=Q5.1 u;have hs:=wp.a.sl u;exact⟨(Y2.1 (GX wp u a b).s).1,(r.s k c u0 u1 a Qo).2.2⟩
 ·obtain⟨u0,u1,hg⟩:=wp.a.u u;exact⟨(Y2.1 hg.s).1,r.g k u0 Qo⟩
 ·have hc:=wp.c c a b;have hr:=r.c c a b;refine⟨(Y2.1 hc.b).1,hr.1,(Y2.1 hc.i).1,hr.2,?_⟩
  by_cases h:(gi W.IF c).cur<0
  ·rw[hc.no h];decide
  ·have:=hc.yes Qo;omega
def zhz{b:Jx}(h:VL b){c:Int}(c0:0<=c)(c1:c<(b.locals.length:Int)):VL (YJ b c).1/\(YJ b c).1.locals.length=b.locals.length/\(YJ b c).1.R4=b.R4:=by
 unfold YJ;split
 ·exact⟨h,rfl,rfl⟩
 ·rename_i hn;have hm:=ze1 h.p1;have he:=h.each c c0 c1;have hs:=KT b.locals c (Y1 20 b.Sy) c0 c1 b.locals.length;rw[H' c1] at hs;have p2:=h.p2;have su:=h.sum;have dl:=h.dl;refine⟨⟨h.q1,h.q2,?_,?_,?_,?_,?_,h.s1,h.s2,λd d0 d1=>?_,?_⟩,Qs,rfl⟩
  ·simp only[I0];exact h.l1
  ·simp only[I0];exact h.l2
  ·simp only[I0];exact h.dl
  ·show 0<=b.Sy-Y1 20 b.Sy;omega
  ·show b.Sy-Y1 20 b.Sy<=b.R4;omega
  ·simp only[I0] at d1;have hd:=h.each d d0 d1;show 0<=gi (b.locals.set c.toNat (Y1 20 b.Sy)) d/\gi (b.locals.set c.toNat (Y1 20 b.Sy)) d<=b.R4/\(gi (b.RW.set c.toNat (Y1 20 b.Sy==0)) d=true->gi (b.locals.set c.toNat (Y1 20 b.Sy)) d=0/\b.Sy-Y1 20 b.Sy=0);rw[QD _ _ c0 c1 d0,QD _ _ c0 Qo d0];have hz:Y1 20 b.Sy=0->b.Sy=0:=λe=>by unfold Y1 at e;split at e <;> omega
   by_cases e:c=d
   ·subst e;rw[H' rfl,H' rfl];refine⟨hm.1,Qo,λhd0=>?_⟩;have e0:Y1 20 b.Sy=0:=IA hd0;have:=hz e0;exact⟨e0,Qo⟩
   ·rw[E' e,E' e];refine⟨hd.1,hd.2.1,λhd0=>?_⟩;have:=hd.2.2 hd0;exact⟨this.1,Qo⟩
  ·show b.Sy-Y1 20 b.Sy+b.WI+Uo (b.locals.set c.toNat (Y1 20 b.Sy)) (b.locals.set c.toNat (Y1 20 b.Sy)).length=b.R4;rw[I0,hs];omega
def zc8{b:Jx}(h:VL b){c n:Int}(c0:0<=c)(c1:c<(b.locals.length:Int)):VL (Tq b c n).1/\(Tq b c n).1.locals.length=b.locals.length/\(Tq b c n).1.R4=b.R4:=by
 unfold Tq;split
 ·exact⟨h,rfl,rfl⟩
 ·rename_i hn;have hs:=KT b.locals c (gi b.locals c-n) c0 c1 b.locals.length;rw[H' c1] at hs;have hnn:=(zfo (λd d0 d1=>(h.each d d0 d1).1) c0 b.locals.length (I9 _)).2 c1;have p1:=h.p1;have su:=h.sum;have s1:=h.s1;have dl:=h.dl;have hn1:¬n<1:=λe=>hn (.inl e)
  have hn2:¬n>gi b.locals c:=λe=>hn (.inr e)
  refine⟨⟨h.q1,h.q2,?_,?_,?_,h.p1,h.p2,?_,?_,λd d0 d1=>?_,?_⟩,Qs,rfl⟩
  ·simp only[I0];exact h.l1
  ·simp only[I0];exact h.l2
  ·simp only[I0];exact h.dl
  ·show 0<=b.WI+n;omega
  ·show b.WI+n<=b.R4;omega
  ·simp only[I0] at d1;have hd:=h.each d d0 d1;show 0<=gi (b.locals.set c.toNat (gi b.locals c-n)) d/\gi (b.locals.set c.toNat (gi b.locals c-n)) d<=b.R4/\(gi b.RW d=true->gi (b.locals.set c.toNat (gi b.locals c-n)) d=0/\b.Sy=0);rw[QD _ _ c0 c1 d0]
   by_cases e:c=d
   ·subst e;rw[H' rfl];exact⟨Qo,Qo,λhd0=>by have:=(hd.2.2 hd0).1;omega⟩
   ·rw[E' e];exact hd
  ·show b.Sy+(b.WI+n)+Uo (b.locals.set c.toNat (gi b.locals c-n)) (b.locals.set c.toNat (gi b.locals c-n)).length=b.R4;rw[I0,hs];omega
def zat(b:Jx)(c:Int):Nat->Nat
 |0=>0
 |d+1=>zat b c d+if (d:Int)≠c/\gi b.locals (d:Int)>0 then 1 else 0
def zjz(b:Jx)(c:Int):Nat:=if gi b.RW c=true then 0 else 1
def XQ(b:Jx)(c:Int):Nat:=9*zat b c 4+zjz b c
def zkq(b:Jx)(c:Int):∀n:Nat,zat b c n<=n
 |0=>I9 _
 |n+1=>by
  have:=zkq b c n;simp only[zat]
  split <;> omega
def zs5(b:Jx)(c:Int):XQ b c<=37:=by
 have:=zkq b c 4;unfold XQ zjz
 split <;> omega
def zbw(W:Q7)(c:Int):Nat->Nat
 |0=>0
 |k+1=>zbw W c k+XQ (gi W.IE (k:Int)).IY c
def Ka(W:Q7)(c:Int):Nat:=zbw W c 8
def Li{W W':Q7}{c:Int}(h:∀k:Nat,k<8->XQ (gi W'.IE (k:Int)).IY c<=XQ (gi W.IE (k:Int)).IY c):∀k:Nat,k<=8->zbw W' c k<=zbw W c k
 |0,_=>I9 _
 |k+1,hk=>by
  have:=Li h k Qo;have:=h k Qo;simp only[zbw];omega
def zk8{W W':Q7}{c:Int}(h:∀k:Nat,k<8->XQ (gi W'.IE (k:Int)).IY c<=XQ (gi W.IE (k:Int)).IY c){j:Nat}(hj:XQ (gi W'.IE (j:Int)).IY c<XQ (gi W.IE (j:Int)).IY c):∀k:Nat,j<k->k<=8->zbw W' c k<zbw W c k
 |0,h0,_=>It h0 (Nat.not_lt_zero j)
 |k+1,gY,hk=>by
  have h1:=Li h k Qo;have h2:=h k Qo;simp only[zbw]
  by_cases e:j=k
  ·subst e;omega
  ·have:=zk8 h hj k Qo Qo;omega
def zs7(W:Q7)(c:Int):Ka W c<=296:=by
 have key:∀k:Nat,zbw W c k<=37*k:=by
  intro k
  induction k with
  |zero=>exact I9 _
  |succ k ih=>
   have:=zs5 (gi W.IE (k:Int)).IY c;simp only[zbw];omega
 exact key 8
def Ld{b b':Jx}{c:Int}(h:∀d:Nat,(d:Int)≠c->gi b'.locals (d:Int)=gi b.locals (d:Int)):∀n:Nat,zat b' c n=zat b c n
 |0=>rfl
 |n+1=>by
  simp only[zat];rw[Ld h n]
  by_cases e:(n:Int)=c
  ·simp[e]
  ·rw[h n e]
def zgp{b b':Jx}{c:Int}{e:Nat}(he:(e:Int)≠c)(h0:gi b'.locals (e:Int)=0)(h1:gi b.locals (e:Int)>0)(h:∀d:Nat,d≠e->gi b'.locals (d:Int)=gi b.locals (d:Int)):∀n:Nat,zat b' c n+(if e<n then 1 else 0)=zat b c n
 |0=>rfl
 |n+1=>by
  have ih:=zgp he h0 h1 h n;simp only[zat]
  by_cases hn:n=e
  ·subst hn;rw[E' (Nat.lt_irrefl n)] at ih;rw[H' (Nat.lt_succ_self n),E' (by rintro⟨_,h⟩;omega),H' ⟨he,h1⟩];omega
  ·rw[h n hn];generalize (if (n:Int)≠c/\gi b.locals (n:Int)>0 then 1 else 0)=y
   by_cases IX:e<n
   ·rw[H' IX] at ih;rw[H' Qo];omega
   ·rw[E' IX] at ih;rw[E' Qo];omega
end Go.Proofs.YtjinkcmkgnofjaaGreat
