/- Part 10 of what the law FnPick needs. -/
import Derived.Test.YtjinkcmkgnofjaaGreatFnPickPi
import Derived.Laws.BytesArg
set_option linter.all false
set_option maxRecDepth 100000
set_option maxHeartbeats 8000000
namespace Go.Proofs.YtjinkcmkgnofjaaGreat
open Go.RowKit
def zna{α:Type}[Inhabited α]{l:List α}{i:Int}(h0:0<=i)(h1:i<(l.length:Int)):l.set i.toNat (gi l i)=l:=by
 obtain⟨k,rfl⟩:=Int.eq_ofNat_of_zero_le h0;rw[XT Qo,Ii,List.set_getElem_self]
section
variable {n base:Nat}{W:Q7}{m:MW}{w w':Wo}{G G':ZL}{i:Int}
end
section
variable {base:Nat}{W:Q7}{m:MW}{w:Wo}
def zeo{W W':Q7}(h:Fr W W'):W'.IF.length=W.IF.length/\W'.IK.length=W.IK.length/\W'.IE.length=W.IE.length:=⟨h.c,by rw[h.t],h.g.len⟩
def ziw{n:Nat}{bs:List Nat}{w0 w:Wo}{W0 W:Q7}{m0 m:MW}(h:Mv n base bs w0 m0 w W m)(hf:Fr W0 W):Qa W m=Qa W0 m0:=h.AI5 hf.n hf.c (by rw[hf.t]) hf.g.len
def Qu{K:Int}(h:Yn 8 base w W m)(pR:SW K W)(hK0:0<=K)(hK:K<=100000000000000000)(rQ:base<=w.heap.size) :
  Cz Qn #[.agg (Qa W m).toArray] w λe w'=>∃m',e=.returned (.agg (Qa (Qh W) m').toArray)/\Mv 8 base [] w m w' (Qh W) m':=by
 refine(Br _ _ _ _ _ _ _ _ _ _ (R:=λv w'=>∃m',v=.agg (Qa (Qh W) m').toArray/\Mv 8 base [] w m w' (Qh W) m') ?_).mono λe w' ⟨v,he,m',hv,h3⟩=>⟨m',by rw[he,hv],h3⟩
 intro x hx x1 SD;have cN:=pR.a.gl;have Ch2:=pR.a.c2;have hm9:=Zp;refine⟨λvs w1=>∃(k:Nat),vs=I (k:Int)::Qa W m/\k<=W.IF.length/\Mv 8 base [x,x1] w m w1 (YV W k) m,Zk W.IF.length 0,λw1 tJ _=>⟨0,rfl,Ig _,(Mv.two h hx SD).RJ tJ⟩,?_⟩;rintro c1 l Sd Sm Sr Sj So Sq Se Sf Sg RH Wg ⟨k,he,hk,hM⟩;obtain⟨hS,hO⟩:=Ov (F:=K) (K:=K+Qp) (pR.sf.mono (I4 _) (by simp only[Qp];omega)) (I4 _) k hk;have aU:YV W (k+1)=QQ (YV W k) (k:Int):=rfl;have AB1:k=W.IF.length->YV W W.IF.length=YV W k:=λe=>by rw[e]
 have e0:=ziw hM hO.fr;obtain⟨n1,n2,n3⟩:=zeo hO.fr;simp only[Qa,I6,I7,Iy,true_and,and_true] at he;obtain⟨rfl,rfl,⟨rfl,rfl,rfl⟩,⟨rfl,rfl,rfl⟩,rfl,rfl,rfl⟩:=he;generalize YV W k=W1 at hM hS hO aU AB1 e0 n1 n2 n3;refine⟨λIX RL Ru kO=>?_,λRX S5 Wb kM=>?_⟩
 ·have IX:=Ot IX;have hM3:=hM.step Ru;have RD:=KB hM3.own hS Qo (by simp only[Qp];omega) (c:=(k:Int)) Qo Qo;rw[e0] at RD;refine I5 RD ?_;rintro e Sx ⟨he,hy⟩;refine⟨_,_,_,_,_,_,_,_,_,_,he,hM3.kept hy kO,⟨Qo,Qo⟩,λRO X' _=>⟨⟨k+1,rfl,Qo,?_⟩,?_⟩⟩
  ·rw[aU];exact(hM3.call hy kO).step X'
  ·simp only[Zk,J5,Y5,Ih];omega
 ·have RX:=Ou RX;have hkk:k=W.IF.length:=Qo;have AB1:=AB1 hkk;have hM5:=hM.step Wb;have hb5:base<=S5.heap.size:=by have:=hM5.ext.size;omega
  have RD:=za4 hM5.own hS hb5;rw[e0] at RD;refine I5 RD ?_;rintro e2 bN ⟨m4,bS,Wc⟩;obtain⟨hS4,hO4⟩:=TJ hS 8 Qd;have hM6:=hM5.call Wc kM;have SZ:Qh W=JQ (LX W1) W.IF.length:=by unfold Qh;rw[AB1]
  have hf4:Fr W (LX W1):=hO.fr.trans hO4.fr;have CI1:SW (K+Qp) (LX W1):=hS4.w;have CK6:=zeo hf4;generalize LX W1=W4 at hM6 SZ hf4 CI1 CK6;refine⟨_,_,_,_,_,_,_,_,_,_,bS,hM5.kept Wc kM,λvs w1=>∃(k:Nat) (m1:MW),vs=I (k:Int)::Qa W m/\k<=W.IF.length/\Mv 8 base [x,x1] w m w1 (JQ W4 k) m1,Zk W.IF.length 0,λw1 tJ _=>⟨0,m4,rfl,Ig _,hM6.step tJ⟩,?_⟩;rintro c3 l Sd Sm Sr Sj So Sq Se Sf Sg dY hs7 ⟨k,m7,he,hk,hM7⟩;obtain⟨hS7,hf7⟩:=KS CI1 (by simp only[Qp];omega) k Qo;have Bi3:JQ W4 (k+1)=VG (JQ W4 k) (k:Int):=rfl;have BO3:k=W.IF.length->Qh W=JQ W4 k:=λe=>by rw[SZ,e]
  have hfW:=hf4.trans hf7;have e7:=ziw hM7 hfW;obtain⟨q1,q2,q3⟩:=zeo hfW;simp only[Qa,I6,I7,Iy,true_and,and_true] at he;obtain⟨rfl,rfl,⟨rfl,rfl,rfl⟩,⟨rfl,rfl,rfl⟩,rfl,rfl,rfl⟩:=he;generalize JQ W4 k=W7 at hM7 hS7 hf7 Bi3 BO3 hfW e7 q1 q2 q3;refine⟨λIX aM hx9 hs9=>?_,λRX=>?_⟩
  ·have IX:=Ot IX;have hM9:=hM7.step hx9;have hk4:(k:Int)<=4:=Qo;have hKb:K+Qp+(k:Int)*Qp+Qp<=1000000000000000000:=by simp only[Qp];omega
   have yP:(k:Int)<(W7.IF.length:Int):=Qo;have hSF:=hS7.sf.mono (F':=K+Qp+(k:Int)*Qp) (K':=K+Qp+(k:Int)*Qp+Qp) (I4 _) (by simp only[Qp];omega);have RD:=KB hM9.own hSF (I4 _) hKb (c:=(k:Int)) Qo yP;rw[e7] at RD;refine I5 RD ?_;rintro e4 uN ⟨he4,pS⟩;obtain⟨hS8,hO8⟩:=Ez hSF (I4 _) (c:=(k:Int)) Qo yP;have hM8:=hM9.call pS hs9;refine⟨_,_,_,_,_,_,_,_,_,_,he4,hM9.kept pS hs9,λSp AG6 rB=>?_⟩;have B52:=hM8.step AG6;have hZ:VG W7 (k:Int)=if MM (Zq (QQ W7 (k:Int)) (k:Int)) (k:Int)=true then RG (Zq (QQ W7 (k:Int)) (k:Int)) (k:Int) else Zq (QQ W7 (k:Int)) (k:Int):=rfl;have c2':(k:Int)<((QQ W7 (k:Int)).IF.length:Int):=by rw[hO8.c];exact yP
   have Bi0:=BK B52.own hS8.w (by simp only[Qp];omega) (c:=(k:Int)) Qo c2';rw[Oh hO8.fr,e7] at Bi0;obtain⟨Cf7,Cf5⟩:=Lc hS8.w (by simp only[Qp];omega) (c:=(k:Int)) Qo c2' 8 Qd;refine I5 Bi0 ?_;rintro e5 qP ⟨he5,hy5⟩;have Bh2:=B52.call hy5 rB;have Bh1:=B52.kept hy5 rB;have B67:Fr W (Zq (QQ W7 (k:Int)) (k:Int)):=(hfW.trans hO8.fr).trans Cf5.fr;have A28:SW (K+Qp+(k:Int)*Qp+Qp) (Zq (QQ W7 (k:Int)) (k:Int)):=Cf7;generalize Zq (QQ W7 (k:Int)) (k:Int)=W11 at Bh2 B67 A28 hZ;have e11:=ziw Bh2 B67;have Bu1:m7.cO=m.cO/\m7.tO=m.tO:=by rw[hM7.hd];exact⟨rfl,rfl⟩
   obtain⟨r1,r2,r3⟩:=zeo B67;have hr:=Bh2.rd;have c3':(k:Int)<(W11.IF.length:Int):=Qo;have rA:=A28.cu (k:Int) Qo c3';have lB:=A28.a.t;have CK1:=hr.c.ix Zy (i:=(k:Int)) Qo c3';have hrC:=hr.c.f (i:=(k:Int)) Qo c3' (j:=1) rfl
   have hT:(decide ((gi W11.IF (k:Int)).cur>=0))->0<=(gi W11.IF (k:Int)).cur/\(gi W11.IF (k:Int)).cur<(W11.IK.length:Int):=λg=>by
    have:=Ot g;exact⟨this,Qo⟩
   have mT:∀g:(decide ((gi W11.IF (k:Int)).cur>=0)),PX [x,x1] Yl #[.agg (Qa W m).toArray,I (gi W11.IF (k:Int)).cur] qP (.bool (Zi W11 (gi W11.IF (k:Int)).cur)):=λg=>by
    have:=Uz hr A28.a (hT g).1 (hT g).2 (λhs=>A28.li (hT g).1 (hT g).2 hs)
    rwa[e11] at this
   rw[r1,Bu1.1] at CK1;rw[Bu1.1] at hrC;refine⟨_,_,_,_,_,_,_,_,_,_,he5,Bh1,CK1,_,hrC,λg=>?_,(Q8 W11 (gi W11.IF (k:Int)).cur).R8,λg=>?_,Zi W11 (gi W11.IF (k:Int)).cur,λ_ g=>mT g,λg Sn Ay5 AL6=>?_,λg=>?_⟩
   ·have:=hr.t.ix QF (hT g).1 (hT g).2
    rwa[r2,Bu1.2] at this
   ·have:=hr.t.f (hT g).1 (hT g).2 (j:=2) rfl
    rwa[Bu1.2] at this
   ·have B53:=Bh2.step Ay5;have Bi1:=Zr B53.own (c:=(k:Int)) Qo c3';rw[e11] at Bi1;refine I5 Bi1 ?_;rintro e6 cM ⟨he6,hy6⟩;have e12:=Oh (m:=m7) (Ap W11 (k:Int));rw[e11] at e12;rw[e12] at he6;refine⟨_,_,_,_,_,_,_,_,_,_,he6,B53.kept hy6 AL6,⟨Qo,Qo⟩,λSv AB5 _=>⟨⟨k+1,m7,rfl,Qo,?_⟩,?_⟩⟩
    ·rw[Bi3,hZ,H' (by unfold MM;exact g)];exact(B53.call hy6 AL6).step AB5
    ·simp only[Zk,J5,Y5,Ih];omega
   ·refine⟨⟨Qo,Qo⟩,λSv AB5 _=>⟨⟨k+1,m7,rfl,Qo,?_⟩,?_⟩⟩
    ·rw[Bi3,hZ,E' (by unfold MM;rw[g];decide)];exact Bh2.step AB5
    ·simp only[Zk,J5,Y5,Ih];omega
  ·have RX:=Ou RX;have BO3:=BO3 Qo;rw[BO3];refine λw9 hx9=>⟨m7,?_,(hM7.step hx9).close⟩
   rw[e7];rfl
end
def Y3{n:Int}{w:Wo}{bs:List Nat}:PX bs Zm #[I n] w (.bool (decide (n<=Qt))):=zbq n λwr hx=>rfl
section
variable {W:Q7}{m:MW}{w:Wo}{bs:List Nat}
def PZ(h:X0 bs w W m)(hl:Xk W):PX bs Jr #[.agg (Qa W m).toArray] w (.bool (JA (Xw W/\LO W))):=
 ER _ _ _ _ _ _ _ _ _ _ λwr hx=>by
  have h:=(h.ext hx).less (cs:=[]) Qs;intro x hx;refine⟨_,YH h hl.c hl.t hl.g hl.f,_,λ_=>Y3,λg=>K7 ?_,λg=>?_⟩
  ·rintro⟨wp,r⟩;rw[show QH W=true from Qm.2 wp,show decide (W.now<=Qt)=true from Ij r.n] at g;cases g
  ·simp only[I1,I8] at g;have wp:Xw W:=Qm.1 g.1;have CL4:=Ot g.2;have cN:=wp.a.gl;have lB:=wp.a.t;have rL:=wp.a.c2;refine Xr W.IF.length 0 rfl (λk=>k<=W.IF.length/\∀c:Int,0<=c->c<(k:Int)->(gi W.IF c).busy<=Qt/\(gi W.IF c).idle<=Qt) ⟨Ig _,λc a b=>by omega⟩ λk ⟨hk,hI⟩=>⟨λIX=>?_,λRX=>?_⟩
   ·have IX:=Ot IX;refine⟨h.c.ix Zy Qo IX,_,h.c.f Qo IX (j:=3) rfl,_,Y3,λ_=>h.c.ix Zy Qo IX,_,λ_=>h.c.f Qo IX (j:=4) rfl,_,λ_=>Y3,λg2=>K7 ?_,λg2=>⟨⟨Qo,Qo⟩,QB Qo ⟨Qo,λc a b=>?_⟩⟩⟩
    ·rintro⟨_,r⟩;have:=r.c (k:Int) Qo IX;rw[Ij this.1,Ij this.2] at g2;cases g2
    ·by_cases e:c=(k:Int)
     ·subst e;simp only[I1,I8] at g2;exact⟨Ot g2.1,Ot g2.2⟩
     ·exact hI c a Qo
   have RX:=Ou RX;have hC:∀c:Int,0<=c->c<(W.IF.length:Int)->(gi W.IF c).busy<=Qt/\(gi W.IF c).idle<=Qt:=λc a b=>hI c a Qo
   clear hI;refine Xr W.IK.length 0 rfl (λk=>k<=W.IK.length/\∀t:Int,0<=t->t<(k:Int)->(gi W.IK t).v<=Qt/\(gi W.IK t).sum<=Qt/\(gi W.IK t).IW<=Qt) ⟨Ig _,λc a b=>by omega⟩ λk ⟨hk,hI⟩=>⟨λIX=>?_,λRX=>?_⟩
   ·have IX:=Ot IX;have WJ:=h.t.ix QF (i:=(k:Int)) Qo IX;refine⟨WJ,_,h.t.f Qo IX (j:=5) rfl,_,Y3,λ_=>WJ,_,λ_=>h.t.f Qo IX (j:=6) rfl,_,λ_=>Y3,λ_=>WJ,_,λ_=>h.t.f Qo IX (j:=7) rfl,_,λ_=>Y3,λg2=>K7 ?_,λg2=>⟨⟨Qo,Qo⟩,QB Qo ⟨Qo,λc a b=>?_⟩⟩⟩
    ·rintro⟨_,r⟩;have:=r.t (k:Int) Qo IX;rw[Ij this.1,Ij this.2.1,Ij this.2.2] at g2;cases g2
    ·by_cases e:c=(k:Int)
     ·subst e;simp only[I1,I8] at g2;exact⟨Ot g2.1.1,Ot g2.1.2,Ot g2.2⟩
     ·exact hI c a Qo
   have RX:=Ou RX;have hT:∀t:Int,0<=t->t<(W.IK.length:Int)->(gi W.IK t).v<=Qt/\(gi W.IK t).sum<=Qt/\(gi W.IK t).IW<=Qt:=λc a b=>hI c a Qo
   clear hI;refine Xr W.IE.length 0 rfl (λk=>k<=W.IE.length/\∀j:Int,0<=j->j<(k:Int)->(gi W.IE j).sum<=Qt/\∀c:Int,0<=c->c<((gi W.IE j).IH.length:Int)->(Qb W j c).IL<=Qt/\(Qb W j c).v<=Qt/\(Qb W j c).sum<=Qt) ⟨Ig _,λc a b=>by omega⟩ λk ⟨hk,hI⟩=>⟨λIX=>?_,λRX=>?_⟩
   ·have IX:=Ot IX;have WJ:=h.g.ix (i:=(k:Int)) Qo IX
    have hsl:(gi W.IE (k:Int)).IH.length<=4:=by
     have:=wp.a.grp (k:Int) Qo Qo
     cases hu:(gi W.IE (k:Int)).IW with
     |true=>have:=(this.2 hu).len;omega
     |false=>have:=(this.1 hu).l;omega
    refine⟨WJ,_,(h.g.cells (k:Int) Qo IX).get 7 _ rfl,_,Y3,λg2=>K7 ?_,λg2=>?_⟩
    ·rintro⟨_,r⟩;have:=r.g (k:Int) Qo IX;rw[Ij this] at g2;cases g2
    have g2:(gi W.IE (k:Int)).sum<=Qt:=by simpa using g2
    have hrs:=h.g.IH (k:Int) Qo IX;refine Xr (gi W.IE (k:Int)).IH.length 0 rfl (λq=>q<=(gi W.IE (k:Int)).IH.length/\∀c:Int,0<=c->c<(q:Int)->(Qb W (k:Int) c).IL<=Qt/\(Qb W (k:Int) c).v<=Qt/\(Qb W (k:Int) c).sum<=Qt) ⟨Ig _,λc a b=>by omega⟩ λq ⟨hq,hJ⟩=>⟨WJ,_,_,_,h.g.RY Qo IX,λSi=>?_,λdA=>?_⟩
    ·have Si:=Ot Si;refine⟨WJ,_,_,_,h.g.RY Qo IX,hrs.ix Zz Qo Si,_,_,_,_,_,hrs (q:Int) Qo Si,λb1 fI=>⟨_,Y3,_,λ_=>Y3,_,λ_=>Y3,λg3=>K7 ?_,λg3=>⟨⟨Qo,Qo⟩,QB Qo ⟨Qo,λc a b=>?_⟩⟩⟩⟩
     ·rintro⟨_,r⟩;have:=r.s (k:Int) (q:Int) Qo IX Qo Si;unfold Qb at this;rw[Ij this.1,Ij this.2.1,Ij this.2.2] at g3;cases g3
     ·by_cases e:c=(q:Int)
      ·subst e;simp only[I1,I8] at g3;exact⟨Ot g3.1.1,Ot g3.1.2,Ot g3.2⟩
      ·exact hJ c a Qo
    ·have dA:=Ou dA;refine⟨⟨Qo,Qo⟩,QB Qo ⟨Qo,λj a b=>?_⟩⟩
     by_cases e:j=(k:Int)
     ·subst e;exact⟨g2,λc a b=>hJ c a Qo⟩
     ·exact hI j a Qo
   ·have RX:=Ou RX;exact zh8 ⟨wp,⟨CL4,hC,hT,λj a b=>(hI j a Qo).1,λj c a b c0 c1=>(hI j a Qo).2 c c0 c1⟩⟩
def Je{t:Int}(h:X0 bs w W m)(hl:W.IK.length<=maxLen):PX bs YE #[.agg (Qa W m).toArray,I t] w (.bool (ZI W t)):=
 zbs _ _ _ _ _ _ _ _ _ _ t λwr hx=>by
  have h:=(h.ext hx).less (cs:=[]) Qs;intro x hx;have:=YQ;refine⟨⟨Qo,Qo⟩,_,Ql,λg=>?_,_,λg=>?_,rfl⟩
  ·have:=Qr.1 g;exact h.t.ix QF Qo Qo
  ·have:=Qr.1 g;exact h.t.f Qo Qo (j:=0) rfl
end
structure Dy (base:Nat) (bs:List Nat) (w:Wo) (o:OA) (cap:Nat) (ps:List (ZL×MG)):Prop where
 own:Mi base w o cap ps
 nb:∀x∈QE o,x∉bs
 nm:∀i:Int,0<=i->i<(ps.length:Int)->∀x∈Qw (gi ps i).2,x∉bs
section
variable {base:Nat}{bs cs:List Nat}{w w':Wo}{o:OA}{cap:Nat}{ps:List (ZL×MG)}{b:Nat}
def Dy.lt(h:Dy base bs w o cap ps):(∀x∈QE o,base<=x/\x<w.heap.size)/\∀i:Int,0<=i->i<(ps.length:Int)->∀x∈Qw (gi ps i).2,base<=x/\x<w.heap.size:=⟨h.own.row.lt,λi a b=>(h.own.each i a b).lt⟩
def Dy.ext(h:Dy base bs w o cap ps)(hx:Q0 cs w w')(h1:∀x∈QE o,x∉cs)(h2:∀i:Int,0<=i->i<(ps.length:Int)->∀x∈Qw (gi ps i).2,x∉cs):Dy base bs w' o cap ps:=
 ⟨⟨h.own.row.ext hx h1,λi a b=>(h.own.each i a b).ext hx (h2 i a b),h.own.dj⟩,h.nb,h.nm⟩
def Dy.step(h:Dy base bs w o cap ps)(hx:Q0 bs w w'):Dy base bs w' o cap ps:=h.ext hx h.nb h.nm
def Dy.RJ(h:Dy base bs w o cap ps)(hx:Q0 [] w w'):Dy base bs w' o cap ps:=h.ext hx Qs Qs
def Dy.add(h:Dy base bs w o cap ps)(hb:w.heap.size<=b):Dy base (bs++[b]) w o cap ps:=
 have key:∀x,x<w.heap.size->x∉bs->x∉bs++[b]:=λx hl hx hm=>by
  rcases Ip.1 hm with hm|hm
  ·exact hx hm
  ·have:x=b:=by simpa using hm
   omega
 ⟨h.own,λx hx=>key x (h.lt.1 x hx).2 (h.nb x hx),λi a c x hx=>key x (h.lt.2 i a c x hx).2 (h.nm i a c x hx)⟩
def Dy.put(h:Dy base bs w o cap ps)(hx:Q0 bs w w')(hb:w.heap.size<=b):Dy base (bs++[b]) w' o cap ps:=⟨(h.step hx).own,(h.add hb).nb,(h.add hb).nm⟩
def Dy.sub(h:Dy base bs w o cap ps)(hs:∀x∈cs,x∈bs):Dy base cs w o cap ps:=⟨h.own,λx hx hm=>h.nb x hx (hs x hm),λi a c x hx hm=>h.nm i a c x hx (hs x hm)⟩
def Dy.nil(base:Nat)(bs:List Nat)(w:Wo):Dy base bs w none 0 []:=⟨⟨.inl ⟨rfl,rfl,rfl⟩,λi a b=>by simp at b;omega,λi j a b=>by simp at b;omega⟩,by simp[QE],λi a b=>by simp at b;omega⟩
def zul{α:Type}[Inhabited α]{l:List α}{x:α}{i:Int}(h0:0<=i)(h1:i<(l.length:Int)):gi (l++[x]) i=gi l i:=by
 obtain⟨k,rfl⟩:=Int.eq_ofNat_of_zero_le h0;rw[XT (by simp;omega),XT Qo,List.getElem_append_left]
def zrz{α:Type}[Inhabited α]{l:List α}{x:α}:gi (l++[x]) (l.length:Int)=x:=by
 rw[XT Qs];simp
def Dy.tY{p:ZL×MG}{t':TypeId}{fz:Nat×Nat}(h:Dy base bs w o cap ps)(hs:∀x∈bs,x<w.heap.size)(rQ:base<=w.heap.size)(hp:Mj base w p)(hpb:∀x∈Qw p.2,x∉bs)(hd:∀i:Int,0<=i->i<(ps.length:Int)->∀x∈Qw (gi ps i).2,x∉Qw p.2)(hb:w.heap[b]? = some (.cells (OG p).toArray t' fz))(h1:Ze (OG p))(hl:ps.length<=1048576)(tr:TypeId)(cs:Array Bool) :
  ∃o' mH w',(builtin .append #[Z1,Z1] tr cs #[.slice o ps.length cap,.slice (some ⟨b,0,none⟩) 1 1]).run Tryz.prog w=.ok (.value (.slice o' (ps++[p]).length mH)) w'/\Q9 bs w w'/\Dy base bs w' o' mH (ps++[p])/\Q0 (QE o) w w':=by
 obtain⟨o2,c2,w2,Wa,hk,hO,hx⟩:=Ob.tY X4 MX (⟨h.own.row,h.nb⟩:Ob OG 14 QT base bs w o cap ps) hs rQ hb h1 hl Qd tr cs;have hlen:(ps++[p]).length=ps.length+1:=Qs
 have BN9:∀i:Int,0<=i->i<((ps++[p]).length:Int)->(i<(ps.length:Int)/\gi (ps++[p]) i=gi ps i)\/(i=(ps.length:Int)/\gi (ps++[p]) i=p):=λi a b=>by
  by_cases e:i<(ps.length:Int)
  ·exact .inl ⟨e,zul a e⟩
  ·have:i=(ps.length:Int):=Qo;subst this;exact .inr ⟨rfl,zrz⟩
 refine⟨o2,c2,w2,Wa,hk,⟨⟨hO.own,λi a b=>?_,λi j a b c d e=>?_⟩,hO.nb,λi a b=>?_⟩,hx⟩
 ·rcases BN9 i a b with ⟨hi,hg⟩|⟨hi,hg⟩
  ·rw[hg];exact(h.own.each i a hi).ext hx (XU h.own.row (h.own.each i a hi))
  ·rw[hg];exact hp.ext hx (XU h.own.row hp)
 ·rcases BN9 i a b with ⟨hi,hg⟩|⟨hi,hg⟩ <;> rcases BN9 j c d with ⟨hj,hg'⟩|⟨hj,hg'⟩
  ·rw[hg,hg'];exact h.own.dj i j a hi c hj e
  ·rw[hg,hg'];exact hd i a hi
  ·rw[hg,hg'];exact λx hx hm=>hd j c hj x hm hx
  ·omega
 ·rcases BN9 i a b with ⟨hi,hg⟩|⟨hi,hg⟩
  ·rw[hg];exact h.nm i a hi
  ·rw[hg];exact hpb
end
def zwy(g:ZL)(m:MG):Ze (YC g m):=rfl
def Hx{W:Q7}(ha:WA W){k:Int}(k0:0<=k)(k1:k<8):(gi W.IE k).IY.RW.length=(gi W.IE k).IY.locals.length/\(gi W.IE k).IY.locals.length<=4/\(gi W.IE k).IH.length<=4:=by
 have hg:=ha.grp k k0 k1;have hc:=ha.c2
 cases hu:(gi W.IE k).IW with
 |false=>
  have:=hg.1 hu;have hb:=C4 this.b;have:=this.l;omega
 |true=>
  have:=hg.2 hu;have hl:=this.len
  by_cases hq:(gi W.IE k).IY.R4=0
  ·have hb:=C4 (this.none hq).1;omega
  ·have hb:=(this.IY hq).1;have h1:=hb.dl;have h2:=hb.l2;omega
section
variable {W:Q7}{m:MW}{w:Wo}{bs:List Nat}
def zfe(W:Q7)(ms:Nat->MG)(k:Nat):List (ZL×MG):=(List.range k).map λ(j:Nat)=>(gi W.IE (j:Int),ms j)
def zhf(W:Q7)(ms:Nat->MG)(k:Nat):(zfe W ms k).length=k:=by simp[zfe]
def zm6(W:Q7)(ms:Nat->MG)(k:Nat)(p:MG):zfe W (λj=>if j=k then p else ms j) (k+1)=zfe W ms k++[(gi W.IE (k:Int),p)]:=by
 unfold zfe;rw[List.range_succ,List.map_append]
 congr 1
 ·refine List.map_congr_left λj hj=>?_
  have:=List.mem_range.1 hj;show (_,if j=k then p else ms j)=_;rw[E' Qo]
 ·simp
def Ol(h:X0 [] w W m)(ha:WA W) :
  Cz Jc #[.agg (Qa W m).toArray] w λe w'=>∃m',e=.returned (.agg (Qa W m').toArray)/\Yn 8 w.heap.size w' W m'/\Q0 [] w w':=by
 refine(zej _ _ _ _ _ _ _ _ _ _ (R:=λv w'=>∃m',v=.agg (Qa W m').toArray/\Yn 8 w.heap.size w' W m'/\Q0 [] w w') ?_).mono λe w' ⟨v,he,m',hv,h3⟩=>⟨m',by rw[he,hv],h3⟩
 have rL:=ha.c2;have lB:=ha.t;have cN:=ha.gl;intro x hx x1 SD x2 Rt;have s0:Sc w [x,x1,x2] w:=(((Sc.start w).add hx).add SD).add Rt
 refine⟨λvs w1=>∃(i:Nat) (cO:OA) (cC:Nat),vs=[I (i:Int),I W.now,.slice cO (W.IF.take i).length cC,.slice none 0 0,.slice none 0 0]/\i<=W.IF.length/\Sc w [x,x1,x2] w1/\Ob K5 5 ZE w.heap.size [x,x1,x2] w1 cO cC (W.IF.take i),
  Zk W.IF.length 0,λwr hx _=>⟨0,none,0,Qs,Ig _,s0.RJ hx,⟨.inl ⟨rfl,rfl,rfl⟩,by simp[QE]⟩⟩,?_⟩
 rintro c1 l Sd Sm Sr Sj So Sq Se Sf Sg RH Wg ⟨i,cO,cC,he,hi,s1,hC⟩;simp only[I6,I7,Iy,true_and,and_true] at he;obtain⟨rfl,rfl,⟨rfl,rfl,rfl⟩,⟨rfl,rfl,rfl⟩,rfl,rfl,rfl⟩:=he;refine⟨λIX=>?_,λRX=>?_⟩
 ·have IX:=Ot IX;have hr:=h.c.scb s1;refine⟨hr.ix Zy Qo IX,_,_,_,_,_,hr i Qo IX,λb4 hb4=>⟨rfl,λRL Ru kO Wn=>?_⟩⟩;have s2:=s1.put Ru hb4;have hC2:=hC.put Ru hb4;obtain⟨o2,c2,w2,Wa,uB,hC3,Wc⟩:=hC2.tY Lb Ga (x:=gi W.IF (i:Int)) kO s2.ext.size Wn (zv7 _) (by rw[List.length_take];omega) Qd Y8 #[false,false];rw[KU Qo] at Wa hC3;have s3:=s2.call Wc λy hm=>(hC2.own.lt y hm).1
  refine⟨_,_,_,w2,Wa,uB,⟨Qo,Qo⟩,λw5 Wb _=>⟨⟨i+1,o2,c2,rfl,Qo,(s3.step Wb).sub Qs,(hC3.step Wb).sub Qs⟩,?_⟩⟩;simp only[Zk,J5,Y5,Ih];omega
 have RX:=Ou RX;rw[show W.IF.take i=W.IF from List.take_of_length_le Qo] at hC ⊢
 refine⟨λvs w1=>∃(i:Nat) (tO:OA) (tC:Nat),vs=[I (i:Int),I W.now,.slice Sd W.IF.length Sr,.slice tO (W.IK.take i).length tC,.slice none 0 0]/\i<=W.IK.length/\Sc w [x,x1,x2] w1/\Ob K5 5 ZE w.heap.size [x,x1,x2] w1 Sd Sr W.IF/\Ob Ys 9 QR w.heap.size [x,x1,x2] w1 tO tC (W.IK.take i),
  Zk W.IK.length 0,λwr hx _=>⟨0,none,0,Qs,Ig _,s1.step hx,hC.step hx,⟨.inl ⟨rfl,rfl,rfl⟩,by simp[QE]⟩⟩,?_⟩
 clear hC s1 hi RX Wg;rintro t1 l4 mN jH mM mG oM mF kP nO mO gV hs6 ⟨i,tO,tC,he,hi,s1,hC,hT⟩;simp only[I6,I7,Iy,true_and,and_true] at he;obtain⟨rfl,rfl,⟨rfl,rfl,rfl⟩,⟨rfl,rfl,rfl⟩,rfl,rfl,rfl⟩:=he;refine⟨λIX=>?_,λRX=>?_⟩
 ·have IX:=Ot IX;have hr:=h.t.scb s1;refine⟨hr.ix QF Qo IX,_,_,_,_,_,_,_,_,_,hr i Qo IX,λb4 hb4=>⟨rfl,λRL Ru kO Wn=>?_⟩⟩;have s2:=s1.put Ru hb4;have hC2:=hC.put Ru hb4;have hT2:=hT.put Ru hb4;obtain⟨o2,c2,w2,Wa,uB,hT3,Wc⟩:=hT2.tY OF KX (x:=gi W.IK (i:Int)) kO s2.ext.size Wn (zwz _) (by rw[List.length_take];omega) Qd Zn #[false,false];rw[KU Qo] at Wa hT3;have s3:=s2.call Wc λy hm=>(hT2.own.lt y hm).1
  have hC3:=hC2.call Wc (hC2.own.WX hT2.own Qd);refine⟨_,_,_,w2,Wa,uB,⟨Qo,Qo⟩,λw5 Wb _=>⟨⟨i+1,o2,c2,rfl,Qo,(s3.step Wb).sub Qs,(hC3.step Wb).sub Qs,(hT3.step Wb).sub Qs⟩,?_⟩⟩;simp only[Zk,J5,Y5,Ih];omega
 have RX:=Ou RX;rw[show W.IK.take i=W.IK from List.take_of_length_le Qo] at hT ⊢
 refine⟨λvs w1=>∃(i:Nat) (gO:OA) (gC:Nat) (ms:Nat->MG),vs=[I (i:Int),I W.now,.slice mN W.IF.length mM,.slice mG W.IK.length mF,.slice gO (zfe W ms i).length gC]/\i<=W.IE.length/\Sc w [x,x1,x2] w1/\Ob K5 5 ZE w.heap.size [x,x1,x2] w1 mN mM W.IF/\Ob Ys 9 QR w.heap.size [x,x1,x2] w1 mG mF W.IK/\Dy w.heap.size [x,x1,x2] w1 gO gC (zfe W ms i),
  Zk W.IE.length 0,λwr hx _=>⟨0,none,0,λ_=>default,by simp[zfe],Ig _,s1.step hx,hC.step hx,hT.step hx,Dy.nil _ _ _⟩,?_⟩
 clear hC hT s1 hi RX hs6;rintro k1 l22 A51 BW9 A50 A53 BX0 A52 BI0 Bk5 BH9 dX DC7 ⟨i,gO,gC,ms,he,hi,s1,hC,hT,hG⟩;simp only[I6,I7,Iy,true_and,and_true] at he;obtain⟨rfl,rfl,⟨rfl,rfl,rfl⟩,⟨rfl,rfl,rfl⟩,rfl,rfl,rfl⟩:=he;refine⟨λIX=>?_,λRX=>?_⟩
 ·have IX:=Ot IX;have hr:=h.g.ext s1.ext;have hrb:K0 [x,x1,x2] dX m.gO W.IE m.ms:=(h.g.wide (cs:=[x,x1,x2]) λy hm=>.inr (s1.new y hm)).ext s1.ext.of_nil;have WJ:=hrb.ix (i:=(i:Int)) Qo IX;obtain⟨bl1,bl2,bl3⟩:=Hx ha (k:=(i:Int)) Qo Qo;refine⟨WJ,_,_,_,_,_,_,_,_,_,_,_,_,_,_,_,_,_,_,_,_,hrb.cells (i:Int) Qo IX,λkV Bt3=>⟨WJ,_,_,_,_,_,_,_,_,_,hrb.IY Qo IX,λcJ Bu7 B91=>?_⟩⟩;have s2:=s1.put Bu7 Bt3;have hC2:=hC.put Bu7 Bt3;have hT2:=hT.put Bu7 Bt3;have hG2:=hG.put Bu7 Bt3;have sU:=h.g.ext s2.ext;refine I5 (HW (sU.locals (i:Int) Qo IX) (sU.RW (i:Int) Qo IX) bl1 Qo) ?_;rintro e gB ⟨p,he,hB,hy⟩;have s3:=s2.RJ hy;have hC3:=hC2.RJ hy;have hT3:=hT2.RJ hy;have hG3:=hG2.RJ hy;have hBn:∀y∈ZQ p,cJ.heap.size<=y:=λy hm=>(hB.lt y hm).1
  have hBb:∀y∈ZQ p,y∉[x,x1,x2]++[kV]:=λy hm nZ=>by
   have:=hBn y hm;have:=B91 y nZ;omega
  refine⟨_,_,_,_,_,_,_,_,_,he,Qf hy B91,λvs w1=>∃(c:Nat) (sO:OA) (sC:Nat),vs=[I (c:Int),.bool (gi W.IE (i:Int)).IW,I (gi W.IE (i:Int)).IG,.string (gi W.IE (i:Int)).name,I (gi W.IE (i:Int)).R2,I (gi W.IE (i:Int)).IF,I (gi W.IE (i:Int)).period,I (gi W.IE (i:Int)).next,I (gi W.IE (i:Int)).sum,I (gi W.IE (i:Int)).IY.R4,I (gi W.IE (i:Int)).IY.Sy,I (gi W.IE (i:Int)).IY.WI,.slice p.lO (gi W.IE (i:Int)).IY.locals.length p.lC,.slice p.dO (gi W.IE (i:Int)).IY.RW.length p.dC,.slice sO ((gi W.IE (i:Int)).IH.take c).length sC]/\c<=(gi W.IE (i:Int)).IH.length/\Sc w ([x,x1,x2]++[kV]) w1/\cJ.heap.size<=w1.heap.size/\Ob K5 5 ZE w.heap.size ([x,x1,x2]++[kV]) w1 A51 A50 W.IF/\Ob Ys 9 QR w.heap.size ([x,x1,x2]++[kV]) w1 A53 A52 W.IK/\Dy w.heap.size ([x,x1,x2]++[kV]) w1 BI0 BH9 (zfe W ms i)/\Z2 cJ.heap.size w1 (gi W.IE (i:Int)).IY p/\Ob TY 5 YA cJ.heap.size ([x,x1,x2]++[kV]) w1 sO sC ((gi W.IE (i:Int)).IH.take c),
   Zk (gi W.IE (i:Int)).IH.length 0,λwr hx _=>⟨0,none,0,Qs,Ig _,s3.step hx,IC hy.size hx.size,hC3.step hx,hT3.step hx,hG3.step hx,hB.ext hx hBb,⟨.inl ⟨rfl,rfl,rfl⟩,by simp[QE]⟩⟩,?_⟩
  have oA:w.heap.size<=cJ.heap.size:=s2.ext.size;have CH7:=hG2.lt;clear hB s3 hC3 hT3 hG3 hC2 hT2;rintro c4 l26 l27 l28 l29 l30 l31 l32 l33 l34 l35 l36 A56 A55 A54 A59 A58 A57 Az0 BI1 Ay9 gU DC8 ⟨c,sO,sC,he,hc,s4,hz4,hC4,hT4,hG4,hB4,hS4⟩;simp only[I6,I7,Iy,Value.bool.injEq,Value.string.injEq,true_and,and_true] at he;obtain⟨rfl,rfl,rfl,rfl,rfl,rfl,rfl,rfl,rfl,rfl,rfl,rfl,⟨rfl,rfl,rfl⟩,⟨rfl,rfl,rfl⟩,rfl,rfl,rfl⟩:=he;have B88:K0 ([x,x1,x2]++[kV]) gU m.gO W.IE m.ms:=(h.g.wide (cs:=[x,x1,x2]++[kV]) λy hm=>.inr (s4.new y hm)).ext s4.ext.of_nil;refine⟨WJ,_,_,_,B88.RY Qo IX,λSi=>?_,λdA=>?_⟩
  ·have Si:=Ot Si;have hrs:=B88.IH (i:Int) Qo IX;refine⟨WJ,_,_,_,B88.RY Qo IX,hrs.ix Zz Qo Si,_,_,_,_,_,hrs c Qo Si,λqT Bh7=>⟨rfl,λeI BH5 Cl3 Wn=>?_⟩⟩;have s5:=s4.put BH5 Bh7;have hS5:=hS4.put BH5 Bh7;have CN1:cJ.heap.size<=eI.heap.size:=IC hz4 BH5.size;obtain⟨o2,c2,w2,Wa,uB,hS6,Wc⟩:=hS5.tY VX MY (x:=gi (gi W.IE (i:Int)).IH (c:Int)) Cl3 CN1 Wn (zv9 _) (by rw[List.length_take];omega) Qd ZJ #[false,false];rw[KU Qo] at Wa hS6;have hG5:=hG4.put BH5 Bh7;have hC5:=hC4.put BH5 Bh7;have hT5:=hT4.put BH5 Bh7;have hB5:=hB4.ext BH5 hBb;have s6:=s5.call Wc λy hm=>IC oA (hS5.own.lt y hm).1
   have hC6:=hC5.call Wc (hC5.own.WX hS5.own Qd);have hT6:=hT5.call Wc (hT5.own.WX hS5.own Qd)
   have hG6:=hG5.ext Wc (hG5.own.row.WX hS5.own Qd) λj a b y hm nZ=>by
    have:=(CH7.2 j a b y hm).2;have:=(hS5.own.lt y nZ).1;omega
   have Cd7:∀y∈ZQ p,y∉[x,x1,x2]++[kV]++[qT]:=λy hm nZ=>by
    rcases Ip.1 nZ with h2|h2
    ·exact hBb y hm h2
    ·have:y=qT:=by simpa using h2
     have:=(hB4.lt y hm).2;omega
   have hB6:=hB5.ext Wc λy hm=>by
    rcases Ip.1 hm with hm|hm
    ·exact hB5.loc.WX hS5.own Qd y hm
    ·exact hB5.RW.WX hS5.own Qd y hm
   refine⟨_,_,_,w2,Wa,uB,⟨Qo,Qo⟩,λw5 Wb _=>⟨⟨c+1,o2,c2,rfl,Qo,(s6.step Wb).sub Qs,?_,(hC6.step Wb).sub Qs,(hT6.step Wb).sub Qs,(hG6.step Wb).sub Qs,hB6.ext Wb Cd7,(hS6.step Wb).sub Qs⟩,?_⟩⟩
   ·have:=Wc.size;have:=Wb.size;omega
   ·simp only[Zk,J5,Y5,Ih];omega
  ·have dA:=Ou dA;rw[show (gi W.IE (i:Int)).IH.take c=(gi W.IE (i:Int)).IH from List.take_of_length_le Qo] at hS4 ⊢;intro yO Bh8 fA BW6 Cl4 Wn;have s5:=s4.put BW6 Bh8;have hG5:=hG4.put BW6 Bh8;have hC5:=hC4.put BW6 Bh8;have hT5:=hT4.put BW6 Bh8;have hB5:=hB4.ext BW6 hBb;have hS5:=hS4.put BW6 Bh8
   have Bz7:∀y∈Qw ⟨p.lO,p.lC,p.dO,p.dC,Az0,Ay9⟩,cJ.heap.size<=y/\y<gU.heap.size:=λy hm=>by
    simp only[Qw,Ip] at hm;rcases hm with (hm|hm)|hm
    ·exact hB4.loc.lt y hm
    ·exact hB4.RW.lt y hm
    ·exact hS4.own.lt y hm
   obtain⟨o2,c2,w2,Wa,uB,hG6,Wc⟩:=hG5.tY (p:=(gi W.IE (i:Int),⟨p.lO,p.lC,p.dO,p.dC,Az0,Ay9⟩)) Cl4 s5.ext.size ⟨(hB5.mono oA).loc,(hB5.mono oA).RW,hS5.own.mono oA⟩ (λy hm nZ=>by
     have h1:=Bz7 y hm;rcases Ip.1 nZ with h2|h2
     ·have:=B91 y h2;omega
     ·have:y=yO:=by simpa using h2
      omega) (λj a b y hm nZ=>by
     have:=(CH7.2 j a b y hm).2;have:=(Bz7 y nZ).1;omega) Wn (zwy _ _) (by rw[zhf];omega) Z1 #[false,false]
   rw[<-zm6] at Wa hG6;have s6:=s5.call Wc λy hm=>(hG5.own.row.lt y hm).1
   have hC6:=hC5.call Wc (hC5.own.WX hG5.own.row Qd);have hT6:=hT5.call Wc (hT5.own.WX hG5.own.row Qd);refine⟨_,_,_,w2,Wa,uB,⟨Qo,Qo⟩,λw5 Wb _=>⟨⟨i+1,o2,c2,_,rfl,Qo,(s6.step Wb).sub Qs,(hC6.step Wb).sub Qs,(hT6.step Wb).sub Qs,(hG6.step Wb).sub Qs⟩,?_⟩⟩;simp only[Zk,J5,Y5,Ih];omega
 ·have RX:=Ou RX;have hi8:i=W.IE.length:=Qo;subst hi8;refine λw9 hx9=>⟨⟨A51,A50,A53,A52,BI0,BH9,ms⟩,?_,⟨(hC.step hx9).own,(hT.step hx9).own,(hG.step hx9).own,cN⟩,(s1.step hx9).ext⟩
  rw[zhf];rfl
def Z8(h:X0 [] w W m)(hl:Xk W) :
  Cz QP #[.agg (Qa W m).toArray] w λe w'=>(QH W=false/\e=.returned (.tuple #[.agg (Qa Mf zs1).toArray,I 1])/\Q0 [] w w')\/(QH W/\∃m',e=.returned (.tuple #[.agg (Qa W m').toArray,I (if QO W=true then 0 else 10)])/\Yn 8 w.heap.size w' W m'/\Q0 [] w w'):=by
 refine(Bn _ _ _ _ _ _ _ _ _ _ (R:=λv w'=>(QH W=false/\v=.tuple #[.agg (Qa Mf zs1).toArray,I 1]/\Q0 [] w w')\/(QH W/\∃m',v=.tuple #[.agg (Qa W m').toArray,I (if QO W=true then 0 else 10)]/\Yn 8 w.heap.size w' W m'/\Q0 [] w w')) ?_).mono λe w' ⟨v,he,h3⟩=>by
  rw[he];rcases h3 with ⟨a,hv,b⟩|⟨a,m',hv,b⟩
  ·exact .inl ⟨a,by rw[hv],b⟩
  ·exact .inr ⟨a,m',by rw[hv],b⟩
 intro x hx x1 SD;refine⟨_,YH h hl.c hl.t hl.g hl.f,λg wr hx=>.inl ⟨by simpa using g,rfl,hx⟩,λg Ra Rt gZ=>?_⟩;have hW:QH W:=by simpa using g
 have wp:=Qm.1 hW;refine I5 (Ol (h.ext Rt) wp.a) ?_;rintro e wv ⟨m',he,hM,hy⟩
 have hnb:∀y∈QS 8 m',y∉[x,x1]:=λy hy hm=>by
  have:=(hM.lt y hy).1;have:=gZ y hm;omega
 have hro:=PZ (hM.rd hnb) hl;have A30:∀w2,Q0 [x,x1] wv w2->Yn 8 w.heap.size w2 W m'/\Q0 [] w w2:=λw2 h2=>⟨(hM.mono Rt.size).ext h2 hnb,(Rt.trans hy).fresh h2 λy hm=>.inl (Yz hx SD y hm)⟩
 refine⟨_,_,_,_,_,_,_,_,_,_,he,Qf hy gZ,_,hro,λg2 w2 h2=>.inr ⟨hW,m',?_,A30 w2 h2⟩,λg2 w2 h2=>.inr ⟨hW,m',?_,A30 w2 h2⟩⟩
 ·have:¬QO W:=λhr=>by
   rw[show JA (Xw W/\LO W)=true from Qm.2 ⟨wp,Qm.1 hr⟩] at g2;cases g2
  rw[E' this];rfl
 ·have hd:JA (Xw W/\LO W):=by simpa using g2
  have:QO W:=Qm.2 (Qm.1 hd).2;rw[H' this];rfl
end
structure Wk (n:Nat) (bs:List Nat) (w0 w:Wo) (W:Q7) (m:MW):Prop where
 s:Sc w0 bs w
 o:OW n w0.heap.size bs w W m
section
variable {n:Nat}{bs cs:List Nat}{w0 w w':Wo}{W W':Q7}{m m':MW}{b:Nat}
def Wk.step(h:Wk n bs w0 w W m)(hx:Q0 bs w w'):Wk n bs w0 w' W m:=⟨h.s.step hx,h.o.step hx⟩
def Wk.RJ(h:Wk n bs w0 w W m)(hx:Q0 [] w w'):Wk n bs w0 w' W m:=⟨h.s.RJ hx,h.o.RJ hx⟩
def Wk.add(h:Wk n bs w0 w W m)(hb:w.heap.size<=b):Wk n (bs++[b]) w0 w W m:=⟨h.s.add hb,h.o.add hb⟩
def Wk.sub(h:Wk n bs w0 w W m)(hs:∀x∈cs,x∈bs):Wk n cs w0 w W m:=⟨h.s.sub hs,h.o.sub hs⟩
def Wk.rd(h:Wk n bs w0 w W m):X0 bs w W m:=h.o.rd
def Wk.own(h:Wk n bs w0 w W m):Yn n w0.heap.size w W m:=h.o.own
def Wk.nb(h:Wk n bs w0 w W m):∀x∈QS n m,x∉bs:=h.o.nb
def Wk.base(h:Wk n bs w0 w W m):w0.heap.size<=w.heap.size:=h.s.ext.size
def Wk.W9(h:Wk n bs w0 w W m)(k:Mv n w0.heap.size [] w m w' W' m')(hs:∀x∈bs,x<w.heap.size):Wk n bs w0 w' W' m':=
 ⟨h.s.call k.ext λx hx=>(h.o.own.lt x hx).1,⟨k.own,λx hx hm=>by
  rcases k.sub x hx with h1|h1
  ·exact h.o.nb x h1 hm
  ·have:=hs x hm;omega⟩⟩
def Wk.kept(h:Wk n bs w0 w W m)(k:Mv n w0.heap.size [] w m w' W' m')(hs:∀x∈bs,x<w.heap.size):Q9 bs w w':=λx hm=>k.ext.block x (hs x hm) λnZ=>h.o.nb x nZ hm
def Wk.RN(h:Wk n bs w0 w W m)(k:Yn n w0.heap.size w' W' m)(hx:Q0 (QS n m) w w'):Wk n bs w0 w' W' m:=⟨h.s.call hx λx hx=>(h.o.own.lt x hx).1,⟨k,h.o.nb⟩⟩
def Wk.fin(h:Wk n bs w0 w W m):Yn n w0.heap.size w W m/\Q0 [] w0 w:=⟨h.o.own,h.s.ext⟩
end
def QM(r:Q7×Int)(w:Wo)(v:Va)(w':Wo):Prop:=∃n m',v=.tuple #[.agg (Qa r.1 m').toArray,I r.2]/\Yn n w.heap.size w' r.1 m'/\Q0 [] w w'
def Yn.zero(base:Nat)(w:Wo):Yn 0 base w Mf zs1:=⟨.inl ⟨rfl,rfl,rfl⟩,.inl ⟨rfl,rfl,rfl⟩,⟨.inl ⟨rfl,rfl,rfl⟩,λi a b=>by simp[zm7,Mf] at b;omega,λi j a b=>by simp[zm7,Mf] at b;omega⟩,rfl⟩
section
variable {W W':Q7}{m:MW}{w:Wo}{jG:Int}
def QM.bad{w':Wo}(hW:QH W=false)(hx:Q0 [] w w'):QM (Xz W jG W') w (.tuple #[.agg (Qa Mf zs1).toArray,I 1]) w':=by
 rw[zri hW];exact⟨0,zs1,rfl,Yn.zero _ _,hx⟩
def QM.no{n:Nat}{bs:List Nat}{w':Wo}{m':MW}(hW:QH W)(hb:jG≠0)(hk:Wk n bs w w' W m'){c:Int}(hc:jG=c):QM (Xz W jG W') w (.tuple #[.agg (Qa W m').toArray,I c]) w':=by
 rw[zrj hW hb,hc];exact⟨n,m',rfl,hk.fin⟩
def QM.ok{n:Nat}{bs:List Nat}{w':Wo}{m':MW}(hW:QH W)(hb:jG=0)(hk:Wk n bs w w' W' m'):QM (Xz W jG W') w (.tuple #[.agg (Qa W' m').toArray,I 0]) w':=by
 rw[zt7 hW hb];exact⟨n,m',rfl,hk.fin⟩
def Wk.begin{x x1:Nat}{wr wv:Wo}{m':MW}(hx:w.heap.size<=x)(SD:w.heap.size<=x1)(Rt:Q0 [] w wr)(hs:∀y∈[x,x1],y<wr.heap.size)(hM:Yn 8 wr.heap.size wv W m')(hy:Q0 [] wr wv):Wk 8 [x,x1] w wv W m':=
 ⟨⟨Rt.trans hy,Yz hx SD⟩,(OW.of hM hs).mono Rt.size⟩
def Es{t:Int}(h:X0 [] w W m)(hl:Xk W) :
  Cz Vq #[.agg (Qa W m).toArray,I t] w λe w'=>∃v,e=.returned v/\QM (Xz W (Ve W t) (zd3 W t)) w v w':=by
 refine E8 _ _ _ _ _ _ _ _ _ _ t (R:=λv w'=>QM (Xz W (Ve W t) (zd3 W t)) w v w') ?_;intro x hx x1 SD wr Rt Wg;refine I5 (Z8 (h.ext Rt) hl) ?_;rintro e wv (⟨hW,he,hy⟩|⟨hW,m',he,hM,hy⟩)
 ·exact⟨_,_,_,_,_,_,_,_,_,_,_,he,Qf hy Wg,λ_ Ra Ru=>QM.bad hW ((Rt.trans hy).fresh Ru λy hm=>.inl (Yz hx SD y hm)),λg=>by simp at g⟩
 have hK:=Wk.begin hx SD Rt Wg hM hy;have hr:=hK.rd;refine⟨_,_,_,_,_,_,_,_,_,_,_,he,Qf hy Wg,λg=>by split at g <;> simp at g,λ_=>⟨_,Je hr hl.t,λg Rg Ru=>?_,λg=>?_⟩⟩
 ·have g:ZI W t=false:=by simpa using g
  have hb:Ve W t=2:=by unfold Ve;rw[H' g]
  exact QM.no hW (by rw[hb];decide) (hK.step Ru) hb
 have g:ZI W t:=by simpa using g
 obtain⟨t0,t1,tn⟩:=YK g;have WJ:=hr.t.ix QF t0 t1;refine⟨WJ,_,hr.t.f t0 t1 (j:=0) rfl,λg2 RL Ru=>?_,λg2=>⟨λg3 RO Ru=>?_,λg3=>?_⟩⟩
 ·have g2:(Q8 W t).state≠1:=by simpa[Q8] using g2
  have hb:Ve W t=6:=by unfold Ve;rw[E' (by rw[g];decide),H' g2]
  exact QM.no hW (by rw[hb];decide) (hK.step Ru) hb
 ·have g2:¬(Q8 W t).state≠1:=by simpa[Q8] using g2
  have bH:¬QO W:=λhr=>by rw[H' hr] at g3;simp at g3
  have hb:Ve W t=10:=by unfold Ve;rw[E' (by rw[g];decide),E' g2,H' (by simpa using bH)]
  rw[E' bH];exact QM.no hW (by rw[hb];decide) (hK.step Ru) hb
 ·have g2:¬(Q8 W t).state≠1:=by simpa[Q8] using g2
  have bH:QO W:=Is λhr=>by rw[E' hr] at g3;simp at g3
  have hb:Ve W t=0:=by unfold Ve;rw[E' (by rw[g];decide),E' g2,E' (by rw[bH];decide)]
  obtain⟨_,_,sw,sw1⟩:=zf1 hW hb;have SZ:Yn 8 w.heap.size _ (I' W t { Q8 W t with state:=2 }) m':=hK.own.AC1 t0 t1 (j:=0) (vs:=[I 2]) (x:={ Q8 W t with state:=2 }) rfl Qs;refine⟨WJ,zfy hK.own hK.nb t0 t1 Qd,λS5 Wb kM=>?_⟩;have dE:=(hK.RN SZ LK).step Wb;have RD:=Qu dE.own sw1 Qd Qd dE.base;have e5:Qa (I' W t { Q8 W t with state:=2 }) m'=Qa W m':=by simp[Qa,I']
  rw[e5] at RD;refine I5 RD ?_;rintro e1 RF ⟨m1,mJ,eR⟩;exact⟨_,_,_,_,_,_,_,_,_,_,mJ,dE.kept eR kM,λSw eM=>QM.ok hW hb ((dE.W9 eR kM).step eM)⟩
end
def zhq{α:Type}[Inhabited α]{l:List α}{i:Int}(h0:0<=i)(h1:i<(l.length:Int)):l.set i.toNat (gi l i)=l:=by
 obtain⟨k,rfl⟩:=Int.eq_ofNat_of_zero_le h0;rw[XT Qo,Ii,List.set_getElem_self]
def zjm{W:Q7}{k:Int}(h0:0<=k)(h1:k<(W.IE.length:Int)):WW W k (gi W.IE k).IY=W:=by
 show Rw W k (gi W.IE k)=W;unfold Rw;rw[zhq h0 h1]
section
variable {base:Nat}{W:Q7}{m:MW}{w:Wo}{k:Int}{b:Jx}
end
def hB(v:Int):Bool:=decide (v<=Qt)
section
variable {W:Q7}{m:MW}{w:Wo}{bs:List Nat}{p:OA}
end
structure zt2 (base pb:Nat) (ex:List Nat) (w:Wo) (m:MW) (w':Wo) (W':Q7) (m':MW):Prop where
 own:Yn 8 base w' W' m'
 pt:w'.heap[pb]? = some (.cells (Qa W' m').toArray Q4 (0,0))
 ext:Q0 (ex++(pb::QS 8 m)) w w'
 sub:∀x∈QS 8 m',x∈QS 8 m\/w.heap.size<=x
section
variable {W W':Q7}{m:MW}{w:Wo}{jG:Int}
end
def Nc:Pv:=⟨0,0,0,0,0,0,0,0,0⟩
def QW(W:Q7)(t:Int):Q7:=if (gi W.IF (Q8 W t).R8).cur=t then RG W (Q8 W t).R8 else W
noncomputable def TG(W:Q7)(t:Int):Int:=if ZI W t=false then 2 else if QO W=false then 10 else 0
def Fj(W:Q7)(t:Int):Q7:=Qh (I' (QW W t) t Nc)
def zgx{K:Int}{W:Q7}(h:SW K W){t:Int}(t0:0<=t)(t1:t<12)(n:(Q8 W t).state≠0):SW K (QW W t):=by
 unfold QW;split
 ·exact h.RG (h.t t t0 t1 n).2.1 (h.t t t0 t1 n).2.2
 ·exact h
def zen{W:Q7}{t:Int}(hW:QH W)(hb:TG W t=0):ZI W t/\QO W/\SW Qt W/\SW Qt (I' W t Nc)/\SW Qt (I' (QW W t) t Nc):=by
 have wp:=Qm.1 hW;unfold TG at hb
 split at hb
 ·cases hb
 ·rename_i h1
  split at hb
  ·cases hb
  ·rename_i h3;have h1:ZI W t:=by simpa using h1
   have h3:QO W:=by simpa using h3
   have sw:=P8 wp (Qm.1 h3);obtain⟨t0,t1,n⟩:=YK h1;have hl:=wp.a.t;exact⟨h1,h3,sw,sw.I' t0 Qo (λh=>It rfl h) Qd Qd,(zgx sw t0 Qo n).I' t0 Qo (λh=>It rfl h) Qd Qd⟩
section
variable {W:Q7}{m:MW}{w:Wo}{jG:Int}
def BB{t:Int}(h:X0 [] w W m)(hl:Xk W) :
  Cz T3 #[.agg (Qa W m).toArray,I t] w λe w'=>∃v,e=.returned v/\QM (Xz W (TG W t) (Fj W t)) w v w':=by
 refine Be _ _ _ _ _ _ _ _ _ _ t (R:=λv w'=>QM (Xz W (TG W t) (Fj W t)) w v w') ?_;intro x hx x1 SD wr Rt Wg;refine I5 (Z8 (h.ext Rt) hl) ?_;rintro e wv (⟨hW,he,hy⟩|⟨hW,m',he,hM,hy⟩)
 ·exact⟨_,_,_,_,_,_,_,_,_,_,_,he,Qf hy Wg,λ_ Ra Ru=>QM.bad hW ((Rt.trans hy).fresh Ru λy hm=>.inl (Yz hx SD y hm)),λg=>by simp at g⟩
 have hK:=Wk.begin hx SD Rt Wg hM hy;have hr:=hK.rd;refine⟨_,_,_,_,_,_,_,_,_,_,_,he,Qf hy Wg,λg=>by split at g <;> simp at g,λ_=>⟨_,Je hr hl.t,λg Rg Ru=>?_,λg=>?_⟩⟩
 ·have g:ZI W t=false:=by simpa using g
  have hb:TG W t=2:=by unfold TG;rw[H' g]
  exact QM.no hW (by rw[hb];decide) (hK.step Ru) hb
 have g:ZI W t:=by simpa using g
 obtain⟨t0,t1,tn⟩:=YK g;have WJ:=hr.t.ix QF t0 t1;refine⟨λg3 RO Ru=>?_,λg3=>?_⟩
 ·have bH:¬QO W:=λhr=>by rw[H' hr] at g3;simp at g3
  have hb:TG W t=10:=by unfold TG;rw[E' (by rw[g];decide),H' (by simpa using bH)]
  rw[E' bH];exact QM.no hW (by rw[hb];decide) (hK.step Ru) hb
 have bH:QO W:=Is λhr=>by rw[E' hr] at g3;simp at g3
 have hb:TG W t=0:=by unfold TG;rw[E' (by rw[g];decide),E' (by rw[bH];decide)]
 obtain⟨_,_,sw,sw1,sw2⟩:=zen hW hb;obtain⟨_,c0,c1⟩:=sw.t t t0 (by have:=sw.a.t;omega) tn;have SZ:Yn 8 w.heap.size (RN wv m'.tO (Int.toNat t*9) (Ys Nc)) (I' W t Nc) m':=hK.own.AC1 t0 t1 (j:=0) (vs:=Ys Nc) (x:=Nc) rfl Qd;have hKs:=hK.RN SZ LK;have e5:∀mm,Qa (I' W t Nc) mm=Qa W mm:=λmm=>by simp[Qa,I']
 refine⟨WJ,_,hr.t.f t0 t1 (j:=2) rfl,WJ,zfy hK.own hK.nb t0 t1 (j:=0) Qd,hr.c.ix Zy c0 c1,_,hKs.rd.c.f c0 c1 (j:=1) rfl,λg4 S5 Wb kM=>?_,λg4 S5 Wb kM=>?_⟩
 ·have g4:(gi (I' W t Nc).IF (Q8 W t).R8).cur=t:=by simpa using g4
  have hE:Fj W t=Qh (RG (I' W t Nc) (Q8 W t).R8):=by unfold Fj QW;rw[H' (show (gi W.IF (Q8 W t).R8).cur=t from g4)];rfl
  rw[hE];have dE:=hKs.step Wb;have RD:=Zr dE.own c0 c1;rw[e5] at RD;refine I5 RD ?_;rintro e1 RF ⟨mJ,eR⟩;refine⟨_,_,_,_,_,_,_,_,_,_,mJ,dE.kept eR kM,λSw eM hs6=>?_⟩;have rK:=(dE.W9 eR kM).step eM;refine I5 (Qu rK.own (sw1.RG c0 c1) Qd Qd rK.base) ?_;rintro e2 RH ⟨m1,bS,Wc⟩;exact⟨_,_,_,_,_,_,_,_,_,_,bS,rK.kept Wc hs6,λSC mE=>QM.ok hW hb ((rK.W9 Wc hs6).step mE)⟩
 ·have g4:¬(gi (I' W t Nc).IF (Q8 W t).R8).cur=t:=by simpa using g4
  have hE:Fj W t=Qh (I' W t Nc):=by unfold Fj QW;rw[E' (show ¬(gi W.IF (Q8 W t).R8).cur=t from g4)]
  rw[hE];have dE:=hKs.step Wb;have RD:=Qu dE.own sw1 Qd Qd dE.base;rw[e5] at RD;refine I5 RD ?_;rintro e2 RH ⟨m1,bS,Wc⟩;exact⟨_,_,_,_,_,_,_,_,_,_,bS,dE.kept Wc kM,λSC mE=>QM.ok hW hb ((dE.W9 Wc kM).step mE)⟩
end
abbrev M4(W:Q7)(t n:Int):Int:=(Qb W (Q8 W t).II (Q8 W t).R8).IL+Xc ((Q8 W t).v-(Qb W (Q8 W t).II (Q8 W t).R8).IL) (Qe n)
def XP(W:Q7)(t n:Int):Pv:={ Q8 W t with nice:=n,v:=if (Q8 W t).state=1 then M4 W t n else (Q8 W t).v }
noncomputable def Og(W:Q7)(t n:Int):Int:=if Qe n=0 then 1 else TG W t
def KJ(W:Q7)(t n:Int):Q7:=Qh (if (Q8 W t).state=1 then QW (I' W t (XP W t n)) t else I' W t (XP W t n))
def zk5{W:Q7}{t n:Int}(h:(Q8 W t).state=1):XP W t n={ Q8 W t with nice:=n,v:=M4 W t n }:=by unfold XP;rw[H' h]
def zk4{W:Q7}{t n:Int}(h:¬(Q8 W t).state=1):XP W t n={ Q8 W t with nice:=n }:=by unfold XP;rw[E' h]
def F8{W:Q7}{t:Int}{x:Pv}(t0:0<=t)(t1:t<(W.IK.length:Int)):Q8 (I' W t x) t=x:=by
 show gi (W.IK.set t.toNat x) t=x;rw[QD _ _ t0 t1 t0,H' rfl]
def set_set{W:Q7}{t:Int}{x y:Pv}:I' (I' W t x) t y=I' W t y:=by simp[I']
abbrev K1:Int:=Qt+Qp
structure zvq (W:Q7) (t n:Int):Prop where
 th:ZI W t=true
 room:QO W=true
 sw:SW Qt W
 f:(Q8 W t).state=1->0<=(Qb W (Q8 W t).II (Q8 W t).R8).IL/\(Qb W (Q8 W t).II (Q8 W t).R8).IL<=Qt/\0<=M4 W t n/\M4 W t n<=K1
 s1:SW K1 (I' W t (XP W t n))
 s2:SW K1 (QW (I' W t (XP W t n)) t)
def zk6{W:Q7}{t n:Int}(hW:QH W)(hb:Og W t n=0):zvq W t n:=by
 have hw:¬Qe n=0:=λh=>by unfold Og at hb;rw[H' h] at hb;cases hb
 have hb:TG W t=0:=by unfold Og at hb;rwa[E' hw] at hb
 obtain⟨h1,h3,sw,_,_⟩:=zen hW hb;obtain⟨t0,t1,tn⟩:=YK h1;have hl:=sw.a.t;have hg:=sw.t t t0 Qo tn;have hv:=sw.tv t t0 Qo;have hf:=sw.s _ _ hg.1 hg.2.1 hg.2.2;have lc:=ZX ((Q8 W t).v-(Qb W (Q8 W t).II (Q8 W t).R8).IL) (Qe n);have lm:=ZV (Qe n);have f:0<=M4 W t n/\M4 W t n<=K1:=by unfold M4;simp only[K1,Qp];omega
 have f1:0<=(XP W t n).v/\(XP W t n).v<=K1:=by
  unfold XP
  dsimp only
  split
  ·exact f
  ·simp only[K1,Qp];omega
 have s1:SW K1 (I' W t (XP W t n)):=(sw.mono Qd).I' t0 Qo (λ_=>hg) f1.1 f1.2;exact⟨h1,h3,sw,λ_=>⟨hf.1,hf.2.1,f⟩,s1,zgx s1 t0 Qo (by rw[F8 t0 t1];exact tn)⟩
section
variable {W:Q7}{m:MW}{w:Wo}{jG:Int}
def G5{bs:List Nat}{t:Int}(h:X0 bs w W m)(t0:0<=t)(t1:t<(W.IK.length:Int))(g0:0<=(Q8 W t).II)(g1:(Q8 W t).II<(W.IE.length:Int))(c0:0<=(Q8 W t).R8)(c1:(Q8 W t).R8<((gi W.IE (Q8 W t).II).IH.length:Int))(hr:Qq .i64 ((Q8 W t).v-(Qb W (Q8 W t).II (Q8 W t).R8).IL)) :
  PX bs Vt #[.agg (Qa W m).toArray,I t] w (I (Xc ((Q8 W t).v-(Qb W (Q8 W t).II (Q8 W t).R8).IL) (Qe (Q8 W t).nice))):=
 zbm _ _ _ _ _ _ _ _ _ _ t λwr hx=>by
  have h:=(h.ext hx).less (cs:=[]) Qs;intro b hb;exact⟨h.t.ix QF t0 t1,_,_,_,_,_,_,_,_,_,h.t t t0 t1,λb1 fI=>⟨h.g.ix g0 g1,_,_,_,h.g.RY g0 g1,(h.g.IH _ g0 g1).ix Zz c0 c1,_,(h.g.IH _ g0 g1).f c0 c1 (j:=0) rfl,hr,_,ZG,_,PE,rfl⟩⟩
def BD{t n:Int}(h:X0 [] w W m)(hl:Xk W) :
  Cz T5 #[.agg (Qa W m).toArray,I t,I n] w λe w'=>∃v,e=.returned v/\QM (Xz W (Og W t n) (KJ W t n)) w v w':=by
 refine Bi _ _ _ _ _ _ _ _ _ _ t n (R:=λv w'=>QM (Xz W (Og W t n) (KJ W t n)) w v w') ?_;intro x hx x1 SD wr Rt Wg;refine I5 (Z8 (h.ext Rt) hl) ?_;rintro e wv (⟨hW,he,hy⟩|⟨hW,m',he,hM,hy⟩)
 ·exact⟨_,_,_,_,_,_,_,_,_,_,_,he,Qf hy Wg,0,λg=>by simp at g,λ_ Ra Ru=>QM.bad hW ((Rt.trans hy).fresh Ru λy hm=>.inl (Yz hx SD y hm)),λg=>by simp at g⟩
 have hK:=Wk.begin hx SD Rt Wg hM hy;have hr:=hK.rd;have yQ:((if QO W=true then 0 else 10:Int)==1)=false:=by split <;> rfl
 refine⟨_,_,_,_,_,_,_,_,_,_,_,he,Qf hy Wg,_,λ_=>ZG (n:=n),λg Ra Ru=>?_,λg0=>⟨_,Je hr hl.t,λg Rg Ru=>?_,λg=>?_⟩⟩
 ·rw[yQ] at g;have g:Qe n=0:=by simpa using g
  have hb:Og W t n=1:=by unfold Og;rw[H' g]
  exact QM.no hW (by rw[hb];decide) (hK.step Ru) hb
 ·rw[yQ] at g0;have g0:¬Qe n=0:=by simpa using g0
  have g:ZI W t=false:=by simpa using g
  have hb:Og W t n=2:=by unfold Og TG;rw[E' g0,H' g]
  exact QM.no hW (by rw[hb];decide) (hK.step Ru) hb
 rw[yQ] at g0;have gw:¬Qe n=0:=by simpa using g0
 have g:ZI W t:=by simpa using g
 obtain⟨t0,t1,tn⟩:=YK g;have WJ:=hr.t.ix QF t0 t1;refine⟨λg3 RO Ru=>?_,λg3=>?_⟩
 ·have bH:¬QO W:=λhr=>by rw[H' hr] at g3;simp at g3
  have hb:Og W t n=10:=by unfold Og TG;rw[E' gw,E' (by rw[g];decide),H' (by simpa using bH)]
  rw[E' bH];exact QM.no hW (by rw[hb];decide) (hK.step Ru) hb
 have bH:QO W:=Is λhr=>by rw[E' hr] at g3;simp at g3
 have hb:Og W t n=0:=by unfold Og TG;rw[E' gw,E' (by rw[g];decide),E' (by rw[bH];decide)]
 have hN:=zk6 hW hb;have sw:=hN.sw;have lB:=sw.a.t;obtain⟨hu,c0,c1⟩:=sw.t t t0 Qo tn;obtain⟨q0,q1,_⟩:=Q5.1 hu;have hsl:=sw.a.sl hu;have hY:Wk 8 [x,x1] w (RN wv m'.tO (Int.toNat t*9) (Ys { Q8 W t with nice:=n })) (I' W t { Q8 W t with nice:=n }) m':=hK.RN (hK.own.AC1 t0 t1 (j:=0) (vs:=Ys { Q8 W t with nice:=n }) (x:={ Q8 W t with nice:=n }) rfl (by show 0+9<=9;decide)) LK;have e5:∀x mm,Qa (I' W t x) mm=Qa W mm:=λx mm=>by simp[Qa,I']
 refine⟨WJ,_,_,_,_,_,_,_,_,_,hr.t t t0 t1,λb2 cA=>⟨WJ,zfy hK.own hK.nb t0 t1 (j:=0) Qd,λg4=>?_,λg4 aM hx9 hs9=>?_⟩⟩
 ·have g4:(Q8 W t).state=1:=by simpa[Q8] using g4
  have hT:=zk5 (n:=n) g4;obtain⟨f0,f1,v0,v1⟩:=hN.f g4;have hv:=sw.tv t t0 Qo;have hh:Qt=50000000000000000:=rfl;have hk:K1=50000034686091440:=rfl;have sU:=hY.rd;have etk:Q8 (I' W t { Q8 W t with nice:=n }) t={ Q8 W t with nice:=n }:=F8 t0 t1;have t1':t<((I' W t { Q8 W t with nice:=n }).IK.length:Int):=by simpa[I'] using t1
  have CK5:=G5 (t:=t) sU t0 t1' (by rw[etk];exact q0) (by rw[etk];exact q1) (by rw[etk];exact c0) (by rw[etk];show (Q8 W t).R8<(((gi W.IE (Q8 W t).II).IH.length:Nat):Int);omega) (by rw[etk];exact⟨by show _<=(Q8 W t).v-(Qb W (Q8 W t).II (Q8 W t).R8).IL;omega,by show (Q8 W t).v-(Qb W (Q8 W t).II (Q8 W t).R8).IL<=_;omega⟩);rw[etk,e5] at CK5;have lc:=ZX ((Q8 W t).v-(Qb W (Q8 W t).II (Q8 W t).R8).IL) (Qe n);have lm:=ZV (Qe n);have SZ:Yn 8 w.heap.size (RN (RN wv m'.tO (Int.toNat t*9) (Ys { Q8 W t with nice:=n })) m'.tO (Int.toNat t*9) (Ys { Q8 W t with nice:=n,v:=M4 W t n })) (I' (I' W t { Q8 W t with nice:=n }) t { Q8 W t with nice:=n,v:=M4 W t n }) m':=hY.own.AC1 t0 t1' (j:=0) (vs:=Ys { Q8 W t with nice:=n,v:=M4 W t n }) (x:={ Q8 W t with nice:=n,v:=M4 W t n }) (by rw[show gi (I' W t { Q8 W t with nice:=n }).IK t={ Q8 W t with nice:=n } from etk];rfl) (by show 0+9<=9;decide);rw[set_set,<-hT] at SZ;have nG:Wk 8 ([x,x1]++[b2]) w _ (I' W t (XP W t n)) m':=(hK.add cA).RN SZ (LK.trans LK)
  have lA:∀vs0 vs:List Va,Ys { Q8 W t with nice:=n }=vs0->Ys (XP W t n)=vs->Wk 8 ([x,x1]++[b2]) w (RN (RN wv m'.tO (Int.toNat t*9) vs0) m'.tO (Int.toNat t*9) vs) (I' W t (XP W t n)) m':=λvs0 vs h0 h1=>by
   subst h0;subst h1;rw[hT] at nG ⊢;exact nG
  have CB0:∀y∈[x,x1],y∈[x,x1]++[b2]:=λy hy=>Ic _ hy
  have CH8:Wk 8 [x,x1] w _ (I' W t (XP W t n)) m':=nG.sub CB0;have Ch7:Q2 [x,x1] (RN wv m'.tO (Int.toNat t*9) (Ys { Q8 W t with nice:=n })) (m'.ms (Q8 W t).II.toNat).sO (Int.toNat (Q8 W t).R8*5+0) [I (Qb W (Q8 W t).II (Q8 W t).R8).IL]:=(sU.g.IH _ q0 q1).f c0 (by show (Q8 W t).R8<(((gi W.IE (Q8 W t).II).IH.length:Nat):Int);omega) (j:=0) rfl;have ecp:(Q8 (I' W t (XP W t n)) t).R8=(Q8 W t).R8:=by rw[F8 t0 t1];rfl
  refine⟨hr.g.ix q0 q1,_,_,_,sU.g.RY q0 q1,(sU.g.IH _ q0 q1).ix Zz c0 (by show (Q8 W t).R8<(((gi W.IE (Q8 W t).II).IH.length:Nat):Int);omega),(Qb W (Q8 W t).II (Q8 W t).R8).IL,Ch7,Xc ((Q8 W t).v-(Qb W (Q8 W t).II (Q8 W t).R8).IL) (Qe n),CK5,⟨?_,?_⟩,WJ,zfy hY.own hY.nb t0 t1' (j:=0) Qd,hr.c.ix Zy c0 c1,(gi W.IF (Q8 W t).R8).cur,?_,λg5 RO X' gX=>?_,λg5 SC mE hs7=>?_⟩
  ·show _<=M4 W t n;omega
  ·show M4 W t n<=_;omega
  ·rw[hT] at CH8;exact CH8.rd.c.f c0 c1 (j:=1) rfl
  ·have g5:(gi W.IF (Q8 W t).R8).cur=t:=by simpa using g5
   have hE:KJ W t n=Qh (RG (I' W t (XP W t n)) (Q8 W t).R8):=by unfold KJ QW;rw[H' g4,ecp,H' (show (gi (I' W t (XP W t n)).IF (Q8 W t).R8).cur=t from g5)]
   rw[hE];have dE:=(lA _ _ (by rfl) (by rw[hT];rfl)).step (X'.mono CB0);have RD:=Zr dE.own c0 c1;rw[e5] at RD;refine I5 RD ?_;rintro e1 RF ⟨mJ,eR⟩;refine⟨_,_,_,_,_,_,_,_,_,_,mJ,dE.kept eR gX,λSw eM hs6=>?_⟩;have rK:=(dE.W9 eR gX).step eM;refine I5 (Qu rK.own (hN.s1.RG c0 c1) Qd Qd rK.base) ?_;rintro e2 RH ⟨m1,bS,Wc⟩;exact⟨_,_,_,_,_,_,_,_,_,_,bS,rK.kept Wc hs6,λSC mE=>QM.ok hW hb ((rK.W9 Wc hs6).step mE)⟩
  ·have g5:¬(gi W.IF (Q8 W t).R8).cur=t:=by simpa using g5
   have hE:KJ W t n=Qh (I' W t (XP W t n)):=by unfold KJ QW;rw[H' g4,ecp,E' (show ¬(gi (I' W t (XP W t n)).IF (Q8 W t).R8).cur=t from g5)]
   rw[hE];have dE:=(lA _ _ (by rfl) (by rw[hT];rfl)).step (mE.mono CB0);have RD:=Qu dE.own hN.s1 Qd Qd dE.base;rw[e5] at RD;refine I5 RD ?_;rintro e2 RH ⟨m1,bS,Wc⟩;exact⟨_,_,_,_,_,_,_,_,_,_,bS,dE.kept Wc hs7,λSC mE=>QM.ok hW hb ((dE.W9 Wc hs7).step mE)⟩
 ·have g4:¬(Q8 W t).state=1:=by simpa[Q8] using g4
  have hE:KJ W t n=Qh (I' W t (XP W t n)):=by unfold KJ;rw[E' g4]
  have gZ:=hN.s1;rw[hE,zk4 g4];rw[zk4 g4] at gZ;have nG:Wk 8 ([x,x1]++[b2]) w _ (I' W t { Q8 W t with nice:=n }) m':=(hK.add cA).RN hY.own LK;have dE:=nG.step (hx9.mono λy hy=>Ic _ hy);have RD:=Qu dE.own gZ Qd Qd dE.base;rw[e5] at RD;refine I5 RD ?_;rintro e2 RH ⟨m1,bS,Wc⟩;exact⟨_,_,_,_,_,_,_,_,_,_,bS,dE.kept Wc hs9,λSC mE=>QM.ok hW hb ((dE.W9 Wc hs9).step mE)⟩
end
noncomputable def PA(W:Q7)(g:Int)(ok:Bool):Int:=if ok=false\/g=0 then 1 else if Q6 W.IE g=false then 2 else if QO W=false then 10 else 0
def zet{W:Q7}{g:Int}{ok:Bool}(h:PA W g ok=0):ok/\g≠0/\Q6 W.IE g/\QO W:=by
 unfold PA at h
 split at h
 ·cases h
 ·rename_i h1
  split at h
  ·cases h
  ·rename_i h2
   split at h
   ·cases h
   ·rename_i h3;exact⟨by cases ok <;> simp_all,λe=>h1 (.inr e),by simpa using h2,by simpa using h3⟩
def zto:Jx:=⟨0,0,0,[],[]⟩
def XO(q:Int)(n:Nat):Jx:=⟨q,q,0,List.replicate n 0,List.replicate n false⟩
def G8(q p:Int):Bool:=q==0&&p==0
def zcj(q p:Int):Bool:=G8 q p||(Yp q 1 10000&&Yp p 1 1000)
def PF(W:Q7)(g q p:Int):ZL:=if G8 q p=true then { gi W.IE g with period:=0,next:=0,IY:=zto } else { gi W.IE g with period:=p,next:=W.now+p,IY:=XO q W.IF.length }
noncomputable def zgy(W:Q7)(g q p:Int):Int:=PA W g (zcj q p)
def zsq(W:Q7)(g q p:Int):Q7:=Qh (Rw W g (PF W g q p))
def F4(n:Nat):∀k:Nat,k<=n->Uo (List.replicate n (0:Int)) k=0
 |0,_=>rfl
 |k+1,hk=>by
  simp only[Uo];rw[F4 n k Qo,O7 _ _ Qo Qo];rfl
def zco{q:Int}{n:Nat}(q1:1<=q)(q2:q<=10000)(n1:1<=n)(n2:n<=4):VL (XO q n):=by
 refine⟨q1,q2,by simpa[XO] using n1,by simpa[XO] using n2,by simp[XO],by simp only[XO];omega,I4 _,by simp[XO],by simp only[XO];omega,λc c0 c1=>?_,?_⟩
 ·simp only[XO,List.length_replicate] at c1 ⊢;rw[O7 _ _ c0 c1,O7 _ _ c0 c1];exact⟨I4 _,Qo,λh=>by cases h⟩
 ·simp only[XO,List.length_replicate];rw[F4 n n (I9 _)];omega
def zey{W:Q7}{g q p:Int}:(PF W g q p).IW=(gi W.IE g).IW/\(PF W g q p).IG=(gi W.IE g).IG/\(PF W g q p).name=(gi W.IE g).name/\(PF W g q p).IH=(gi W.IE g).IH/\(PF W g q p).R2=(gi W.IE g).R2/\(PF W g q p).IF=(gi W.IE g).IF/\(PF W g q p).sum=(gi W.IE g).sum:=by
 unfold PF;split <;> exact⟨rfl,rfl,rfl,rfl,rfl,rfl,rfl⟩
def SW.Rw{K:Int}{W:Q7}(h:SW K W){g:Int}{x:ZL}(hu:Q6 W.IE g)(u:x.IW=(gi W.IE g).IW)(p:x.IG=(gi W.IE g).IG)(n:x.name=(gi W.IE g).name)(s:x.IH=(gi W.IE g).IH)(hx:zib W g x):SW K (Rw W g x):=by
 obtain⟨u0,u1,ut⟩:=Q5.1 hu;have hl:=h.a.gl;have hT:=Jh (x:=x) u0 u1 u p n
 have es:∀k c:Int,0<=k->Qb (YtjinkcmkgnofjaaGreat.Rw W g x) k c=Qb W k c:=λk c k0=>by
  unfold Qb;rw[Ym u0 u1 k0];split
  ·rename_i e;subst e;rw[s]
  ·rfl
 refine⟨h.a.set u0 Qo u p n (λhn=>by rw[u,ut] at hn;cases hn) λ_=>hx,λt a b n=>by rw[hT.dW];exact h.t t a b n,h.tv,λk c uk a b=>?_,h.cu⟩;rw[hT.dW] at uk;rw[es k c (Q5.1 uk).1];exact h.s k c uk a b
def zph{W:Q7}{g q p:Int}(hW:QH W)(hb:zgy W g q p=0):Q6 W.IE g/\g≠0/\zcj q p/\QO W/\SW Qt W/\SW Qt (Rw W g (PF W g q p)):=by
 obtain⟨h1,h2,h3,h4⟩:=zet hb;have wp:=Qm.1 hW;have sw:=P8 wp (Qm.1 h4);obtain⟨u0,u1,hg⟩:=wp.a.u h3;have hl:=zey (W:=W) (g:=g) (q:=q) (p:=p);have yQ:=wp.a.c1;have hc2:=wp.a.c2;refine⟨h3,h2,h1,h4,sw,sw.Rw h3 hl.1 hl.2.1 hl.2.2.1 hl.2.2.2.1 ⟨by rw[hl.2.2.2.2.1];exact hg.w1,by rw[hl.2.2.2.2.1];exact hg.w2,by rw[hl.2.2.2.2.2.1];exact hg.m,by rw[hl.2.2.2.2.2.1];exact hg.m0,by rw[hl.2.2.2.2.2.2];exact hg.s,by rw[hl.2.2.2.1];exact hg.len,λh=>It h h2,λhq=>?_,λhq=>?_⟩⟩
 ·unfold PF at hq ⊢;split
  ·exact⟨show Tj zto=true by decide,rfl,rfl⟩
  ·rename_i hn;rw[E' hn] at hq;unfold zcj at h1;rw[show G8 q p=false by simpa using hn,Bool.false_or,A'] at h1;have:=Qr.1 h1.1;have:q=0:=hq;omega
 ·unfold PF at hq ⊢;split
  ·rename_i hn;rw[H' hn] at hq;exact It rfl hq
  ·rename_i hn;unfold zcj at h1;rw[show G8 q p=false by simpa using hn,Bool.false_or,A'] at h1;have h5:=Qr.1 h1.1;have h6:=Qr.1 h1.2;exact⟨zco h5.1 h5.2 yQ hc2,by simp[XO],h6.1,h6.2,by show W.now<W.now+p;omega,by show W.now+p-W.now<=p;omega⟩
def zkv{W:Q7}{g q p:Int}(h:G8 q p):PF W g q p={ gi W.IE g with period:=0,next:=0,IY:=zto }:=by unfold PF;rw[H' h]
def zgz{W:Q7}{g q p:Int}(h:G8 q p=false):PF W g q p={ gi W.IE g with period:=p,next:=W.now+p,IY:=XO q W.IF.length }:=by unfold PF;rw[E' (by rw[h];decide)]
def BO:MG:=⟨none,0,none,0,none,0⟩
def zs2(base:Nat)(w:Wo):Z2 base w zto BO:=⟨.inl ⟨rfl,rfl,rfl⟩,.inl ⟨rfl,rfl,rfl⟩⟩
def zmz:∀x∈ZQ BO,False:=λx hx=>by simp[ZQ,BO,QE] at hx
section
variable {W W':Q7}{m:MW}{w:Wo}{jG:Int}
def zu5{b:Nat}{bs:List Nat}{w w1 w2 w3:Wo}{q:Int}{n:Nat}(s:Sc w [b] w1)(h2:Q0 [b] (w1.alloc (.cells ((List.replicate n (0:Int)).flatMap Jk).toArray Qc)) w2)(gZ:∀y∈[b],y<w1.heap.size)(Wg:∀y∈[b],y<w2.heap.size)(h3:Q0 [b] (w2.alloc (.cells ((List.replicate n false).flatMap K4).toArray YT)) w3)(_:bs=[]) :
  Z2 w.heap.size w3 (XO q n) ⟨some ⟨w1.heap.size,0,none⟩,n,some ⟨w2.heap.size,0,none⟩,n,none,0⟩/\Q0 [] w w3:=by
 have hL0:Ob Jk 1 Qc w1.heap.size [b] _ (some ⟨w1.heap.size,0,none⟩) n (List.replicate n (0:Int)):=Ob.of (TO (enc:=Jk) Yr.len Qc n (0:Int) w1) gZ;have s1:=(s.RJ (Zj w1 (.cells ((List.replicate n (0:Int)).flatMap Jk).toArray Qc))).step h2;have hL1:=((hL0.step h2).RJ (Zj w2 (.cells ((List.replicate n false).flatMap K4).toArray YT))).step h3;have hD0:Ob K4 1 YT w2.heap.size [b] _ (some ⟨w2.heap.size,0,none⟩) n (List.replicate n false):=Ob.of (TO (enc:=K4) Xm.len YT n false w2) Wg;have hD1:=hD0.step h3;have s2:=(s1.RJ (Zj w2 (.cells ((List.replicate n false).flatMap K4).toArray YT))).step h3;exact⟨⟨hL1.own.mono s.ext.size,hD1.own.mono s1.ext.size⟩,s2.ext⟩
def zs0{b:Nat}{w w1 w2 w3:Wo}{q:Int}{n:Nat}(s:Sc w [b] w1)(h2:Q0 [b] (w1.alloc (.cells ((List.replicate n false).flatMap K4).toArray YT)) w2)(gZ:∀y∈[b],y<w1.heap.size)(Wg:∀y∈[b],y<w2.heap.size)(h3:Q0 [b] (w2.alloc (.cells ((List.replicate n (0:Int)).flatMap Jk).toArray Qc)) w3) :
  Z2 w.heap.size w3 (XO q n) ⟨some ⟨w2.heap.size,0,none⟩,n,some ⟨w1.heap.size,0,none⟩,n,none,0⟩/\Q0 [] w w3:=by
 have hL0:Ob K4 1 YT w1.heap.size [b] _ (some ⟨w1.heap.size,0,none⟩) n (List.replicate n false):=Ob.of (TO (enc:=K4) Xm.len YT n false w1) gZ;have s1:=(s.RJ (Zj w1 (.cells ((List.replicate n false).flatMap K4).toArray YT))).step h2;have hL1:=((hL0.step h2).RJ (Zj w2 (.cells ((List.replicate n (0:Int)).flatMap Jk).toArray Qc))).step h3;have hD0:Ob Jk 1 Qc w2.heap.size [b] _ (some ⟨w2.heap.size,0,none⟩) n (List.replicate n (0:Int)):=Ob.of (TO (enc:=Jk) Yr.len Qc n (0:Int) w2) Wg;have hD1:=hD0.step h3;have s2:=(s1.RJ (Zj w2 (.cells ((List.replicate n (0:Int)).flatMap Jk).toArray Qc))).step h3;exact⟨⟨hD1.own.mono s1.ext.size,hL1.own.mono s.ext.size⟩,s2.ext⟩
def Kx{q:Int}{n:Nat}(hq:Yp q 1 10000)(hn:Yp (n:Int) 1 4) :
  Cz QC #[I q,I (n:Int)] w λe w'=>∃p:MG,e=.returned (.tuple #[.agg (Za (XO q n) p).toArray,.bool true])/\Z2 w.heap.size w' (XO q n) p/\Q0 [] w w':=by
 refine(A7 q (n:Int) (R:=λv w'=>∃p:MG,v=.tuple #[.agg (Za (XO q n) p).toArray,.bool true]/\Z2 w.heap.size w' (XO q n) p/\Q0 [] w w') ?_).mono λe w' ⟨v,he,p,hv,h3⟩=>⟨p,by rw[he,hv],h3⟩
 have hm9:=Zp;have h4:=(Qr.1 hn).2;intro b hb;have s0:Sc w [b] w:=(Sc.start w).add hb;have k1:=Ql (n:=q) (a:=1) (b:=10000) (w:=w) (bs:=[]);have k2:=Ql (n:=(n:Int)) (a:=1) (b:=4) (w:=w) (bs:=[]);rw[hq] at k1;rw[hn] at k2;refine⟨true,k1,true,λ_=>k2,λg=>by simp at g,λ_=>⟨λRa SD gZ=>⟨_,_,_,_,KR Yr Mc n Qo Qo Ra,Qf (Zj _ _) gZ,λRg Rt Wg=>⟨_,_,_,_,KR Xm Fa n Qo Qo Rg,Qf (Zj _ _) Wg,λRL Ru=>?_⟩⟩,λRa SD gZ=>⟨_,_,_,_,KR Xm Fa n Qo Qo Ra,Qf (Zj _ _) gZ,λRg Rt Wg=>⟨_,_,_,_,KR Yr Mc n Qo Qo Rg,Qf (Zj _ _) Wg,λRL Ru=>?_⟩⟩⟩⟩
 ·exact⟨_,by simp[Za,XO],zu5 (bs:=[]) (s0.RJ SD) Rt gZ Wg Ru rfl⟩
 ·exact⟨_,by simp[Za,XO],zs0 (s0.RJ SD) Rt gZ Wg Ru⟩
def zu2{base:Nat}(h:Yn 8 base w W m){g:Int}(u0:0<=g)(u1:g<8){G:ZL}{p:MG}(hp:Z2 base w G.IY p)(hb:∀x∈ZQ p,x∉QS 8 m)(es:G.IH=(gi W.IE g).IH){j:Nat}{vs:List Va}(he:YC G (P5 (m.ms g.toNat) p)=(YC (gi W.IE g) (m.ms g.toNat)).take j++vs++(YC (gi W.IE g) (m.ms g.toNat)).drop (j+vs.length))(hj:j+vs.length<=14) :
  Yn 8 base (RN w m.gO (Int.toNat g*14+j) vs) (Rw W g G) (Oo m g.toNat (P5 (m.ms g.toNat) p)):=
 h.Bm9 u0 u1 (g:=G) (p:=P5 (m.ms g.toNat) p) ⟨hp.loc,hp.RW,by rw[es];exact(h.each u0 u1).shl⟩ (λx hx=>by
  rcases Tl x hx with h1|h1
  ·exact .inl (hb x h1)
  ·exact .inr h1) he hj
def Wk.gr{bs:List Nat}{w0:Wo}(h:Wk 8 bs w0 w W m){g:Int}(u0:0<=g)(u1:g<8){G:ZL}{p:MG}(hp:Z2 w0.heap.size w G.IY p)(hb:∀x∈ZQ p,x∉QS 8 m/\x∉bs)(es:G.IH=(gi W.IE g).IH){j:Nat}{vs:List Va}(he:YC G (P5 (m.ms g.toNat) p)=(YC (gi W.IE g) (m.ms g.toNat)).take j++vs++(YC (gi W.IE g) (m.ms g.toNat)).drop (j+vs.length))(hj:j+vs.length<=14) :
  Wk 8 bs w0 (YtjinkcmkgnofjaaGreat.RN w m.gO (Int.toNat g*14+j) vs) (Rw W g G) (Oo m g.toNat (P5 (m.ms g.toNat) p)):=
 ⟨h.s.call F3 λx hx=>(h.own.lt x hx).1,⟨zu2 h.own u0 u1 hp (λx hx=>(hb x hx).1) es he hj,λx hx=>by
  rcases Tm x hx with h1|h1
  ·exact h.nb x h1
  ·rcases Tl x h1 with h2|h2
   ·exact(hb x h2).2
   ·exact h.nb x (JN Qo h2)⟩⟩
def Uy{g:Int}{ok:Bool}(h:X0 [] w W m)(hl:Xk W) :
  Cz X7 #[.agg (Qa W m).toArray,I g,.bool ok] w λe w'=>(QH W=false/\e=.returned (.tuple #[.agg (Qa Mf zs1).toArray,I 1])/\Q0 [] w w')\/(QH W/\∃m',e=.returned (.tuple #[.agg (Qa W m').toArray,I (PA W g ok)])/\Yn 8 w.heap.size w' W m'/\Q0 [] w w'):=by
 refine(Bo _ _ _ _ _ _ _ _ _ _ g ok (R:=λv w'=>(QH W=false/\v=.tuple #[.agg (Qa Mf zs1).toArray,I 1]/\Q0 [] w w')\/(QH W/\∃m',v=.tuple #[.agg (Qa W m').toArray,I (PA W g ok)]/\Yn 8 w.heap.size w' W m'/\Q0 [] w w')) ?_).mono λe w' ⟨v,he,h3⟩=>by
  rw[he];rcases h3 with ⟨a,b,c⟩|⟨a,m',b,c⟩
  ·exact .inl ⟨a,by rw[b],c⟩
  ·exact .inr ⟨a,m',by rw[b],c⟩
 intro x hx x1 SD wr Rt Wg;refine I5 (Z8 (h.ext Rt) hl) ?_;rintro e wv (⟨hW,he,hy⟩|⟨hW,m',he,hM,hy⟩)
 ·exact⟨_,_,_,_,_,_,_,_,_,_,_,he,Qf hy Wg,λ_ Ra Ru=>.inl ⟨hW,rfl,(Rt.trans hy).fresh Ru λy hm=>.inl (Yz hx SD y hm)⟩,λg=>by simp at g⟩
 have hK:=Wk.begin hx SD Rt Wg hM hy;have yQ:((if QO W=true then 0 else 10:Int)==1)=false:=by split <;> rfl
 refine⟨_,_,_,_,_,_,_,_,_,_,_,he,Qf hy Wg,λg1 Ra Ru=>.inr ⟨hW,m',?_,(hK.step Ru).fin⟩,λg1=>⟨_,X3 hK.rd.g,λg2 Rg Ru=>.inr ⟨hW,m',?_,(hK.step Ru).fin⟩,λg2 RL Ru=>.inr ⟨hW,m',?_,(hK.step Ru).fin⟩⟩⟩
 ·have hb:PA W g ok=1:=by
   unfold PA;rw[H'];rw[yQ] at g1
   simpa using g1
  rw[hb];rfl
 ·rw[yQ] at g1;have g1:¬(ok=false\/g=0):=by simpa using g1
  have hb:PA W g ok=2:=by unfold PA;rw[E' g1,H' (by simpa using g2)]
  rw[hb];rfl
 ·rw[yQ] at g1;have g1:¬(ok=false\/g=0):=by simpa using g1
  have hb:PA W g ok=if QO W=true then 0 else 10:=by
   unfold PA;rw[E' g1,E' (by simpa using g2)]
   cases QO W <;> rfl
  rw[hb];rfl
def HS{g q p:Int}(h:X0 [] w W m)(hl:Xk W) :
  Cz UM #[.agg (Qa W m).toArray,I g,I q,I p] w λe w'=>∃v,e=.returned v/\QM (Xz W (zgy W g q p) (zsq W g q p)) w v w':=by
 refine HA _ _ _ _ _ _ _ _ _ _ g q p (R:=λv w'=>QM (Xz W (zgy W g q p) (zsq W g q p)) w v w') ?_;intro x hx x1 SD;refine⟨_,λ_=>Ql,_,λ_ _=>Ql,λwr Rt Wg=>?_⟩;refine I5 (Uy (g:=g) (ok:=zcj q p) (h.ext Rt) hl) ?_;rintro e wv (⟨hW,he,hy⟩|⟨hW,m',he,hM,hy⟩)
 ·exact⟨_,_,_,_,_,_,_,_,_,_,_,he,Qf hy Wg,λ_ Ra Ru=>QM.bad hW ((Rt.trans hy).fresh Ru λy hm=>.inl (Yz hx SD y hm)),λg=>by simp at g⟩
 have hK:=Wk.begin hx SD Rt Wg hM hy;refine⟨_,_,_,_,_,_,_,_,_,_,_,he,Qf hy Wg,λg1 Ra Ru=>QM.no hW (by simpa[zgy] using g1) (hK.step Ru) rfl,λg1=>?_⟩;have hb:zgy W g q p=0:=by simpa[zgy] using g1
 have hr:=hK.rd;obtain⟨hu,hz,hok,yY,sw,s1⟩:=zph hW hb;obtain⟨u0,u1,_⟩:=Q5.1 hu;have cN:=sw.a.gl;have yQ:=sw.a.c1;have hc2:=sw.a.c2;have hn1:=sw.a.n1;have hn2:=sw.a.n2;have WJ:=hr.g.ix (i:=g) u0 u1;have e5:∀G mm,mm={ m' with ms:=mm.ms }->Qa (Rw W g G) mm=Qa W m':=λG mm hm=>by rw[hm];simp[Qa,Rw]
 have eb:Qa W m'=Qa W m':=rfl;refine⟨WJ,_,_,_,_,_,_,_,_,_,_,_,_,_,_,_,_,_,_,_,_,hr.g.cells g u0 u1,λb2 cA=>⟨λg2 Rg Ru kO=>?_,λg2=>?_⟩⟩
 ·have g2:G8 q p=false:=by unfold G8;simpa only[ID] using g2
  have hlm:Yp q 1 10000/\Yp p 1 1000:=by unfold zcj at hok;rw[g2,Bool.false_or,A'] at hok;exact hok
  have hp:=Qr.1 hlm.2;have hY:=(hK.add cA).step (Ru.mono λy hy=>Ic _ hy);refine I5 (Kx (n:=W.IF.length) hlm.1 (Qr.2 ⟨Qo,Qo⟩)) ?_;rintro e1 RF ⟨pb,mJ,hO,eR⟩;refine⟨_,_,_,_,_,_,_,_,_,_,mJ,Qf eR kO,λb3 hb3=>⟨⟨Qo,Qo⟩,WJ,?_,λRL X' gX=>?_⟩⟩
  ·exact zb1 (hY.RJ eR).own (hY.RJ eR).nb u0 Qo (j:=0) Qd
  have nG:=(hY.RJ eR).add hb3
  have dT:=(nG.gr u0 Qo (G:=PF W g q p) (p:=pb) (j:=0) (vs:=YC (PF W g q p) (P5 (m'.ms g.toNat) pb)) (by rw[zgz g2];exact hO.mono hY.base) (λy hy=>?_) zey.2.2.2.1 (by simp[YC]) (by simp[YC])).step (w':=RL) (by
   rw[zgz g2];exact X'.mono λy hy=>Ic _ hy)
  ·have RD:=Qu dT.own s1 Qd Qd dT.base;rw[e5 _ _ rfl] at RD;refine I5 RD ?_;rintro e2 RH ⟨m2,bS,Wc⟩;exact⟨_,_,_,_,_,_,_,_,_,_,bS,dT.kept Wc gX,λRO Wb=>QM.ok hW hb ((dT.W9 Wc gX).step Wb)⟩
  ·have:=hO.lt y hy;refine⟨λhm=>?_,λhm=>?_⟩
   ·have:=(hY.own.lt y hm).2;omega
   ·rcases Ip.1 hm with h1|h1
    ·have:=kO y h1;omega
    ·have:y=b3:=by simpa using h1
     omega
 ·have g2:G8 q p:=by unfold G8;simpa only[I8] using g2
  refine⟨WJ,?_,λRL X' gX=>?_⟩
  ·exact zb1 hK.own hK.nb u0 Qo (j:=0) Qd
  have nG:=hK.add cA
  have dT:=(nG.gr u0 Qo (G:=PF W g q p) (p:=BO) (j:=0) (vs:=YC (PF W g q p) (P5 (m'.ms g.toNat) BO)) (by rw[zkv g2];exact zs2 _ _) (λy hy=>(zmz y hy).elim) zey.2.2.2.1 (by simp[YC]) (by simp[YC])).step (w':=RL) (by
   rw[zkv g2];exact X'.mono λy hy=>Ic _ hy)
  have RD:=Qu dT.own s1 Qd Qd dT.base;rw[e5 _ _ rfl] at RD;refine I5 RD ?_;rintro e2 RH ⟨m2,bS,Wc⟩;exact⟨_,_,_,_,_,_,_,_,_,_,bS,dT.kept Wc gX,λRO Wb=>QM.ok hW hb ((dT.W9 Wc gX).step Wb)⟩
def zt2.post{base pb:Nat}{ex:List Nat}{w w' w1:Wo}{W':Q7}{m m':MW}(h:zt2 base pb ex w m w' W' m')(hx:Q0 [] w' w1):zt2 base pb ex w m w1 W' m':=
 ⟨h.own.gG hx,Ts h.pt hx Qs,h.ext.trans hx.of_nil,h.sub⟩
end
def Ey(W:Q7)(t:Int):Int:=Xc ((Q8 W t).v-(Qb W (Q8 W t).II (Q8 W t).R8).IL) (Qe (Q8 W t).nice)
def PH(W:Q7)(t g c:Int):Pv:={ Q8 W t with II:=g,R8:=c,v:=(Qb W g c).IL+Ey W t }
def UU(W:Q7)(t g c:Int):Q7:=if (Q8 W t).state=1 then RG (I' W t (PH W t g c)) c else I' W t (PH W t g c)
def AK(W:Q7)(t:Int):0<=Ey W t/\Ey W t<=Qp:=by
 have lc:=ZX ((Q8 W t).v-(Qb W (Q8 W t).II (Q8 W t).R8).IL) (Qe (Q8 W t).nice);have lm:=ZV (Qe (Q8 W t).nice);unfold Ey;simp only[Qp];omega
def SF.I'{F K:Int}{W:Q7}(h:SF F K W){t:Int}(t0:0<=t)(t1:t<12){x:Pv}(hx:x.state≠0->Q6 W.IE x.II/\0<=x.R8/\x.R8<(W.IF.length:Int))(v0:0<=x.v)(v1:x.v<=K):SF F K (I' W t x):=⟨h.w.I' t0 t1 hx v0 v1,h.f⟩
def SF.RG{F K:Int}{W:Q7}(h:SF F K W){c:Int}(c0:0<=c)(c1:c<(W.IF.length:Int)):SF F K (RG W c):=
 ⟨h.w.RG c0 c1,λk d u a b=>h.f k d u a (by
  have b:d<(((W.IF.set c.toNat (XB (gi W.IF c))).length:Nat):Int):=b
  rwa[I0] at b)⟩
def zlb{F K:Int}{W:Q7}(h:SF F K W)(hk:F+Qp<=K){t g c:Int}(hg:Q6 W.IE g)(c0:0<=c)(c1:c<(W.IF.length:Int)):0<=(PH W t g c).v/\(PH W t g c).v<=K:=by
 have hf:=h.f g c hg c0 c1;have hs:=h.w.s g c hg c0 c1;have hl:=AK W t;show 0<=(Qb W g c).IL+Ey W t/\(Qb W g c).IL+Ey W t<=K;omega
def Nq{F K:Int}{W:Q7}(h:SF F K W)(hk:F+Qp<=K){t g c:Int}(t0:0<=t)(t1:t<12)(hg:Q6 W.IE g)(c0:0<=c)(c1:c<(W.IF.length:Int)):SF F K (I' W t (PH W t g c))/\SF F K (UU W t g c):=by
 have hv:=zlb h hk (t:=t) hg c0 c1;have h1:=h.I' t0 t1 (x:=PH W t g c) (λ_=>⟨hg,c0,c1⟩) hv.1 hv.2;refine⟨h1,?_⟩;unfold UU;split
 ·exact h1.RG c0 c1
 ·exact h1
def zqc(W:Q7)(t g c:Int):(UU W t g c).now=W.now/\(UU W t g c).IF.length=W.IF.length/\(UU W t g c).IK.length=W.IK.length/\(UU W t g c).IE=W.IE:=by
 unfold UU;split
 ·exact⟨rfl,by simp[RG,S8,I'],by simp[RG,S8,I'],rfl⟩
 ·exact⟨rfl,rfl,by simp[I'],rfl⟩
def LF(m:Int):Int:=if Zb m 0=true then 0 else if Zb m 1 then 1 else if Zb m 2 then 2 else if Zb m 3 then 3 else -1
def zry:∀a:Fin 16,a.val≠0->Zb (a.val:Int) (LF (a.val:Int)):=by decide +kernel
def D1{m:Int}(h:Om m)(h0:m≠0):Zb m (LF m):=by
 obtain⟨f,rfl⟩:=Pk h;exact zry f λe=>h0 (by rw[e];rfl)
def zu9(gs:List ZL)(g u:Int):Om (V7 gs g u):=by
 unfold V7;rw[List.foldl_append];exact Nm _ _
def L4{W:Q7}(ha:WA W)(g mask:Int):Om (Qv W g mask)/\Qv W g mask≠0:=by
 unfold Qv;split
 ·rename_i h;exact⟨Nm _ _,h⟩
 ·split
  ·rename_i h;refine⟨?_,h⟩;exact zu9 _ _ _
  ·exact⟨ztk ha.c2,ha.ups⟩
def Lr{W:Q7}(ha:WA W)(g mask:Int):0<=LF (Qv W g mask)/\LF (Qv W g mask)<(W.IF.length:Int):=by
 have h:=L4 ha g mask;exact Km ha (D1 h.1 h.2)
def KG(W:Q7)(t:Int):Bool:=((Q8 W t).state != 0) && !Zb (Qv W (Q8 W t).II (Q8 W t).mask) (Q8 W t).R8
def JP(W:Q7):Nat->Q7
 |0=>W
 |t+1=>if KG (JP W t) (t:Int)=true then UU (JP W t) (t:Int) (Q8 (JP W t) (t:Int)).II (LF (Qv (JP W t) (Q8 (JP W t) (t:Int)).II (Q8 (JP W t) (t:Int)).mask)) else JP W t
def LJ(W:Q7):Q7:=JP W 12
structure Fx (W W':Q7):Prop where
 n:W'.now=W.now
 c:W'.IF.length=W.IF.length
 t:W'.IK.length=W.IK.length
 g:W'.IE=W.IE
def Fx.refl(W:Q7):Fx W W:=⟨rfl,rfl,rfl,rfl⟩
def Fx.trans{A B C:Q7}(h:Fx A B)(k:Fx B C):Fx A C:=⟨k.n.trans h.n,k.c.trans h.c,k.t.trans h.t,k.g.trans h.g⟩
def Fx.put(W:Q7)(t g c:Int):Fx W (UU W t g c):=by
 obtain⟨h1,h2,h3,h4⟩:=zqc W t g c;exact⟨h1,h2,h3,h4⟩
def zfi{F K:Int}{W:Q7}(h:SF F K W)(hk:F+Qp<=K):∀t:Nat,t<=12->SF F K (JP W t)/\Fx W (JP W t)
 |0,_=>⟨h,Fx.refl _⟩
 |t+1,ht=>by
  obtain⟨a,b⟩:=zfi h hk t Qo;simp only[JP];split
  ·rename_i hm;unfold KG at hm;simp only[A',Iv,ne_eq] at hm;have hg:=a.w.t (t:Int) Qo Qo hm.1;have hf:=Lr a.w.a (Q8 (JP W t) (t:Int)).II (Q8 (JP W t) (t:Int)).mask;exact⟨(Nq a hk Qo Qo hg.1 hf.1 hf.2).2,b.trans (Fx.put _ _ _ _)⟩
  ·exact⟨a,b⟩
def Lk{F K:Int}{W:Q7}(h:SF F K W)(hk:F+Qp<=K):SF F K (LJ W)/\Fx W (LJ W):=zfi h hk 12 (I9 _)
def zsv{m:Int}{k:Nat}(h4:k<4)(kF:∀j:Nat,j<k->Zb m (j:Int)=false)(h:Zb m (k:Int)):LF m=(k:Int):=by
 have h0:=kF 0;have h1:=kF 1;have h2:=kF 2;have:k=0\/k=1\/k=2\/k=3:=Qo;unfold LF;rcases this with rfl|rfl|rfl|rfl
 ·rw[H' (show Zb m 0=true from h)];rfl
 ·rw[E' (by rw[show Zb m 0=false from h0 Qd];decide),H' (show Zb m 1=true from h)];rfl
 ·rw[E' (by rw[show Zb m 0=false from h0 Qd];decide),E' (by rw[show Zb m 1=false from h1 Qd];decide),H' (show Zb m 2=true from h)];rfl
 ·rw[E' (by rw[show Zb m 0=false from h0 Qd];decide),E' (by rw[show Zb m 1=false from h1 Qd];decide),E' (by rw[show Zb m 2=false from h2 Qd];decide),H' (show Zb m 3=true from h)];rfl
def zsw{m:Int}(kF:∀j:Nat,j<4->Zb m (j:Int)=false):LF m = -1:=by
 unfold LF;rw[E' (by rw[show Zb m 0=false from kF 0 Qd];decide),E' (by rw[show Zb m 1=false from kF 1 Qd];decide),E' (by rw[show Zb m 2=false from kF 2 Qd];decide),E' (by rw[show Zb m 3=false from kF 3 Qd];decide)]
section
variable {base:Nat}{W W':Q7}{m:MW}{w:Wo}{jG:Int}
def PY{x:Int}{bs:List Nat}:PX bs Jq #[I x] w (I (LF x)):=
 EO x λwr hx=>by
  refine Xr 4 0 rfl (λk=>k<=4/\∀j:Nat,j<k->Zb x (j:Int)=false) ⟨Qd,λj hj=>It hj (Nat.not_lt_zero j)⟩ λk ⟨hk,kF⟩=>⟨λIX=>?_,λRX=>?_⟩
  ·have IX:=Ot IX;refine⟨_,ZU,λg=>?_,λg=>⟨⟨Qo,Qo⟩,QB Qo ⟨Qo,λj hj=>?_⟩⟩⟩
   ·rw[zsv Qo kF g]
   ·by_cases e:j=k
    ·rw[e];exact g
    ·exact kF j Qo
  ·have RX:=Ou RX;have:k=4:=Qo;subst this;rw[zsw kF]
def HK(W:Q7)(t:Int)(x:Pv)(m:MW):Qa (I' W t x) m=Qa W m:=by simp[Qa,I']
def Ui{F K:Int}(h:Yn 8 base w W m)(pR:SF F K W)(hk:F+Qp<=K)(hK:K<=1000000000000000000){t g c:Int}(t0:0<=t)(t1:t<12)(hs:(Q8 W t).state≠0)(hg:Q6 W.IE g)(c0:0<=c)(c1:c<(W.IF.length:Int)) :
  Cz Xa #[.agg (Qa W m).toArray,I t,I g,I c] w λe w'=>e=.returned (.agg (Qa W m).toArray)/\Mv 8 base [] w m w' (UU W t g c) m:=by
 refine(zaq _ _ _ _ _ _ _ _ _ _ t g c (R:=λv w'=>v=.agg (Qa W m).toArray/\Mv 8 base [] w m w' (UU W t g c) m) ?_).mono λe w' ⟨v,he,hv,h3⟩=>⟨by rw[he,hv],h3⟩
 intro y hy y1 eR;obtain⟨g0,g1,_⟩:=Q5.1 hg;have lB:=pR.w.a.t;have cN:=pR.w.a.gl;have hsl:=pR.w.a.sl hg;have yS:t<(W.IK.length:Int):=Qo;obtain⟨hu,d0,d1⟩:=pR.w.t t t0 t1 hs;obtain⟨q0,q1,_⟩:=Q5.1 hu;have hql:=pR.w.a.sl hu;have s1:=pR.w.s g c hg c0 c1;have s2:=pR.w.s _ _ hu d0 d1;have hv:=pR.w.tv t t0 t1;have hlr:=AK W t;simp only[Qp] at hlr;have hM:=Mv.two h hy eR;have hr:=(Mv.start h).rd;have WJ:=hr.t.ix QF t0 yS;have SZ:=h.AC1 t0 yS (j:=0) (vs:=Ys (PH W t g c)) (x:=PH W t g c) (by simp[Ys]) (by simp[Ys]);have e5:Qa (I' W t (PH W t g c)) m=Qa W m:=HK _ _ _ _;have e6:Qa (RG (I' W t (PH W t g c)) c) m=Qa W m:=(Oh (Ap _ _)).trans e5;refine⟨Ey W t,G5 hr t0 yS q0 q1 d0 Qo ⟨by show _<=(Q8 W t).v-(Qb W (Q8 W t).II (Q8 W t).R8).IL;omega,by show (Q8 W t).v-(Qb W (Q8 W t).II (Q8 W t).R8).IL<=_;omega⟩,WJ,_,_,_,_,_,_,_,_,_,hr.t t t0 yS,λb2 cA=>⟨hr.g.ix g0 g1,_,_,_,hr.g.RY g0 g1,(hr.g.IH g g0 g1).ix Zz c0 Qo,(Qb W g c).IL,zia.f (hr.g.IH g g0 g1) c0 Qo (j:=0) rfl,⟨Qo,Qo⟩,WJ,zfy h Qs t0 yS (j:=0) Qd,λg4 wr hx gX=>?_,λg4 wr hx=>⟨rfl,?_⟩⟩⟩
 ·have g4:(Q8 W t).state=1:=IA g4;have dS:=((hM.add cA).W9 SZ LK).step (hx.of_nil);have RD:=Zr dS.own (W:=I' W t (PH W t g c)) c0 c1;rw[e5,e6] at RD;refine I5 RD ?_;rintro e wv ⟨mJ,Wc⟩;refine⟨_,_,_,_,_,_,_,_,_,_,mJ,dS.kept Wc gX,λRg X'=>⟨rfl,?_⟩⟩;unfold UU;rw[H' g4];exact((dS.call Wc gX).step X').close
 ·have g4:¬(Q8 W t).state=1:=ne_of_beq_false g4;unfold UU;rw[E' g4];exact((Mv.start h).W9 SZ LK).RJ hx
def J1{F K:Int}(h:Yn 8 base w W m)(pR:SF F K W)(hk:F+Qp<=K)(hK:K<=1000000000000000000) :
  Cz Ya #[.agg (Qa W m).toArray] w λe w'=>e=.returned (.agg (Qa W m).toArray)/\Mv 8 base [] w m w' (LJ W) m:=by
 refine(Gv _ _ _ _ _ _ _ _ _ _ (R:=λv w'=>v=.agg (Qa W m).toArray/\Mv 8 base [] w m w' (LJ W) m) ?_).mono λe w' ⟨v,he,hv,h3⟩=>⟨by rw[he,hv],h3⟩
 intro y hy y1 eR;have lB:=pR.w.a.t;refine⟨λvs w1=>∃(k:Nat),vs=I (k:Int)::Qa W m/\k<=12/\Mv 8 base [y,y1] w m w1 (JP W k) m,Zk 12 0,λw1 tJ _=>⟨0,rfl,Qd,(Mv.two h hy eR).RJ tJ⟩,?_⟩;rintro c1 l Sd Sm Sr Sj So Sq Se Sf Sg RH Wg ⟨k,he,kZ,hM⟩;obtain⟨hS,hF⟩:=zfi pR hk k kZ;have aU:JP W (k+1)=if KG (JP W k) (k:Int)=true then UU (JP W k) (k:Int) (Q8 (JP W k) (k:Int)).II (LF (Qv (JP W k) (Q8 (JP W k) (k:Int)).II (Q8 (JP W k) (k:Int)).mask)) else JP W k:=rfl;have AB1:k=12->LJ W=JP W k:=λe=>by rw[e];rfl
 have e0:Qa (JP W k) m=Qa W m:=by simp only[Qa,hF.n,hF.c,hF.t,hF.g]
 have eC:=hF.c;have eT:=hF.t;simp only[Qa,I6,I7,Iy,true_and,and_true] at he;obtain⟨rfl,rfl,⟨rfl,rfl,rfl⟩,⟨rfl,rfl,rfl⟩,rfl,rfl,rfl⟩:=he;generalize JP W k=V at hM hS hF aU AB1 e0 eC eT;have hr:=hM.rd;refine⟨λIX=>?_,λRX w3 Ru=>⟨rfl,?_⟩⟩
 ·have IX:=Ot IX;have t1:(k:Int)<(V.IK.length:Int):=Qo;have WJ:Ix m.tO W.IK.length (k:Int):=by have:=hr.t.ix QF (i:=(k:Int)) Qo t1;rwa[eT] at this
  have next:∀{w9 w8:Wo},Q0 [y,y1] RH w9->KG V (k:Int)=false->(∃(k':Nat),[I ((k:Int)+1),I W.now,.slice m.cO W.IF.length m.cC,.slice m.tO W.IK.length m.tC,.slice m.gO W.IE.length m.gC]=I (k':Int)::Qa W m/\k'<=12/\Mv 8 base [y,y1] w m w9 (JP W k') m)/\Zk 12 0 [I ((k:Int)+1),I W.now,.slice m.cO W.IF.length m.cC,.slice m.tO W.IK.length m.tC,.slice m.gO W.IE.length m.gC] w9<Zk 12 0 [I (k:Int),I W.now,.slice m.cO W.IF.length m.cC,.slice m.tO W.IK.length m.tC,.slice m.gO W.IE.length m.gC] w8:=λ{w9 w8} hx hm=>by
   refine⟨⟨k+1,rfl,Qo,?_⟩,?_⟩
   ·rw[aU,E' (by rw[hm];decide)];exact hM.step hx
   ·simp only[Zk,J5,Y5,Ih];omega
  refine⟨WJ,_,zq9.f hr.t Qo t1 (j:=0) rfl,λg=>⟨⟨Qo,Qo⟩,λRO X' _=>next X' (by unfold KG;rw[show (Q8 V (k:Int)).state=0 from IA g];rfl)⟩,λg=>?_⟩;have lA:(Q8 V (k:Int)).state≠0:=ne_of_beq_false g;obtain⟨hu,d0,d1⟩:=hS.w.t (k:Int) Qo Qo lA;have hwh:=XL (g:=(Q8 V (k:Int)).II) (mask:=(Q8 V (k:Int)).mask) hr hS.w.a.c2 hS.w.a.tree hu;rw[e0] at hwh;have hf:=Lr hS.w.a (Q8 V (k:Int)).II (Q8 V (k:Int)).mask;refine⟨WJ,_,zq9.f hr.t Qo t1 (j:=1) rfl,WJ,_,zq9.f hr.t Qo t1 (j:=4) rfl,_,hwh,WJ,_,zq9.f hr.t Qo t1 (j:=2) rfl,_,ZU,λg2=>⟨WJ,_,zq9.f hr.t Qo t1 (j:=1) rfl,_,PY,λS5 Wb kM=>?_⟩,λg2=>⟨⟨Qo,Qo⟩,λRO X' _=>next X' (by unfold KG;rw[show Zb (Qv V (Q8 V (k:Int)).II (Q8 V (k:Int)).mask) (Q8 V (k:Int)).R8=true from (by have h:=g2;rw[I8] at h;exact h)];simp)⟩⟩;have hM5:=hM.step Wb;have RD:=Ui hM5.own hS hk hK (t:=(k:Int)) (g:=(Q8 V (k:Int)).II) (c:=LF (Qv V (Q8 V (k:Int)).II (Q8 V (k:Int)).mask)) Qo Qo lA hu hf.1 hf.2;rw[e0] at RD;refine I5 RD ?_;rintro e1 Sx ⟨mJ,rN⟩;refine⟨_,_,_,_,_,_,_,_,_,_,mJ,hM5.kept rN kM,⟨Qo,Qo⟩,λSw eM _=>⟨⟨k+1,rfl,Qo,?_⟩,?_⟩⟩
  ·have hm:KG V (k:Int):=by
    unfold KG;rw[A'];exact⟨by simpa using lA,g2⟩
   rw[aU,H' hm];exact(hM5.call rN kM).step eM
  ·simp only[Zk,J5,Y5,Ih];omega
 ·have RX:=Ou RX;rw[AB1 Qo];exact(hM.step Ru).close
section
variable {pb:Nat}
end
end
def Mb{W:Q7}(sw:SW Qt W):SF Qt (Qt+Qp) W:=sw.sf.mono (I4 _) (by simp only[Qp];decide)
noncomputable def GV(W:Q7)(t x:Int):Int:=if Om x=false\/x=0 then 1 else if ZI W t=false then 2 else if QO W=false then 10 else 0
def zjd(W:Q7)(t x:Int):Pv:={ Q8 W t with mask:=x }
def zqa(W:Q7)(t x:Int):Q7:=Qh (LJ (I' W t (zjd W t x)))
def zqb{W:Q7}{t x:Int}(hW:QH W)(hb:GV W t x=0):ZI W t/\SF Qt (Qt+Qp) W/\SF Qt (Qt+Qp) (I' W t (zjd W t x)):=by
 have wp:=Qm.1 hW;unfold GV at hb
 split at hb
 ·cases hb
 ·split at hb
  ·cases hb
  ·rename_i h2
   split at hb
   ·cases hb
   ·rename_i h3;have h1:ZI W t:=by simpa using h2
    have h3:QO W:=by simpa using h3
    have sw:=P8 wp (Qm.1 h3);obtain⟨t0,t1,n⟩:=YK h1;have hl:=wp.a.t;have hv:=sw.tv t t0 Qo;exact⟨h1,Mb sw,Mb (sw.I' t0 Qo (λ_=>sw.t t t0 Qo n) hv.1 hv.2)⟩
def HJ{W:Q7}{m:MW}{F K:Int}(sf:SF F K W)(hk:F+Qp<=K):Qa (LJ W) m=Qa W m:=by
 have hF:=(Lk sf hk).2;simp only[Qa,hF.n,hF.c,hF.t,hF.g]
section
variable {base pb:Nat}{W W':Q7}{m:MW}{w:Wo}{jG:Int}
def AG{t x:Int}(h:X0 [] w W m)(hl:Xk W) :
  Cz O2 #[.agg (Qa W m).toArray,I t,I x] w λe w'=>∃v,e=.returned v/\QM (Xz W (GV W t x) (zqa W t x)) w v w':=by
 refine A8 _ _ _ _ _ _ _ _ _ _ t x (R:=λv w'=>QM (Xz W (GV W t x) (zqa W t x)) w v w') ?_;intro y hy y1 eR wr Rt Wg;refine I5 (Z8 (h.ext Rt) hl) ?_;rintro e wv (⟨hW,he,Wc⟩|⟨hW,m',he,hM,Wc⟩)
 ·exact⟨_,_,_,_,_,_,_,_,_,_,_,he,Qf Wc Wg,false,λg=>by simp at g,λ_ Ra Ru=>QM.bad hW ((Rt.trans Wc).fresh Ru λz hm=>.inl (Yz hy eR z hm)),λg=>by simp at g⟩
 have hK:=Wk.begin hy eR Rt Wg hM Wc;have hr:=hK.rd;have yQ:((if QO W=true then 0 else 10:Int)==1)=false:=by split <;> rfl
 refine⟨_,_,_,_,_,_,_,_,_,_,_,he,Qf Wc Wg,_,λ_=>X2,λg Ra Ru=>?_,λg0=>⟨_,Je hr hl.t,λg Rg Ru=>?_,λg=>⟨λg3 RO Ru=>?_,λg3=>?_⟩⟩⟩
 ·rw[yQ] at g;have g:Om x=false\/x=0:=by simpa using g
  have hb:GV W t x=1:=by unfold GV;rw[H' g]
  exact QM.no hW (by rw[hb];decide) (hK.step Ru) hb
 ·rw[yQ] at g0;have g0:¬(Om x=false\/x=0):=by simpa using g0
  have g:ZI W t=false:=by simpa using g
  have hb:GV W t x=2:=by unfold GV;rw[E' g0,H' g]
  exact QM.no hW (by rw[hb];decide) (hK.step Ru) hb
 ·rw[yQ] at g0;have g0:¬(Om x=false\/x=0):=by simpa using g0
  have g:ZI W t:=by simpa using g
  have bH:¬QO W:=λhr=>by rw[H' hr] at g3;simp at g3
  have hb:GV W t x=10:=by unfold GV;rw[E' g0,E' (by rw[g];decide),H' (by simpa using bH)]
  rw[E' bH];exact QM.no hW (by rw[hb];decide) (hK.step Ru) hb
 rw[yQ] at g0;have g0:¬(Om x=false\/x=0):=by simpa using g0
 have g:ZI W t:=by simpa using g
 have bH:QO W:=Is λhr=>by rw[E' hr] at g3;simp at g3
 have hb:GV W t x=0:=by unfold GV;rw[E' g0,E' (by rw[g];decide),E' (by rw[bH];decide)]
 obtain⟨_,sf0,sf⟩:=zqb hW hb;obtain⟨t0,t1,tn⟩:=YK g;have SZ:Wk 8 [y,y1] w (RN wv m'.tO (Int.toNat t*9+4) [I x]) (I' W t (zjd W t x)) m':=hK.RN (hK.own.AC1 t0 t1 (j:=4) (vs:=[I x]) (x:=zjd W t x) rfl Qs) LK;refine⟨hr.t.ix QF t0 t1,zfy hK.own hK.nb t0 t1 (j:=4) Qd,λRO X' gX=>?_⟩;have e5:Qa (I' W t (zjd W t x)) m'=Qa W m':=HK _ _ _ _;have hE:zqa W t x=Qh (LJ (I' W t (zjd W t x))):=rfl;rw[hE];generalize I' W t (zjd W t x)=V at SZ sf e5;have dT:=SZ.step X';have RD:=J1 dT.own sf (I4 _) (by simp only[Qp];decide);rw[e5] at RD;refine I5 RD ?_;rintro e1 RF ⟨mJ,rN⟩;refine⟨_,_,_,_,_,_,_,_,_,_,mJ,dT.kept rN gX,λS5 Wb kM=>?_⟩;have dE:=(dT.W9 rN gX).step Wb;have aP:=Qu dE.own (Lk sf (I4 _)).1.w (by simp only[Qp];decide) (by simp only[Qp];decide) dE.base;rw[HJ sf (I4 _),e5] at aP;refine I5 aP ?_;rintro e2 RH ⟨m2,bS,pS⟩;exact⟨_,_,_,_,_,_,_,_,_,_,bS,dE.kept pS kM,λSw eM=>QM.ok hW hb ((dE.W9 pS kM).step eM)⟩
def zes(W:Q7)(g x:Int):ZL:={ gi W.IE g with IF:=x }
noncomputable def zgm(W:Q7)(g x:Int):Int:=PA W g (Om x&&(x != 0))
def zou(W:Q7)(g x:Int):Q7:=Qh (LJ (Rw W g (zes W g x)))
def zov{W:Q7}{g x:Int}(hW:QH W)(hb:zgm W g x=0):Q6 W.IE g/\QO W/\SF Qt (Qt+Qp) W/\SF Qt (Qt+Qp) (Rw W g (zes W g x))/\QY W.IE (Rw W g (zes W g x)).IE:=by
 obtain⟨h1,h2,h3,h4⟩:=zet hb;have wp:=Qm.1 hW;have sw:=P8 wp (Qm.1 h4);obtain⟨u0,u1,hg⟩:=wp.a.u h3;have hl:=wp.a.gl;simp only[A',Iv,ne_eq] at h1;exact⟨h3,h4,Mb sw,Mb (sw.Rw (x:=zes W g x) h3 rfl rfl rfl rfl ⟨hg.w1,hg.w2,h1.1,h1.2,hg.s,hg.len,λh=>It h h2,hg.none,hg.IY⟩),Jh u0 Qo rfl rfl rfl⟩
def BA{g x:Int}(h:X0 [] w W m)(hl:Xk W) :
  Cz T2 #[.agg (Qa W m).toArray,I g,I x] w λe w'=>∃v,e=.returned v/\QM (Xz W (zgm W g x) (zou W g x)) w v w':=by
 refine Bd _ _ _ _ _ _ _ _ _ _ g x (R:=λv w'=>QM (Xz W (zgm W g x) (zou W g x)) w v w') ?_;intro y hy y1 eR;refine⟨_,X2,λwr Rt Wg=>?_⟩;refine I5 (Uy (g:=g) (ok:=Om x&&(x != 0)) (h.ext Rt) hl) ?_;rintro e wv (⟨hW,he,Wc⟩|⟨hW,m',he,hM,Wc⟩)
 ·exact⟨_,_,_,_,_,_,_,_,_,_,_,he,Qf Wc Wg,λ_ Ra Ru=>QM.bad hW ((Rt.trans Wc).fresh Ru λz hm=>.inl (Yz hy eR z hm)),λg=>by simp at g⟩
 have hK:=Wk.begin hy eR Rt Wg hM Wc;refine⟨_,_,_,_,_,_,_,_,_,_,_,he,Qf Wc Wg,λg1 Ra Ru=>QM.no hW (by simpa[zgm] using g1) (hK.step Ru) rfl,λg1=>?_⟩;have hb:zgm W g x=0:=by simpa[zgm] using g1
 have hr:=hK.rd;obtain⟨hu,yY,sf0,sf,hT⟩:=zov hW hb;obtain⟨u0,u1,_⟩:=Q5.1 hu;have cN:=sf0.w.a.gl;have SZ:Wk 8 [y,y1] w (RN wv m'.gO (Int.toNat g*14+4) [I x]) (Rw W g (zes W g x)) m':=hK.RN (hK.own.A84 u0 Qo (g:=zes W g x) rfl rfl rfl (j:=4) (vs:=[I x]) rfl Qs) F3;refine⟨hr.g.ix (i:=g) u0 u1,zb1 hK.own hK.nb (i:=g) u0 Qo (j:=4) (k:=1) Qd,λRO X' gX=>?_⟩;have e5:Qa (Rw W g (zes W g x)) m'=Qa W m':=by simp[Qa,Rw]
 have hE:zou W g x=Qh (LJ (Rw W g (zes W g x))):=rfl;rw[hE];generalize Rw W g (zes W g x)=V at SZ sf e5;have dT:=SZ.step X';have RD:=J1 dT.own sf (I4 _) (by simp only[Qp];decide);rw[e5] at RD;refine I5 RD ?_;rintro e1 RF ⟨mJ,rN⟩;refine⟨_,_,_,_,_,_,_,_,_,_,mJ,dT.kept rN gX,λS5 Wb kM=>?_⟩;have dE:=(dT.W9 rN gX).step Wb;have aP:=Qu dE.own (Lk sf (I4 _)).1.w (by simp only[Qp];decide) (by simp only[Qp];decide) dE.base;rw[HJ sf (I4 _),e5] at aP;refine I5 aP ?_;rintro e2 RH ⟨m2,bS,pS⟩;exact⟨_,_,_,_,_,_,_,_,_,_,bS,dE.kept pS kM,λSw eM=>QM.ok hW hb ((dE.W9 pS kM).step eM)⟩
end
def zvl(W:Q7)(c:Int)(j:Nat):Bool:=((Q8 W (j:Int)).state==1)&&((Q8 W (j:Int)).R8==c)
def zfh(W:Q7)(c:Int)(j:Nat):Int:=if zvl W c j=true then 1 else 0
def zew(W:Q7)(c:Int)(j:Nat):Int:=if zvl W c j=true then (Q8 W (j:Int)).load else 0
def zhg(W:Q7)(c:Int):Int:=XD (zfh W c) W.IK.length
def zex(W:Q7)(c:Int):Int:=XD (zew W c) W.IK.length
def zst(W:Q7)(a b:Int):Bool:=decide (zex W a<zex W b)||((zex W a==zex W b)&&decide (zhg W a<zhg W b))
def P3(W:Q7)(m:Int):Nat->Int
 |0 => -1
 |k+1=>if (Zb m (k:Int)&&(decide (P3 W m k<0)||zst W (k:Int) (P3 W m k)))=true then (k:Int) else P3 W m k
def Pc(W:Q7)(m:Int):Int:=P3 W m W.IF.length
def zhe{W:Q7}{m:Int}{k:Nat}(h:(Zb m (k:Int)&&(decide (P3 W m k<0)||zst W (k:Int) (P3 W m k)))):P3 W m (k+1)=(k:Int):=H' h
def zla{W:Q7}{m:Int}{k:Nat}(h:(Zb m (k:Int)&&(decide (P3 W m k<0)||zst W (k:Int) (P3 W m k)))=false):P3 W m (k+1)=P3 W m k:=E' (by rw[h];decide)
def Cu(W:Q7)(m:Int):∀k:Nat,-1<=P3 W m k/\P3 W m k<(k:Int)/\(0<=P3 W m k->Zb m (P3 W m k))
 |0=>⟨I4 _,by show (-1:Int)<0;decide,λh=>by have:(0:Int)<=-1:=h;omega⟩
 |k+1=>by
  have ih:=Cu W m k;simp only[P3];split
  ·rename_i h;simp only[A'] at h;exact⟨Qo,Qo,λ_=>h.1⟩
  ·exact⟨ih.1,Qo,ih.2.2⟩
def zcx{W:Q7}{m:Int}{j:Nat}(h:Zb m (j:Int)):∀k:Nat,j<k->0<=P3 W m k
 |0,hk=>It hk (Nat.not_lt_zero j)
 |k+1,hk=>by
  by_cases e:j=k
  ·subst e
   by_cases hn:P3 W m j<0
   ·rw[zhe (by rw[h,Ij hn];rfl)];omega
   ·simp only[P3];split <;> omega
  ·have:=zcx (W:=W) h k Qo;simp only[P3]
   split <;> omega
def zva{W:Q7}(ha:WA W){m:Int}(hm:Om m)(h0:m≠0)(hs:∀c:Int,Zb m c->0<=c/\c<(W.IF.length:Int)):0<=Pc W m/\Pc W m<(W.IF.length:Int)/\Zb m (Pc W m):=by
 have hf:=D1 hm h0;have hr:=hs _ hf;have e:((LF m).toNat:Int)=LF m:=Qo;have h1:=zcx (W:=W) (m:=m) (j:=(LF m).toNat) (by rw[e];exact hf) W.IF.length Qo;have h2:=Cu W m W.IF.length;exact⟨h1,h2.2.1,h2.2.2 h1⟩
def Lj{W:Q7}(ha:WA W)(g mask:Int):0<=Pc W (Qv W g mask)/\Pc W (Qv W g mask)<(W.IF.length:Int)/\Zb (Qv W g mask) (Pc W (Qv W g mask)):=
 zva ha (L4 ha g mask).1 (L4 ha g mask).2 λ_ h=>Km ha h
def GH(m:Int):Nat->Int
 |0=>0
 |k+1=>if Zb m (k:Int)=true then GH m k+1 else GH m k
def AS(m:Int):∀k:Nat,0<=GH m k/\GH m k<=(k:Int)
 |0=>by simp[GH]
 |k+1=>by
  have:=AS m k;simp only[GH]
  split <;> omega
def zwl(W:Q7):Prop:=∀t:Int,0<=t->t<12->0<=(Q8 W t).load/\(Q8 W t).load<=8000000
def zpg{W:Q7}(wp:Xw W):zwl W:=λt t0 t1=>by
 rcases wp.t t t0 t1 with h|⟨_,h⟩
 ·rw[h.2];decide
 ·exact⟨h.l1,h.l2⟩
def zji(W:Q7)(c:Int)(j:Nat):0<=zfh W c j/\zfh W c j<=1:=by unfold zfh;split <;> omega
def zjj{W:Q7}(c:Int)(k:Nat):0<=XD (zfh W c) k/\XD (zfh W c) k<=(k:Int)*1:=UY (zji W c) k
def AL{W:Q7}(hl:zwl W)(c:Int):∀k:Nat,k<=12->0<=XD (zew W c) k/\XD (zew W c) k<=(k:Int)*8000000
 |0,_=>by simp[XD]
 |k+1,hk=>by
  have ih:=AL hl c k Qo;have h1:=hl (k:Int) Qo Qo;simp only[XD];have h2:0<=zew W c k/\zew W c k<=8000000:=by unfold zew;split <;> omega
  omega
section
variable {W:Q7}{m:MW}{w:Wo}{bs:List Nat}{p:OA}
def O9{c:Int}(h:X0 bs w W m)(lB:W.IK.length=12):PX bs XJ #[.agg (Qa W m).toArray,I c] w (I (zhg W c)):=
 BZ _ _ _ _ _ _ _ _ _ _ c λwr hx=>by
  have h:=(h.ext hx).less (cs:=[]) Qs;intro _ _;refine TM W.IK.length 0 rfl (λx k=>k<=W.IK.length/\x=XD (zfh W c) k) ⟨Ig _,rfl⟩ λx k ⟨hk,Rt⟩=>⟨λIX=>?_,λRX=>?_⟩
  ·have IX:=Ot IX;have hr:=zjj (W:=W) c k;refine⟨h.t.ix QF Qo IX,_,h.t.f Qo IX (j:=0) rfl,λ_=>h.t.ix QF Qo IX,_,λ_=>h.t.f Qo IX (j:=2) rfl,λg2=>⟨⟨Qo,Qo⟩,⟨Qo,Qo⟩,QG Qo ⟨Qo,?_⟩⟩,λg2=>⟨⟨Qo,Qo⟩,QG Qo ⟨Qo,?_⟩⟩⟩
   ·have g2:zvl W c k:=g2;simp only[XD,zfh];rw[H' g2,Rt]
   ·have g2:zvl W c k=false:=g2;simp only[XD,zfh];rw[E' (by rw[g2];decide),Rt,Int.add_zero]
  ·have RX:=Ou RX;have:k=W.IK.length:=Qo;subst this;rw[Rt];rfl
def Ux{c:Int}(h:X0 bs w W m)(lB:W.IK.length=12)(hl:zwl W):PX bs X6 #[.agg (Qa W m).toArray,I c] w (I (zex W c)):=
 BX _ _ _ _ _ _ _ _ _ _ c λwr hx=>by
  have h:=(h.ext hx).less (cs:=[]) Qs;intro _ _;refine TM W.IK.length 0 rfl (λx k=>k<=W.IK.length/\x=XD (zew W c) k) ⟨Ig _,rfl⟩ λx k ⟨hk,Rt⟩=>⟨λIX=>?_,λRX=>?_⟩
  ·have IX:=Ot IX;have hr:=AL hl c k Qo;have yS:=hl (k:Int) Qo Qo;refine⟨h.t.ix QF Qo IX,_,h.t.f Qo IX (j:=0) rfl,λ_=>h.t.ix QF Qo IX,_,λ_=>h.t.f Qo IX (j:=2) rfl,λg2=>⟨h.t.ix QF Qo IX,(Q8 W (k:Int)).load,h.t.f Qo IX (j:=8) rfl,⟨Qo,Qo⟩,⟨Qo,Qo⟩,QG Qo ⟨Qo,?_⟩⟩,λg2=>⟨⟨Qo,Qo⟩,QG Qo ⟨Qo,?_⟩⟩⟩
   ·have g2:zvl W c k:=g2;simp only[XD,zew];rw[H' g2,Rt]
   ·have g2:zvl W c k=false:=g2;simp only[XD,zew];rw[E' (by rw[g2];decide),Rt,Int.add_zero]
  ·have RX:=Ou RX;have:k=W.IK.length:=Qo;subst this;rw[Rt];rfl
def MR{x:Int}(h:X0 bs w W m)(ha:WA W)(hl:zwl W):PX bs JY #[.agg (Qa W m).toArray,I x] w (I (Pc W x)):=
 BY _ _ _ _ _ _ _ _ _ _ x λwr hx=>by
  have h:=(h.ext hx).less (cs:=[]) Qs;have rL:=ha.c2;have lB:=ha.t;intro _ _;refine TM W.IF.length 0 rfl (λb k=>k<=W.IF.length/\b=P3 W x k) ⟨Ig _,rfl⟩ λb k ⟨hk,hb⟩=>⟨λIX=>?_,λRX=>?_⟩
  ·have IX:=Ot IX;have key:(((decide (b<0))||(decide (zex W (k:Int)<zex W b)))||((zex W (k:Int)==zex W b)&&(decide (zhg W (k:Int)<zhg W b))))=(decide (P3 W x k<0)||zst W (k:Int) (P3 W x k)):=by rw[hb,Bool.or_assoc];rfl
   refine⟨_,ZU,λg=>⟨⟨Qo,Qo⟩,QG Qo ⟨Qo,?_⟩⟩,λg=>⟨_,λ_=>Ux h lB hl,_,λ_=>Ux h lB hl,_,λ_=>Ux h lB hl,_,λ_=>Ux h lB hl,_,λ_ _=>O9 h lB,_,λ_ _=>O9 h lB,λg2=>⟨⟨Qo,Qo⟩,QG Qo ⟨Qo,?_⟩⟩,λg2=>⟨⟨Qo,Qo⟩,QG Qo ⟨Qo,?_⟩⟩⟩⟩
   ·have g:Zb x (k:Int)=false:=by simpa using g
    rw[hb,zla (by rw[g];rfl)]
   ·have g:Zb x (k:Int):=by simpa using g
    rw[zhe (by rw[g,<-key,g2];rfl)]
   ·have g:Zb x (k:Int):=by simpa using g
    rw[hb,zla (by rw[g,<-key,g2];rfl)]
  ·have RX:=Ou RX;have:k=W.IF.length:=Qo;subst this;rw[hb];rfl
def Er{x:Int}:PX bs Vo #[I x] w (I (GH x 4)):=
 EN x λwr hx=>by
  refine TM 4 0 rfl (λn k=>k<=4/\n=GH x k) ⟨Qd,rfl⟩ λn k ⟨hk,hn⟩=>⟨λIX=>?_,λRX=>?_⟩
  ·have IX:=Ot IX;have hr:=AS x k;refine⟨_,ZU,λg=>⟨⟨Qo,Qo⟩,⟨Qo,Qo⟩,QG Qo ⟨Qo,?_⟩⟩,λg=>⟨⟨Qo,Qo⟩,QG Qo ⟨Qo,?_⟩⟩⟩
   ·simp only[GH];rw[H' g,hn]
   ·simp only[GH];rw[E' (by rw[g];decide),hn]
  ·have RX:=Ou RX;have:k=4:=Qo;subst this;rw[hn]
end
def Nl(n:Int):Int:=if Yp n 1 4=true then (if n=1 then 0 else if n=2 then 1 else 2) else 0
def zmr{n:Int}(h:Yp n 1 4):(n=1/\Nl n=0)\/(n=2/\Nl n=1)\/(n=3/\Nl n=2)\/(n=4/\Nl n=2):=by
 have:=Qr.1 h;have:n=1\/n=2\/n=3\/n=4:=Qo;rcases this with rfl|rfl|rfl|rfl
 ·exact .inl ⟨rfl,Qd⟩
 ·exact .inr (.inl ⟨rfl,Qd⟩)
 ·exact .inr (.inr (.inl ⟨rfl,Qd⟩))
 ·exact .inr (.inr (.inr ⟨rfl,Qd⟩))
def zpt(c lv j:Int):Bool:=Int.fdiv j (2 ^ (min (Int.toNat (lv+1)) 64))==Int.fdiv c (2 ^ (min (Int.toNat (lv+1)) 64))
def zqj(c lv:Int):Nat->Int
 |0=>0
 |k+1=>if zpt c lv (k:Int)=true then zqj c lv k+Jz k else zqj c lv k
def zqk(c lv:Int):∀k:Nat,k<=4->0<=zqj c lv k/\zqj c lv k<Jz k
 |0,_=>by simp[zqj,Jz]
 |k+1,h=>by
  have ih:=zqk c lv k Qo
  have hb:Jz (k+1)=2*Jz k/\0<=Jz k:=by
   have:k=0\/k=1\/k=2\/k=3:=Qo;rcases this with rfl|rfl|rfl|rfl <;> decide
  simp only[zqj]
  split <;> omega
def EZ(n c lv:Int):Bool:=(Yp n 1 4&&Yp c 0 (n-1))&&Yp lv 0 (Nl n-1)
def zwe(n c lv:Int):Int:=if EZ n c lv=true then zqj c lv n.toNat else 0
section
variable {w:Wo}{bs:List Nat}{n c lv:Int}
def zsu{n:Int}{k:Nat}(h:Yp n 1 4)(hk:(k:Int)<=Nl n):(decide ((1*2 ^ (min (Int.toNat (k:Int)) 64):Int)<n)->(k:Int)+1<=Nl n)/\(decide ((1*2 ^ (min (Int.toNat (k:Int)) 64):Int)<n)=false->(k:Int)=Nl n):=by
 rcases zmr h with ⟨rfl,e⟩|⟨rfl,e⟩|⟨rfl,e⟩|⟨rfl,e⟩ <;> rw[e] at hk ⊢
 ·have:k=0:=Qo;subst this;decide
 ·have:k=0\/k=1:=Qo;rcases this with rfl|rfl <;> decide
 ·have:k=0\/k=1\/k=2:=Qo;rcases this with rfl|rfl|rfl <;> decide
 ·have:k=0\/k=1\/k=2:=Qo;rcases this with rfl|rfl|rfl <;> decide
def zkx(n:Int):0<=Nl n/\Nl n<=2:=by
 unfold Nl;split
 ·split
  ·omega
  ·split <;> omega
 ·omega
def Of:PX bs Xo #[I n] w (I (Nl n)):=
 LI n λwr hx=>by
  refine⟨_,Ql,λq=>?_,λq=>?_⟩
  ·have q:Yp n 1 4=false:=by simpa using q
   have:Nl n=0:=E' (by rw[q];decide);rw[this]
  ·have q:Yp n 1 4:=by simpa using q
   have hl:=zkx n;refine⟨λvs=>∃k:Nat,vs=[I (k:Int)]/\(k:Int)<=Nl n,λvs=>(2-Y5 0 vs).toNat,⟨0,rfl,hl.1⟩,?_⟩;rintro k' ⟨k,he,hk⟩;simp only[I6,I7,true_and,and_true] at he;subst he;have hb:=E0 (k:=k) Qo;have nH:(1*2 ^ (min (Int.toNat (k:Int)) 64):Int)=Jz k:=rfl;obtain⟨s1,s2⟩:=zsu q hk;refine⟨⟨Qo,Qo⟩,⟨Qo,by rw[nH];exact⟨Qo,Qo⟩⟩,λg=>⟨⟨Qo,Qo⟩,⟨k+1,Qs,by have:=s1 g;omega⟩,?_⟩,λg=>by rw[<-s2 g]⟩;have:=s1 g;show (2-((k:Int)+1)).toNat<(2-(k:Int)).toNat;omega
def zne(h:EZ n c lv):Yp n 1 4/\0<=c/\c<n/\0<=lv/\lv<=1:=by
 unfold EZ at h;simp only[A'] at h;have h1:=Qr.1 h.1.2;have h2:=Qr.1 h.2;have:=zkx n;exact⟨h.1.1,h1.1,Qo,h2.1,Qo⟩
def HR:PX bs UL #[I n,I c,I lv] w (I (zwe n c lv)):=
 Dc n c lv λwr hx=>by
  have hl:=zkx n
  have e:(((!Yp n 1 4)||(!Yp c 0 (n-1)))||(!Yp lv 0 (Nl n-1))) = !EZ n c lv:=by
   unfold EZ;rw[Bool.not_and,Bool.not_and]
  refine⟨_,Ql,λq=>?_,_,λ_=>Ql,_,λ_=>Of,λ_=>⟨Qo,Qo⟩,_,λ_=>Ql,λq=>?_,λq=>?_⟩
  ·have q:=Qr.1 (by simpa using q:Yp n 1 4);exact⟨Qo,Qo⟩
  ·rw[e] at q;have:zwe n c lv=0:=E' (by simpa using q);rw[this]
  ·rw[e] at q;have q:EZ n c lv:=by simpa using q
   obtain⟨h1,c0,c1,l0,l1⟩:=zne q;have hn:=Qr.1 h1;obtain⟨N,rfl⟩:∃N:Nat,n=(N:Int):=⟨n.toNat,Qo⟩;have hD:zwe (N:Int) c lv=zqj c lv N:=by unfold zwe;rw[H' q,Ii]
   rw[hD];refine TM N 0 rfl (λx k=>k<=N/\x=zqj c lv k) ⟨Ig _,rfl⟩ λx k ⟨hk,Rt⟩=>⟨λIX=>?_,λRX=>?_⟩
   ·have IX:=Ot IX;have hb:=E0 (k:=k) Qo;have hs:=zqk c lv k Qo;have nH:(1*2 ^ (min (Int.toNat (k:Int)) 64):Int)=Jz k:=rfl;refine⟨⟨Qo,Qo⟩,⟨Qo,Qo⟩,Qo,⟨Qo,Qo⟩,⟨Qo,Qo⟩,Qo,λhu=>?_,λhu=>?_⟩
    ·rw[nH,Rt];refine⟨⟨Qo,Qo⟩,⟨Qo,Qo,Qo⟩,⟨Qo,Qo⟩,⟨Qo,Qo⟩,QG Qo ⟨Qo,?_⟩⟩;simp only[zqj];rw[H' (show zpt c lv (k:Int)=true from hu)]
    ·refine⟨⟨Qo,Qo⟩,QG Qo ⟨Qo,?_⟩⟩;rw[Rt];simp only[zqj];rw[E' (by rw[show zpt c lv (k:Int)=false from hu];decide)]
   ·have RX:=Ou RX;have:k=N:=Qo;subst this;rw[Rt]
end
def Na(W:Q7)(g:Int):List Int:=QV W.IE g++[0]
def zoj(W:Q7)(g c:Int):Bool:=(Na W g).any λx=>V6 W x c
def zh5(W:Q7):Na W 0=[0]:=by unfold Na;rw[show QV W.IE 0=[] from Zf W.IE 3];rfl
def zh6{W:Q7}(ht:ZZ W.IE){g:Int}(hu:Q6 W.IE g)(hz:g≠0):Na W g=g::Na W (gi W.IE g).IG:=by
 unfold Na;rw[Yb ht hu hz,List.cons_append]
def zq2{W:Q7}(ht:ZZ W.IE){g:Int}(hu:Q6 W.IE g):∀x∈Na W g,Q6 W.IE x:=by
 have hr:Q6 W.IE 0:=Q5.2 ⟨Qd,by have:=ht.len;omega,ht.ru⟩;refine TP ht (Q:=λh=>∀x∈Na W h,Q6 W.IE x) ?_ (λh hu hz ih=>?_) g hu
 ·rw[zh5];intro x hx;have:x=0:=by simpa using hx
  rw[this];exact hr
 ·rw[zh6 ht hu hz];intro x hx;rcases Ik.1 hx with rfl|hx
  ·exact hu
  ·exact ih x hx
def Cr(gs:List ZL):∀(f:Nat) (g:Int),(U6 f gs g).length<=f
 |0,_=>I9 _
 |f+1,g=>by
  simp only[U6];split
  ·simp
  ·have:=Cr gs f (gi gs g).IG;simp;omega
def zlp(W:Q7)(g:Int):(Na W g).length<=4:=by
 unfold Na;have:=Cr W.IE 3 g;simp;omega
def Ua(W:Q7)(t c:Int):Bool:=
 (!(((((((Q8 W t).state != 1)||((Q8 W t).R8==c))||((gi W.IF (Q8 W t).R8).cur==t))||(!Zi W t))||(!Zb (Qv W (Q8 W t).II (Q8 W t).mask) c)))) && !zoj W (Q8 W t).II c
def zlw(W:Q7)(b c:Int):Bool:=VO (λt=>((Q8 W (t:Int)).R8==b)&&Ua W (t:Int) c) 12
def Fh{W:Q7}{t c:Int}(h:Ua W t c):(Q8 W t).state=1/\(Q8 W t).R8≠c:=by
 unfold Ua at h;simp only[A',ID,I1,bne_eq_false_iff_eq,beq_eq_false_iff_ne] at h;exact⟨h.1.1.1.1.1,h.1.1.1.1.2⟩
section
variable {W:Q7}{m:MW}{w:Wo}{bs:List Nat}{p:OA}
def zhi(W:Q7)(g:Int):List Int:=if g=0 then [] else Na W (gi W.IE g).IG
def zc0{W:Q7}(ht:ZZ W.IE){g:Int}(hu:Q6 W.IE g):g::zhi W g=Na W g:=by
 unfold zhi
 by_cases hz:g=0
 ·subst hz;rw[H' rfl,zh5]
 ·rw[E' hz,zh6 ht hu hz]
def MU{t:Int}(h:X0 [] w W m)(ht:ZZ W.IE)(t0:0<=t)(t1:t<(W.IK.length:Int))(hu:Q6 W.IE (Q8 W t).II) :
  Cz U1 #[.agg (Qa W m).toArray,I t] w λe w'=>∃o c',e=.returned (.slice o (Na W (Q8 W t).II).length c')/\Jy Jk 1 Qc w.heap.size w' o c' (Na W (Q8 W t).II)/\Q0 [] w w':=by
 refine(Bt _ _ _ _ _ _ _ _ _ _ t (R:=λv w'=>∃o c',v=.slice o (Na W (Q8 W t).II).length c'/\Jy Jk 1 Qc w.heap.size w' o c' (Na W (Q8 W t).II)/\Q0 [] w w') ?_).mono λe w' ⟨v,he,o,c',hv,h1⟩=>⟨o,c',by rw[he,hv],h1⟩
 intro b hb;refine⟨h.t.ix QF t0 t1,_,h.t.f t0 t1 (j:=1) rfl,λb1 wb SD fI Wn hn=>?_⟩;have hlen:=zlp W (Q8 W t).II;have hO0:Jy Jk 1 Qc w.heap.size wb (some ⟨b1,0,none⟩) 1 [(Q8 W t).II]:=.inr ⟨b1,[],rfl,fI,Wn,by simp[Jk],Qs⟩;have hbn:∀x∈[b],w.heap.size<=x:=by simpa using hb
 refine⟨λvs w1=>∃(g:Int) (l:List Int) (o:OA) (c':Nat),vs=[I g,.slice o l.length c']/\Q6 W.IE g/\l++zhi W g=Na W (Q8 W t).II/\Sc w [b] w1/\Ob Jk 1 Qc w.heap.size [b] w1 o c' l,λvs _=>(dep 3 W.IE (Y5 0 vs)).toNat,
  λwr hx _=>⟨_,[(Q8 W t).II],_,1,rfl,hu,zc0 ht hu,(Sc.mk SD hbn).step hx,⟨hO0.ext hx (by simp[QE];exact λe=>hn (by simp[e])),by simp[QE];exact λe=>hn (by simp[e])⟩⟩,?_⟩
 rintro g oO oL oC w1 gZ ⟨g',l,o',c',he,uC,hI,s1,hO⟩;simp only[I6,I7,Iy,true_and,and_true] at he;obtain⟨rfl,rfl,rfl,rfl⟩:=he;have hg:=((h.wide (cs:=[b]) λx hm=>.inr (hbn x hm)).ext s1.ext.of_nil).g
 have hll:l.length<=4:=by
  have:=congrArg List.length hI;simp at this;omega
 refine⟨λhz=>?_,λhz wr hx=>?_⟩
 ·have hz:g≠0:=by simpa using hz
  obtain⟨hp,a,b',d,e,e2,hd⟩:=ZR ht uC hz;refine⟨hg.ix a b',_,hg.IG a b',λb2 cA Ra Rt Wg B62=>?_⟩;have s2:=s1.put Rt cA;have tF:=hO.put Rt cA;obtain⟨o2,c2,w2,Wa,uB,hO3,Ru⟩:=tF.tY Yr Mc (x:=(gi W.IE g).IG) Wg s2.ext.size B62 (zv8 _) Qo Qd Yc #[false,false];have s3:=s2.call Ru λx hm=>(tF.own.lt x hm).1
  refine⟨_,_,_,w2,Wa,uB,λRg X' _=>⟨⟨_,l++[(gi W.IE g).IG],o2,c2,rfl,hp,?_,(s3.step X').sub Qs,(hO3.step X').sub Qs⟩,?_⟩⟩
  ·rw[List.append_assoc,List.singleton_append,zc0 ht hp,<-hI];unfold zhi;rw[E' hz]
  ·show (dep 3 W.IE (gi W.IE g).IG).toNat<(dep 3 W.IE g).toNat;omega
 ·have hz:g=0:=by simpa using hz
  subst hz
  have hl:l=Na W (Q8 W t).II:=by
   rw[<-hI];unfold zhi;rw[H' rfl,List.append_nil]
  subst hl;exact⟨oO,oC,rfl,(hO.step hx).own,(s1.step hx).ext⟩
def MS{t c:Int}(h:X0 bs w W m)(wp:Xw W)(t0:0<=t)(t1:t<(W.IK.length:Int))(c0:0<=c)(c1:c<(W.IF.length:Int)):PX bs JZ #[.agg (Qa W m).toArray,I t,I c] w (.bool (Ua W t c)):=by
 refine P4 λwr0 tJ=>Bp _ _ _ _ _ _ _ _ _ _ t c (R:=λv w'=>v=.bool (Ua W t c)/\Q0 [] wr0 w') ?_
 have h:=(h.ext tJ).less (cs:=[]) Qs;have li:((Q8 W t).state != 1)=false->Q6 W.IE (Q8 W t).II/\0<=(Q8 W t).R8/\(Q8 W t).R8<(W.IF.length:Int):=λhs=>wp.li t0 t1 (by simpa using hs)
 intro b hb;refine⟨h.t.ix QF t0 t1,_,_,_,_,_,_,_,_,_,h.t t t0 t1,λb1 fI=>?_⟩;refine⟨λg=>?_,(gi W.IF (Q8 W t).R8).cur,λg=>?_,Zi W t,λg=>?_,Qv W (Q8 W t).II (Q8 W t).mask,λg=>?_,_,λg=>ZU,λg wr hx=>?_,λg Ra SD gZ=>?_⟩
 ·have g:(((Q8 W t).state != 1)||((Q8 W t).R8==c))=false:=g;simp only[I1] at g;have:=li g.1;exact h.c.ix Zy this.2.1 this.2.2
 ·have g:(((Q8 W t).state != 1)||((Q8 W t).R8==c))=false:=g;simp only[I1] at g;have:=li g.1;exact(h.c _ this.2.1 this.2.2).get 1 _ rfl
 ·exact Uz h wp.a t0 t1 λhs=>wp.li t0 t1 hs
 ·have g:(((((Q8 W t).state != 1)||((Q8 W t).R8==c))||((gi W.IF (Q8 W t).R8).cur==t))||(!Zi W t))=false:=g;simp only[I1] at g;exact XL h wp.a.c2 wp.a.tree (li g.1.1.1).1
 ·have:Ua W t c=false:=by
   unfold Ua;rw[show ((((((Q8 W t).state != 1)||((Q8 W t).R8==c))||((gi W.IF (Q8 W t).R8).cur==t))||(!Zi W t))||(!Zb (Qv W (Q8 W t).II (Q8 W t).mask) c))=true from g];rfl
  rw[this];exact⟨rfl,hx⟩
 have g:((((((Q8 W t).state != 1)||((Q8 W t).R8==c))||((gi W.IF (Q8 W t).R8).cur==t))||(!Zi W t))||(!Zb (Qv W (Q8 W t).II (Q8 W t).mask) c))=false:=g;have eC:Ua W t c = !zoj W (Q8 W t).II c:=by unfold Ua;rw[g];rfl
 simp only[I1] at g;obtain⟨hu,_,_⟩:=li g.1.1.1.1;rw[eC]
 have hbn:∀x∈[b,b1],wr0.heap.size<=x:=by
  intro x hm;simp only[Ik,List.not_mem_nil,or_false] at hm;rcases hm with rfl|rfl
  ·exact hb
  ·exact fI
 refine(MU (h.ext SD) wp.a.tree t0 t1 hu).mono λe w2 ⟨o,c',he,hO,Rt⟩=>⟨_,_,_,he,Qf Rt gZ,?_⟩
 have Cw0:=zlp W (Q8 W t).II;have s2:Sc wr0 [b,b1] w2:=⟨SD.trans Rt,hbn⟩;have tF:Ob Jk 1 Qc Ra.heap.size [b,b1] w2 o c' (Na W (Q8 W t).II):=Ob.of hO gZ
 refine P0 (Na W (Q8 W t).II).length 0 rfl (λk w3=>k<=(Na W (Q8 W t).II).length/\Sc wr0 [b,b1] w3/\Ob Jk 1 Qc Ra.heap.size [b,b1] w3 o c' (Na W (Q8 W t).II)/\∀j:Nat,j<k->V6 W (gi (Na W (Q8 W t).II) (j:Int)) c=false)
  (λw3 Ru _=>⟨Ig _,s2.step Ru,tF.step Ru,λj hj=>It hj (Nat.not_lt_zero j)⟩) λk w3 _ ⟨hk,s3,hO3,hI⟩=>⟨λIX=>?_,λRX wr hx=>?_⟩
 ·have IX:=Ot IX;have hR:=hO3.rd Yr.len;have hgm:=ziv (l:=Na W (Q8 W t).II) (i:=(k:Int)) Qo IX;have hW3:=(h.wide (cs:=[b,b1]) λx hm=>.inr (hbn x hm)).ext s3.ext.of_nil;refine⟨hR.ix VY Qo IX,_,hR (k:Int) Qo IX,_,Mt hW3 wp.a (zq2 wp.a.tree hu _ hgm) c0 c1,λgd wr hx=>⟨?_,(s3.step hx).ext⟩,λgd=>⟨⟨Qo,Qo⟩,λwr hx _=>Z4 Qo ⟨Qo,s3.step hx,hO3.step hx,λj hj=>?_⟩⟩⟩
  ·have:zoj W (Q8 W t).II c:=List.any_eq_true.2 ⟨_,hgm,gd⟩;rw[this];rfl
  ·by_cases gY:j<k
   ·exact hI j gY
   ·have:j=k:=Qo;subst this;exact gd
 ·have RX:=Ou RX;have hkn:k=(Na W (Q8 W t).II).length:=Qo
  have:zoj W (Q8 W t).II c=false:=by
   cases hd:zoj W (Q8 W t).II c with
   |false=>rfl
   |true=>
    obtain⟨x,hx,hdx⟩:=List.any_eq_true.1 hd;obtain⟨j,hj,hjx⟩:=List.getElem_of_mem hx;have:=hI j Qo;rw[XT hj,hjx,hdx] at this;cases this
  rw[this];exact⟨rfl,(s3.step hx).ext⟩
end
end Go.Proofs.YtjinkcmkgnofjaaGreat
