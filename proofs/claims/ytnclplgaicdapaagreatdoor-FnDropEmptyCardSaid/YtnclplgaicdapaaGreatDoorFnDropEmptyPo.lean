/- Part 15 of what the law FnDropEmpty needs. -/
import Derived.Test.YtnclplgaicdapaaGreatDoorFnDropEmptyPn
set_option linter.unusedVariables false
set_option linter.unusedSimpArgs false
set_option maxRecDepth 100000
set_option maxHeartbeats 8000000
namespace Go.Proofs.YtnclplgaicdapaaGreatDoor
open Go.RowKit
theorem zms{b:Jj}(h:VK b){c:Int}(c0:0<=c)(c1:c<(b.locals.length:Int)):VK (Yn b c):=by
 by_cases hp:0<gi b.locals c
 ·exact(zgk h c0 c1 hp).1
 ·have he:=(h.each c c0 c1).1;have e0:gi b.locals c=0:=Qo;have hs:=KW b.locals c 0 c0 c1 b.locals.length;rw[E' c1] at hs;have hd:=h.dl;refine⟨h.q1,h.q2,?_,?_,?_,?_,?_,h.s1,h.s2,fun d d0 d1=>?_,?_⟩
  ·simp only[Yn,H']; exact h.l1
  ·simp only[Yn,H']; exact h.l2
  ·simp only[Yn,H']; split <;> simp[hd]
  ·simp only[Yn]; have:=h.p1; omega
  ·simp only[Yn]; have:=h.p2; omega
  ·simp only[Yn,H'] at d1 ⊢;have hq:=h.each d d0 d1;have q1:=h.q1;rw[QC _ _ c0 c1 d0,e0]
   by_cases hpp:b.Sp+0>0
   ·rw[E' hpp,O8 _ _ d0 Qo];refine⟨?_,?_,fun h=>by cases h⟩
    ·split <;> omega
    ·split <;> omega
   ·rw[C' hpp];refine⟨?_,?_,fun hh=>?_⟩
    ·split <;> omega
    ·split <;> omega
    ·have:=hq.2.2 hh
     split <;> omega
  ·simp only[Yn,H'];have:=h.sum;rw[hs,e0]; omega
theorem zon{b:Jj}(h:VK b)(op:ztx):VK (YI b op).1:=by
 unfold YI;split
 ·exact(zgf h).1
 ·split
  ·exact h
  ·rename_i hi;have hc:Yx op.rM 0 ((b.locals.length:Int)-1)=true:=by simpa using hi
   have hc:=Qt.1 hc;split
   ·exact(zhx h hc.1 Qo).1
   ·split
    ·exact(zc0 h hc.1 Qo).1
    ·split
     ·exact zms h hc.1 Qo
     ·exact h
theorem zpm{q x:Int}{w:Wo}(hq:Yx q 1 10000=true)(h1:1<=x)(h4:x<=4) :
  Cz QE #[I q,I x] w fun e w'=>∃(B:Jj) (p:MG),e=.returned (.tuple #[.agg (Z4 B p).toArray,.bool true])/\VK B/\QW w.heap.size w' B p/\Q0 [] w w':=by
 obtain⟨n,rfl⟩:∃n:Nat,x=(n:Int):=⟨x.toNat,Qo⟩;have hqq:=Qt.1 hq;exact(KB (n:=n) hq (Qt.2 ⟨Qo,Qo⟩)).mono fun e w' ⟨p,he,ho,hx⟩=>⟨_,p,he,zch hqq.1 hqq.2 Qo Qo,ho,hx⟩
theorem zpl{rb:Nat}{c:OA}{L N:Nat}{w:Wo}(h:Jv rb c L N w)(hN:N<=900000000000) :
  Cz Xq #[.pointer (some ⟨rb,0,none⟩)] w fun e w'=>∃op:ztx,e=.returned (.agg (zo0 op).toArray)/\Jv rb c L (N+10) w'/\Q0 [rb] w w':=by
 refine(LG (some ⟨rb,0,none⟩) (R:=fun v w'=>∃op:ztx,v=.agg (zo0 op).toArray/\Jv rb c L (N+10) w'/\Q0 [rb] w w') ?_).mono fun e w' ⟨v,he,op,hv,h1⟩=>⟨op,by rw[he,hv],h1⟩
 intro b hb b1 eY wr hx hs;refine(Dr.pick ((Dr.start h).AT7 hx hb eY) Qo hs).mono ?_;rintro e w1 ⟨v1,he,hk,⟨p0,_,p2⟩,h1⟩;have p2:=p2 Qd;refine⟨_,he,hk,⟨Qo,Qo⟩,zt0 Qd rfl Qo Qo fun x=>?_⟩;refine⟨fun vs bs w2=>bs=[]/\(∃x:Int,vs=[I x])/\Dr rb c L N 2 [b,b1] w w2,⟨fun _ wr hx hs=>?_,fun _=>⟨fun _ wr hx _=>⟨rfl,⟨_,rfl⟩,(h1.step hx).more Qd⟩,fun _ wr hx _=>⟨rfl,⟨_,rfl⟩,(h1.step hx).more Qd⟩⟩⟩,?_⟩
 ·refine(Dr.pick (h1.step hx) Qo hs).mono ?_;rintro e w3 ⟨v3,he,hk,_,h3⟩;exact⟨_,he,hk,fun _ wr hx _=>⟨rfl,⟨_,rfl⟩,h3.step hx⟩,fun _ wr hx _=>⟨rfl,⟨_,rfl⟩,h3.step hx⟩⟩
 clear h1;rintro kind w2 SY ⟨-,-,h2⟩;refine⟨fun vs bs w2=>bs=[]/\(∃x:Int,vs=[I x])/\Dr rb c L N 4 [b,b1] w w2,fun wr hx hs=>?_,?_⟩
 ·refine(Dr.pick (h2.step hx) Qo hs).mono ?_;rintro e w3 ⟨v3,he,hk,_,h3⟩;refine⟨_,he,hk,fun _ wr hx hs=>?_,fun _ wr hx _=>⟨rfl,⟨_,rfl⟩,(h3.step hx).more Qd⟩⟩;refine(Dr.pick (h3.step hx) Qo hs).mono ?_;rintro e w4 ⟨v4,he,hk,⟨q0,_,q2⟩,h4⟩;have q2:=q2 Qd;exact⟨_,he,hk,⟨Qo,Qo⟩,fun wr hx _=>⟨rfl,⟨_,rfl⟩,h4.step hx⟩⟩
 clear h2;rintro C68 w5 kK ⟨-,-,h5⟩ wr hx hs;refine(Dr.pick (h5.step hx) Qo hs).mono ?_;rintro e w6 ⟨v6,he,hk,⟨p60,_,p62⟩,h6⟩;have p62:=p62 Qd;refine⟨_,he,hk,fun wr hx hs=>?_⟩;refine(Dr.pick (h6.step hx) Qo hs).mono ?_;rintro e w7 ⟨v7,he,hk,⟨p70,_,p72⟩,h7⟩;have p72:=p72 Qd
 have hd:0<=Int.tdiv v7 29/\Int.tdiv v7 29<=1:=by
  rw[Int.tdiv_eq_ediv_of_nonneg p70];omega
 refine⟨_,he,hk,⟨Qd,⟨Qo,Qo⟩⟩,⟨Qo,Qo⟩,fun b2 cD wr hx hs=>?_⟩;refine(Dr.pick (h7.put hx cD) Qo hs).mono ?_;rintro e w8 ⟨v8,he,hk,⟨p80,_,p82⟩,h8⟩;have p82:=p82 Qd;exact⟨_,he,hk,⟨Qo,Qo⟩,zt0 Qd rfl Qo Qo fun x wr hx=>⟨⟨_,_,_⟩,rfl,(h8.step hx).fin Qd⟩⟩
def zb1:List Int:=[1,20,21,50,100,10000]
theorem zf2{v:Int}(h0:0<=v)(h1:v<6):Yx (gi zb1 v) 1 10000=true:=by
 have:v=0\/v=1\/v=2\/v=3\/v=4\/v=5:=Qo;rcases this with rfl | rfl | rfl | rfl | rfl | rfl <;> rfl
structure Vw (rb:Nat) (c:OA) (L N n:Nat) (bs:List Nat) (w0 w:Wo) (bt:Nat):Prop where
 d:Dr rb c L N n bs w0 w
 v:Ob YR 1 Qb 0 (rb::bs) w (some ⟨bt,0,none⟩) 6 zb1
structure Bw (rb:Nat) (c:OA) (L N n:Nat) (bs:List Nat) (w0 w:Wo) (B:Jj) (p:MG):Prop where
 P:VK B
 d:Dr rb c L N n bs w0 w
 o:QW w0.heap.size w B p
 nb:∀x∈Zz p,x∉rb::bs
section
variable {rb b bt:Nat}{c:OA}{L N n k:Nat}{bs cs:List Nat}{w0 w w':Wo}{B B':Jj}{p p':MG}
theorem Vw.of(h:Dr rb c L N n bs w0 w)(hx:Q0 bs w w')(hb:w.heap.size<=bt)(hh:w'.heap[bt]? = some (Obj.cells ([I 1,I 20,I 21,I 50,I 100,I 10000]:List Va).toArray Qb (0,0)))(hn:bt∉bs):Vw rb c L N n bs w0 w' bt:=
 ⟨h.step hx,.inr ⟨bt,[],rfl,Ie _,by simpa[zb1,YR] using hh,by simp[zb1,YR],by simp[zb1]⟩,fun x hxx hm=>by
  have:x=bt:=by simpa[Qy] using hxx
  subst this;rcases Ij.1 hm with h1 | h1
  ·have:=h.r.rd.lt; omega
  ·exact hn h1⟩
theorem Vw.step(h:Vw rb c L N n bs w0 w bt)(hx:Q0 bs w w'):Vw rb c L N n bs w0 w' bt:=⟨h.d.step hx,h.v.step (hx.mono fun _ hm=>I2 _ hm)⟩
theorem Vw.put(h:Vw rb c L N n bs w0 w bt)(hx:Q0 bs w w')(hb:w.heap.size<=b):Vw rb c L N n (bs++[b]) w0 w' bt:=⟨h.d.put hx hb,h.v.put (hx.mono fun _ hm=>I2 _ hm) hb⟩
theorem Vw.R4(h:Vw rb c L N n bs w0 w bt)(hx:Q0 [] w w'):Vw rb c L N n bs w0 w' bt:=h.step hx.of_nil
theorem Vw.pick(h:Vw rb c L N n bs w0 w bt)(hN:N+n<=1000000000000)(hs:∀x∈bs,x<w.heap.size){q:Int} :
  Cz Q1 #[.pointer (some ⟨rb,0,none⟩),I q] w fun e w'=>∃v,e=.returned (I v)/\Q9 bs w w'/\H6 q v/\Vw rb c L N (n+1) bs w0 w' bt:=
 (GD h.d.r.rd hN).mono fun e w' ⟨v,he,hq,hr,hx⟩=>⟨v,he,P0 h.d.r hx hs,hq,⟨h.d.r.upd (by rw[<-Nat.add_assoc]; exact hr),h.d.ext.trans hx,h.d.new⟩,h.v.step (hx.mono fun x hm=>by
  have:x=rb:=by simpa using hm
  subst this; exact Ia)⟩
theorem Vw.ix(h:Vw rb c L N n bs w0 w bt){v:Int}(h0:0<=v)(h1:v<6):Ix (some (Addr.mk bt 0 none)) 6 v:=h.v.own.ix h0 h1
theorem Vw.cell(h:Vw rb c L N n bs w0 w bt){v:Int}(h0:0<=v)(h1:v<6):Q2 bs w (some (Addr.mk bt 0 none)) (Int.toNat v*1) [I (gi zb1 v)]:=((h.v.rd ZO.len).less fun _ hm=>I2 _ hm) v h0 h1
theorem zrt(h:QW w.heap.size w' B p)(d:Dr rb c L N n bs w0 w)(hs:∀x∈bs,x<w.heap.size):∀x∈Zz p,x∉rb::bs:=fun x hx hm=>by
 have:=(h.lt x hx).1;rcases Ij.1 hm with h1 | h1
 ·have:=d.r.rd.lt; omega
 ·have:=hs x h1; omega
theorem QW.wid{base:Nat}(h:QW base w B p)(hx:Q0 bs w w')(hd:∀x∈Zz p,x∉bs):QW base w' B p:=⟨h.loc.ext hx fun x hm=>hd x (Ib _ hm),h.RI.ext hx fun x hm=>hd x (Iy _ hm)⟩
theorem Bw.new(d:Dr rb c L N n bs w0 w)(hs:∀x∈bs,x<w.heap.size)(hP:VK B)(ho:QW w.heap.size w' B p)(hx:Q0 [] w w'):Bw rb c L N n bs w0 w' B p:=
 ⟨hP,d.step hx.of_nil,⟨ho.loc.mono d.ext.size,ho.RI.mono d.ext.size⟩,zrt ho d hs⟩
theorem Bw.step(h:Bw rb c L N n bs w0 w B p)(hx:Q0 bs w w'):Bw rb c L N n bs w0 w' B p:=⟨h.P,h.d.step hx,h.o.wid hx fun x hm fS=>h.nb x hm (I2 _ fS),h.nb⟩
theorem Bw.put(h:Bw rb c L N n bs w0 w B p)(hx:Q0 bs w w')(hb:w.heap.size<=b):Bw rb c L N n (bs++[b]) w0 w' B p:=
 ⟨h.P,h.d.put hx hb,h.o.wid hx fun x hm fS=>h.nb x hm (I2 _ fS),fun x So hm=>by
  have IQ:=(h.o.lt x So).2;rcases Ij.1 hm with h1 | h1
  ·exact h.nb x So (by rw[h1]; exact Ia)
  ·rcases Io.1 h1 with h2 | h2
   ·exact h.nb x So (I2 _ h2)
   ·have:x=b:=by simpa using h2
    omega⟩
theorem Bw.drawn(h:Bw rb c L N n bs w0 w B p)(hr:Jv rb c L (N+n+k) w')(hx:Q0 [rb] w w'):Bw rb c L N (n+k) bs w0 w' B p:=
 ⟨h.P,⟨h.d.r.upd (by rw[<-Nat.add_assoc]; exact hr),h.d.ext.trans hx,h.d.new⟩,h.o.wid hx fun x hm fS=>h.nb x hm (by
  have:x=rb:=by simpa using fS
  rw[this]; exact Ia),h.nb⟩
theorem Bw.pick(h:Bw rb c L N n bs w0 w B p)(hN:N+n<=1000000000000)(hs:∀x∈bs,x<w.heap.size){q:Int} :
  Cz Q1 #[.pointer (some ⟨rb,0,none⟩),I q] w fun e w'=>∃v,e=.returned (I v)/\Q9 bs w w'/\H6 q v/\Bw rb c L N (n+1) bs w0 w' B p:=
 (GD h.d.r.rd hN).mono fun e w' ⟨v,he,hq,hr,hx⟩=>⟨v,he,P0 h.d.r hx hs,hq,h.drawn hr hx⟩
theorem Bw.op(h:Bw rb c L N n bs w0 w B p)(hN:N+n<=900000000000)(hs:∀x∈bs,x<w.heap.size) :
  Cz Xq #[.pointer (some ⟨rb,0,none⟩)] w fun e w'=>∃op:ztx,e=.returned (.agg (zo0 op).toArray)/\Q9 bs w w'/\Bw rb c L N (n+10) bs w0 w' B p:=
 (zpl h.d.r.rd hN).mono fun e w' ⟨op,he,hr,hx⟩=>⟨op,he,P0 h.d.r hx hs,h.drawn hr hx⟩
theorem Bw.do(h:Bw rb c L N n bs w0 w B p)(hs:∀x∈bs,x<w.heap.size){op:ztx} :
  Cz Y6 #[.agg (Z4 B p).toArray,.agg (zo0 op).toArray] w fun e w'=>∃(B':Jj) (p':MG) (d:Int),e=.returned (.tuple #[.agg (Z4 B' p').toArray,I d])/\Q9 bs w w'/\Bw rb c L N n bs w0 w' B' p':=
 (Jb (op:=op) h.P (h.o.loc.rd ZO.len Qs) (h.o.RI.rd Yy.len Qs)).mono fun e w' ⟨p',he,ho,hx⟩=>⟨_,p',_,he,Qe hx hs,Bw.new h.d hs (zon h.P op) ho hx⟩
structure zvz (w w':Wo) (B:Jj) (p:MG):Prop where
 ll:B.locals.length<=5
 dl:B.RI.length<=4
 rl:∀bs:List Nat,(∀x∈bs,x<w.heap.size)->zka bs w' p.lO B.locals
 rd:∀bs:List Nat,(∀x∈bs,x<w.heap.size)->zrg bs w' p.dO B.RI
theorem QW.bdv(h:QW w.heap.size w' B p)(hl:B.locals.length<=5)(hd:B.RI.length<=4):zvz w w' B p:=
 ⟨hl,hd,fun bs hs=>h.loc.rd ZO.len fun x hx hm=>by have:=(h.loc.lt x hx).1; have:=hs x hm; omega,fun bs hs=>h.RI.rd Yy.len fun x hx hm=>by have:=(h.RI.lt x hx).1; have:=hs x hm; omega⟩
theorem Bw.bdv(h:Bw rb c L N n bs w0 w B p):zvz w0 w B p:=h.o.bdv (by have:=h.P.l2; omega) (by have:=h.P.l2; have:=h.P.dl; omega)
theorem zth{o:OA}{l:List Bool}{C:Nat}(h:zrg bs w o l)(h1:1<=l.length)(hC:l.length<=C):zrg bs w (if C=Int.toNat 1 then o else o.map (·.add (Int.toNat 1*1))) l.tail:=fun i i0 i1=>by
 have hl:l.tail.length=l.length-1:=Qs;rw[hl] at i1;have hc:=h (i+1) Qo Qo
 have e:gi l.tail i=gi l (i+1):=by
  obtain⟨k,rfl⟩:=Int.eq_ofNat_of_zero_le i0;rw[Jr (by rw[hl]; omega),show ((k:Int)+1)=((k+1:Nat):Int) by omega,Jr Qo];simp
 rw[e,C' (by show ¬C=1; omega)];refine UY fun j v hj=>?_
 obtain⟨a,ha,hb,aO⟩:=hc.get j v hj;refine⟨a.add (Int.toNat 1*1),by rw[ha]; rfl,by rw[ZJ]; exact hb,?_⟩;rw[Ue]
 have:Int.toNat 1*1+(Int.toNat i*1+j)=Int.toNat (i+1)*1+j:=by
  have:Int.toNat (i+1)=Int.toNat i+1:=Qo;rw[this];show 1*1+_=_;omega
 rw[this]; exact aO
end
theorem zu6{rb:Nat}{c:OA}{L N:Nat}{w:Wo}(h:Jv rb c L N w)(hN:N<=800000000000) :
  Cz UQ #[.pointer (some ⟨rb,0,none⟩)] w fun e w'=>∃(B:Jj) (p:MG),e=.returned (.agg (Z4 B p).toArray)/\zvz w w' B p/\Jv rb c L (N+300) w'/\Q0 [rb] w w':=by
 refine(HA (some ⟨rb,0,none⟩) (R:=fun v w'=>∃(B:Jj) (p:MG),v=.agg (Z4 B p).toArray/\zvz w w' B p/\Jv rb c L (N+300) w'/\Q0 [rb] w w') ?_).mono fun e w' ⟨v,he,B,p,hv,h1⟩=>⟨B,p,by rw[he,hv],h1⟩
 intro b hbA;have h0:=Dr.start h;refine⟨fun vs bs w2=>∃(bt:Nat) (B:Jj) (p:MG),bs=[bt]/\vs=Z4 B p/\Bw rb c L N 2 [b,bt] w w2 B p,?_,?_⟩
 ·repeat' first
   | exact rfl
   | (refine And.intro ?_ ?_)
   | (intro (bt:Nat) (wb:Wo) hx mH hh hn; have hV:=Vw.of (by assumption) hx mH hh hn)
   | (intro (bt:Nat) (wb:Wo) hx mH hh hn; have hV:=Vw.of (Dr.add h0 hbA) hx.of_nil mH hh hn)
   | (intro (bt:Nat) (wb:Wo) hx mH hh hn; have hV:=Vw.of (Dr.add (Dr.add h0 hbA) (by assumption)) hx.of_nil mH hh hn)
   | (intro (bt:Nat) (wb:Wo) hx mH hh hn; have hV:=Vw.of (Dr.add (by assumption) (by assumption)) (hx.mono fun _ hm=>Ib _ hm) mH hh hn)
   | (intro (b:Nat) hb)
   | (refine⟨_,Vw.cell (by assumption) Qo Qo,?_⟩)
   | exact Vw.cell (by assumption) Qo Qo
   | exact Vw.ix (by assumption) Qo Qo
   | (intro (wr:Wo) hx hs; refine(Vw.pick (Vw.step (by assumption) hx) ?_ hs).mono ?_; rotate_left; rintro e w2 ⟨v,he,hk,⟨hp0,_,mS⟩,hC⟩; have mS:=mS Qd; refine⟨_,he,hk,?_⟩)
   | (intro (wr:Wo) hx hs; refine(Vw.pick (Vw.put (by assumption) hx (by assumption)) ?_ hs).mono ?_; rotate_left; rintro e w2 ⟨v,he,hk,⟨hp0,_,mS⟩,hC⟩; have mS:=mS Qd; refine⟨_,he,hk,?_⟩)
   | (intro (wr:Wo) hx hs; refine(Dr.pick (Dr.step (by assumption) hx) ?_ hs).mono ?_; rotate_left; rintro e w2 ⟨v,he,hk,⟨hp0,_,mS⟩,hC⟩; have mS:=mS Qd; refine⟨_,he,hk,?_⟩)
   | (intro (wr:Wo) hx hs; refine(Dr.pick (Dr.put (by assumption) hx (by assumption)) ?_ hs).mono ?_; rotate_left; rintro e w2 ⟨v,he,hk,⟨hp0,_,mS⟩,hC⟩; have mS:=mS Qd; refine⟨_,he,hk,?_⟩)
   | (intro (wr:Wo) hx hs; refine(Dr.pick (Dr.AT7 h0 hx hbA (by assumption)) ?_ hs).mono ?_; rotate_left; rintro e w2 ⟨v,he,hk,⟨hp0,_,mS⟩,hC⟩; have mS:=mS Qd; refine⟨_,he,hk,?_⟩)
   | (intro (wr:Wo) hx hs; have hV:=Vw.step (by assumption) hx; refine(zpm (zf2 Qo Qo) Qo Qo).mono ?_; rintro e w2 ⟨B,p,he,hP,ho,hy⟩; have hB:=Bw.new hV.d hs hP ho hy; have hV2:=hV.R4 hy; refine⟨_,_,_,_,_,_,_,_,_,_,he,Qe hy hs,?_⟩)
   | (intro (wr:Wo) hx hs; have hV:=Vw.put (by assumption) hx (by assumption); refine(zpm (zf2 Qo Qo) Qo Qo).mono ?_; rintro e w2 ⟨B,p,he,hP,ho,hy⟩; have hB:=Bw.new hV.d hs hP ho hy; have hV2:=hV.R4 hy; refine⟨_,_,_,_,_,_,_,_,_,_,he,Qe hy hs,?_⟩)
   | (intro (wr:Wo) hx hs; exact⟨_,_,_,rfl,rfl,Bw.put (by assumption) hx (by assumption)⟩)
   | (intro (wr:Wo) hx hs; exact⟨_,_,_,rfl,rfl,Bw.step (by assumption) hx⟩)
   | omega
 clear h0;rintro l l1 l2 S4 S5 S7 l4O l4L l4C eI w31 Cu3 ⟨bt,B,p,hbt,hv,hB⟩ wr hx hs;have:eI=bt:=by simpa using hbt
 subst this;simp only[Z4,I5,I6,Iw,true_and,and_true] at hv;obtain⟨rfl,rfl,rfl,⟨rfl,rfl,rfl⟩,rfl,rfl,rfl⟩:=hv;refine(Bw.pick (hB.step hx) Qo hs).mono ?_;rintro e1 w1 ⟨v1,kE,hk1,⟨p10,_,p12⟩,hB1⟩;have p12:=p12 Qd;refine⟨_,kE,hk1,?_⟩;refine⟨fun vs w2=>∃(k n:Nat) (B:Jj) (p:MG),vs=I (k:Int)::Z4 B p/\(k:Int)<=v1/\n<=3+10*k/\Bw rb c L N n [b,eI] w w2 B p,Zo v1.toNat 0,fun wr hx _=>⟨0,2+1,B,p,rfl,p10,Qo,hB1.step hx⟩,?_⟩;clear hB1 hk1 kE hs hx hB Cu3;clear B p;rintro i1 l5 l6 l7 l8O l8L l8C zP l9L l9C w36 hs ⟨k,n,B,p,he,hk,hn,hK⟩;simp only[Z4,I5,I6,Iw,true_and,and_true] at he;obtain⟨rfl,rfl,rfl,rfl,⟨rfl,rfl,rfl⟩,rfl,rfl,rfl⟩:=he;refine⟨fun IQ wr hx hs=>?_,fun RH wr hx hs=>?_⟩
 ·have IQ:=Ot IQ;refine(Bw.op (hK.step hx) Qo hs).mono ?_;rintro e2 w2 ⟨op,aQ,uG,hB2⟩;refine⟨_,_,_,aQ,uG,rfl,fun wr hx hs=>?_⟩;refine(Bw.do (hB2.step hx) hs (op:=op)).mono ?_;rintro e3 w3 ⟨B3,p3,d,fH,uH,hB3⟩;exact⟨_,_,_,_,_,_,_,_,_,_,fH,uH,⟨Qo,Qo⟩,fun wr hx _=>⟨⟨k+1,n+10,B3,p3,by simp[Z4],Qo,Qo,hB3.step hx⟩,QS (k:=k) rfl rfl Qo⟩⟩
 have RH:=Ou RH;refine(Bw.pick (hK.step hx) Qo hs).mono ?_;rintro e4 w4 ⟨v4,he4,hk4,_,hB4⟩;refine⟨_,he4,hk4,fun _ wr hx=>⟨B,p,rfl,(hB4.step hx).bdv,(hB4.step hx).d.fin Qo⟩,fun _ wr hx hs=>?_⟩;have l1:=hK.P.l1;have l2:=hK.P.l2;have hdl:=hK.P.dl;have hP:=hK.P;have q2:=hP.q2;have p1:=hP.p1;have p2:=hP.p2;have s1:=hP.s1;have s2:=hP.s2;refine(Bw.pick (hB4.step hx) Qo hs).mono ?_;rintro e5 w5 ⟨v5,he5,hk5,⟨p50,_,p52⟩,hB5⟩;have p52:=p52 Qo;refine⟨_,he5,hk5,fun wr hx hs=>?_⟩;refine(Bw.pick (hB5.step hx) Qo hs).mono ?_;rintro e6 w6 ⟨v6,he6,hk6,_,hB⟩;have hnb:∀x∈Zz p,x∉[b,eI]:=fun x hx hm=>hB.nb x hx (I2 _ hm)
 have oA:∀x∈Zz p,w.heap.size<=x:=fun x hx=>(hB.o.lt x hx).1
 have fin:∀{w7 wr:Wo} {B':Jj},QW w.heap.size w7 B' p->Q0 (Zz p) w6 w7->Q0 [b,eI] w7 wr->B'.locals.length<=5->B'.RI.length<=4->zvz w wr B' p/\Jv rb c L (N+300) wr/\Q0 [rb] w wr:=fun {w7 wr B'} ho So R6 hl hd=>by
  have hd2:Dr rb c L N (n+1+1+1) [b,eI] w w7:=⟨hB.d.r.call So (fun hm=>hB.nb rb hm Ia) fun a ha=>by
   rcases h.ltc a ha with h3 | h3
   ·exact .inl fun hm=>by have:=oA _ hm; omega
   ·exact .inr h3,hB.d.ext.fresh So fun x hm=>.inl (oA x hm),hB.d.new⟩
  have hd3:=hd2.step R6;exact⟨(ho.wid R6 hnb).bdv hl hd,hd3.fin Qo⟩
 have Bz4:∀{wr:Wo} {B':Jj},B'.locals=B.locals->B'.RI=B.RI->Q0 [b,eI] w6 wr->zvz w wr B' p/\Jv rb c L (N+300) wr/\Q0 [rb] w wr:=fun {wr B'} el ed R6=>by
  have k:=hB.step R6;have hb:=k.bdv;exact⟨⟨by rw[el]; exact hb.ll,by rw[ed]; exact hb.dl,by rw[el]; exact hb.rl,by rw[ed]; exact hb.rd⟩,k.d.fin Qo⟩
 have Wz:Ix p.dO B.RI.length v5:=hB.o.RI.ix p50 Qo;have Cr3:Ix p.lO B.locals.length v5:=hB.o.loc.ix p50 Qo;refine⟨_,he6,hk6,fun _=>⟨⟨Qo,Qo⟩,fun wr hx=>⟨{ B with Sp:=B.Sp+1 },p,rfl,Bz4 rfl rfl hx⟩⟩,fun _=>⟨fun _=>⟨Wz,_,(hB.o.RI.rd Yy.len fun x hx=>hnb x (Iy _ hx)) v5 p50 Qo,Wz,hB.o.RI.wr Yy.len (fun x hx=>hnb x (Iy _ hx)) p50 Qo (j:=0) (n:=1) Qd,fun wr hx=>?_⟩,fun _=>⟨fun _=>⟨Cr3,hB.o.loc.wr ZO.len (fun x hx=>hnb x (Ib _ hx)) p50 Qo (j:=0) (n:=1) Qd,fun wr hx=>?_⟩,fun _=>⟨fun _ wr hx=>⟨{ B with I':=0 },p,rfl,Bz4 rfl rfl hx⟩,fun _=>⟨fun _=>⟨⟨Qo,Qo,?_⟩,fun wr hx=>?_⟩,fun _=>⟨fun _ ba hba wr hx hs hh=>?_,fun _=>⟨fun _=>⟨⟨Qo,Qo⟩,⟨Qo,Qo⟩,fun wr hx=>⟨{ B with Sp:=B.Sp-1,Ww:=B.Ww+1 },p,rfl,Bz4 rfl rfl hx⟩⟩,fun _ wr hx=>⟨B,p,rfl,Bz4 rfl rfl hx⟩⟩⟩⟩⟩⟩⟩⟩
 ·exact⟨{ B with RI:=B.RI.set v5.toNat (!gi B.RI v5) },p,by simp[Z4],fin (hB.o.CJ0 p50 Qo _) (hB.o.xD _ _) hx (by show B.locals.length<=5; omega) (by show (B.RI.set _ _).length<=4; rw[H']; omega)⟩
 ·exact⟨{ B with locals:=B.locals.set v5.toNat (-1) },p,by simp[Z4],fin (hB.o.eJ p50 Qo _) (hB.o.xL _ _) hx (by show (B.locals.set _ _).length<=5; rw[H']; omega) (by show B.RI.length<=4; omega)⟩
 ·have:=hB.o.RI.le; omega
 ·have k:=hB.step hx;have hb:=k.bdv;have hle:=hB.o.RI.le;refine⟨{ B with RI:=B.RI.tail },{ p with dO:=if p.dC=Int.toNat 1 then p.dO else p.dO.map (·.add (Int.toNat 1*1)),dC:=p.dC-Int.toNat 1 },?_,⟨hb.ll,by show B.RI.tail.length<=4; simp; omega,hb.rl,fun bs hs=>zth (hb.rd bs hs) Qo hle⟩,k.d.fin Qo⟩;simp[Z4]
 ·have hB2:=hB.put hx hba;have Bd1:∀x∈Zz p,x∉[b,eI,ba]:=fun x hx hm=>hB2.nb x hx (I2 _ hm)
  obtain⟨o',mC,w9,U',Ct0,hxa,hor⟩:=zhk ZO Uo hB2.o.loc (x:=0) (fz:=(0,0)) hh (by rfl) Qo Qo Z1 #[false,false] (by have:=hB2.d.ext.size; omega);have hk9:Q9 [b,eI,ba] wr w9:=hxa.kept fun x hm=>⟨hs x hm,fun hm2=>Bd1 x (Ib _ hm2) hm⟩
  refine⟨_,_,_,w9,U',hk9,fun O' R6=>?_⟩
  have Cs4:∀x∈Qy o',x∉[b,eI,ba]:=fun x hxo hm=>by
   rcases hor with e | e
   ·rw[e] at hxo; exact Bd1 x (Ib _ hxo) hm
   ·rw[e] at hxo;have:x=wr.heap.size:=by simpa[Qy] using hxo
    have:=hs x hm;omega
  have hrb:rb∉Qy p.lO:=fun hm=>hB2.nb rb (Ib _ hm) Ia
  have hd2:Dr rb c L N (n+1+1+1) [b,eI,ba] w w9:=⟨hB2.d.r.call hxa hrb fun a ha=>by
   rcases h.ltc a ha with h3 | h3
   ·exact .inl fun hm=>by have:=oA _ (Ib _ hm); omega
   ·exact .inr h3,hB2.d.ext.fresh hxa fun x hm=>.inl (oA x (Ib _ hm)),hB2.d.new⟩
  have B13:XU OH 1 ZQ w.heap.size O' p.dO p.dC B.RI:=(hB2.o.RI.ext hxa (hB2.o.RI.Wb hB2.o.loc Qd)).ext R6 fun x hm=>Bd1 x (Iy _ hm)
  have nH:XU YR 1 Qb w.heap.size O' o' mC (B.locals++[0]):=Ct0.ext R6 Cs4;exact⟨{ B with locals:=B.locals++[0] },{ p with lO:=o',lC:=mC },by simp[Z4],QW.bdv ⟨nH,B13⟩ (by simp; omega) (by show B.RI.length<=4; omega),(hd2.step R6).fin Qo⟩
theorem zql{α:Type}[Inhabited α]{enc:α->List Va}{z:Nat}{bs:List Nat}{w:Wo}{o:OA}{l:List α}{C:Nat}(h:Rd enc z bs w o l)(h1:1<=l.length)(hC:l.length<=C):Rd enc z bs w (if C=Int.toNat 1 then o else o.map (·.add (Int.toNat 1*z))) l.tail:=fun i i0 i1=>by
 have hl:l.tail.length=l.length-1:=Qs;rw[hl] at i1;have hc:=h (i+1) Qo Qo
 have e:gi l.tail i=gi l (i+1):=by
  obtain⟨k,rfl⟩:=Int.eq_ofNat_of_zero_le i0;rw[Jr (by rw[hl]; omega),show ((k:Int)+1)=((k+1:Nat):Int) by omega,Jr Qo];simp
 rw[e,C' (by show ¬C=1; omega)];refine UY fun j v hj=>?_
 obtain⟨a,ha,hb,aO⟩:=hc.get j v hj;refine⟨a.add (Int.toNat 1*z),by rw[ha]; rfl,by rw[ZJ]; exact hb,?_⟩;rw[Ue]
 have:Int.toNat 1*z+(Int.toNat i*z+j)=Int.toNat (i+1)*z+j:=by
  have:Int.toNat (i+1)=Int.toNat i+1:=Qo;rw[this,Nat.succ_mul];show 1*z+_=_;omega
 rw[this]; exact aO
def zug(rb:Nat)(c:OA)(L N:Nat)(w0:Wo)(v:Va)(w:Wo):Prop:=∃(W:Q7) (m:MW),v=.agg (Qa W m).toArray/\Xh W/\(∀ds:List Nat,(∀x∈ds,x<w0.heap.size)->Xb ds w W m)/\Jv rb c L (N+1500) w/\Q0 [rb] w0 w
section
variable {rb:Nat}{c:OA}{L N n q:Nat}{bs:List Nat}{w0 w w1 wr:Wo}{W W':Q7}{m:MW}
theorem Xz.aft(h:Xz DB rb c L N n bs w0 w W m)(ltc:∀a,c=some a->a.block<w0.heap.size\/L=0)(So:Q0 (QD 8 m) w w1)(R6:Q0 bs w1 wr)(hq:n<=q):Jv rb c L (N+q) wr/\Q0 [rb] w0 wr:=by
 have oA:∀x∈QD 8 m,w0.heap.size<=x:=fun x hx=>(h.o.own.lt x hx).1
 have d2:Dr rb c L N n bs w0 w1:=⟨h.d.r.call So (fun hm=>h.o.nb rb hm Ia) fun a ha=>by
  rcases ltc a ha with h3 | h3
  ·exact .inl fun hm=>by have:=oA _ hm; omega
  ·exact .inr h3,h.d.ext.fresh So fun x hm=>.inl (oA x hm),h.d.new⟩
 exact(d2.step R6).fin hq
theorem Xz.btv(h:Xz DB rb c L N n bs w0 w W m)(ltc:∀a,c=some a->a.block<w0.heap.size\/L=0)(hl:Xh W')(hM:Y8 8 w0.heap.size w1 W' m)(So:Q0 (QD 8 m) w w1)(R6:Q0 bs w1 wr)(hq:n<=1500):zug rb c L N w0 (.agg (Qa W' m).toArray) wr:=
 ⟨W',m,rfl,hl,fun ds hd=>(hM.ext R6 fun x hx hm=>h.o.nb x hx (I2 _ hm)).rd fun x hx hm=>by
  have:=(h.o.own.lt x hx).1;have:=hd x hm;omega,h.aft ltc So R6 hq⟩
theorem Xz.rdn(h:Xz DB rb c L N n bs w0 w W m)(ds:List Nat)(hd:∀x∈ds,x<w0.heap.size):Xb ds w W m:=h.o.own.rd fun x hx hm=>by
 have:=(h.o.own.lt x hx).1;have:=hd x hm;omega
theorem Xz.By6(h:Xz DB rb c L N n bs w0 w W m)(hx:Q0 bs w wr)(hq:n<=1500):zug rb c L N w0 (.agg (Qa W m).toArray) wr:=
 ⟨W,m,rfl,h.iv.len,(h.step hx).rdn,((h.step hx).d.fin hq)⟩
theorem zsx(h:Xh W)(i:Int)(x:Pf):Xh (RW W i x):=⟨by show (List.set _ _ _).length<=_; rw[H']; exact h.c,h.t,h.g,h.f⟩
theorem zsy(h:Xh W)(i:Int)(x:Pi):Xh (IU W i x):=⟨h.c,by show (List.set _ _ _).length<=_; rw[H']; exact h.t,h.g,h.f⟩
theorem Nf(h:Xh W){i:Int}(i0:0<=i)(i1:i<(W.ID.length:Int)){G:Zr}(hG:zdb G):Xh (Rp W i G):=by
 have hl:(Rp W i G).ID.length=W.ID.length:=H';refine⟨h.c,h.t,by rw[hl]; exact h.g,fun j a b=>?_⟩;rw[hl] at b;rw[Ym i0 i1 a];split
 ·exact hG
 ·exact h.f j a b
theorem ztg{base:Nat}(hM:Y8 8 base w W m)(hn:∀x∈QD 8 m,x∉bs){g:Int}(g0:0<=g)(g8:g<8){B:Jj}{p:MG}(hl:zka bs (RD w m.gO (Int.toNat g*14+8) (Z4 B p)) p.lO B.locals)(hd:zrg bs (RD w m.gO (Int.toNat g*14+8) (Z4 B p)) p.dO B.RI) :
  Xb bs (RD w m.gO (Int.toNat g*14+8) (Z4 B p)) (WQ W g B) (TP m g.toNat (VS (m.ms g.toNat) p)):=by
 have bW:=hM.len;have hx:Q0 (Qy m.gO) w (RD w m.gO (Int.toNat g*14+8) (Z4 B p)):=hM.g.row.rJ _ _;have AI9:=hM.g.row.RD ZR.len g0 (by rw[Xt]; omega) (j:=8) (vs:=Z4 B p) (x:=({ gi W.ID g with IT:=B },VS (m.ms g.toNat) p)) (by rw[VF g0 Qo]; rfl) (by show 8+5<=14; decide);rw[<-zfb g0 Qo] at AI9;have AI9:XU VP 14 QG base (RD w m.gO (Int.toNat g*14+8) (Z4 B p)) m.gO m.gC (zji (WQ W g B) (TP m g.toNat (VS (m.ms g.toNat) p))):=AI9;have hps:(WQ W g B).ID.length=8:=by show (List.set _ _ _).length=_; rw[H']; exact bW
 have e1:∀i:Int,0<=i->gi (WQ W g B).ID i=if g=i then { gi W.ID g with IT:=B } else gi W.ID i:=fun i a=>Ym g0 Qo a
 have e2:∀i:Int,0<=i->(TP m g.toNat (VS (m.ms g.toNat) p)).ms i.toNat=if g=i then VS (m.ms g.toNat) p else m.ms i.toNat:=fun i a=>by
  show (if g.toNat=i.toNat then _ else _)=_
  by_cases e:g=i
  ·rw[E' e,E' Qo]
  ·rw[C' e,C' Qo]
 refine⟨(hM.c.ext hx (hM.c.Wb hM.g.row Qd)).rd Mw.len fun x hx=>hn x (ED hx),(hM.t.ext hx (hM.t.Wb hM.g.row Qd)).rd TG.len fun x hx=>hn x (EF hx),⟨fun i i0 i1=>?_,fun i i0 i1=>?_,fun i i0 i1=>?_,fun i i0 i1=>?_⟩⟩
 ·have:=AI9.rd ZR.len (bs:=bs) (fun x hx=>hn x (EE hx)) i i0 (by rw[Xt]; exact i1)
  rwa[VF i0 i1] at this
 all_goals
  rw[hps] at i1;rw[e1 i i0,e2 i i0]
  have hi:=(hM.each i0 Qo).ext hx (by
   have:=Xr hM.g.row (hM.g.each i i0 (by rw[Xt]; omega))
   rwa[VF i0 Qo] at this)
  split
 ·exact hl
 ·exact hi.loc.rd ZO.len fun x hx=>hn x (JL (k:=i.toNat) Qo (by simp[Qp,hx]))
 ·exact hd
 ·exact hi.RI.rd Yy.len fun x hx=>hn x (JL (k:=i.toNat) Qo (by simp[Qp,hx]))
 ·rename_i e;subst e;exact hi.shl.rd UZ.len fun x hx=>hn x (JL (k:=g.toNat) Qo (by simp[Qp,hx]))
 ·exact hi.shl.rd UZ.len fun x hx=>hn x (JL (k:=i.toNat) Qo (by simp[Qp,hx]))
end
theorem zxi{v:Int}{k:Nat}{ls:List Va}{P:ByteArray->Prop}(ha:ls.all (fun | .string s=>decide (s.size<=1000) | _=>false)=true)(hl:ls.length=k)(h0:0<=v)(h1:v<(k:Int))(h:∀x,x.size<=1000->P x):∃x:ByteArray,(0<=v/\ls[Int.toNat v+0]? = some (.string x))/\P x:=by
 have IQ:Int.toNat v+0<ls.length:=Qo;have:=List.all_eq_true.1 ha _ (List.getElem_mem IQ);have e:=Im IQ;generalize ls[Int.toNat v+0]=y at this e
 split at this
 ·exact⟨_,⟨h0,e⟩,h _ (Ot this)⟩
 ·cases this
theorem zu7{rb:Nat}{c:OA}{L N:Nat}{w:Wo}(h:Jv rb c L N w)(hN:N<=500000000000) :
  Cz X6 #[.pointer (some ⟨rb,0,none⟩)] w fun e w'=>∃v,e=.returned v/\zug rb c L N w v w':=by
 refine HB (some ⟨rb,0,none⟩) (R:=fun v w'=>zug rb c L N w v w') ?_;intro b hb wr hx hs;have h1:=(Dr.start h).put hx hb;refine(zsu Mt h1.r.rd Qo).mono ?_;rintro e2 w2 ⟨W,m,aQ,iv,hM,hr,hxp,gA⟩;have hK:=Xz.Bu2 Mt h1 hs iv hM hr hxp gA;have iv:=iv.1;refine⟨_,_,_,_,_,_,_,_,_,_,aQ,P0 h1.r hxp hs,fun b1 eY R2 So dX=>?_⟩;refine((hK.put So eY).pick Mt Qo dX).mono ?_;rintro e3 w3 ⟨v3,fH,uH,_,nF⟩;refine⟨_,fH,uH,fun _ wr hx=>nF.By6 hx Qd,fun _ Rt Rm gZ=>?_⟩;refine((nF.step Rm).pick Mt Qo gZ).mono ?_;rintro e4 w4 ⟨c1,he4,hk4,⟨c10,_,c12⟩,dQ⟩;have ha:=iv.wp.a;have uS:=ha.c1;have hc4:=ha.c2;have jV:=ha.t;have bW:=ha.gl;have c12:=c12 Qo;refine⟨_,he4,hk4,fun Ry SZ fU=>?_⟩;refine((dQ.step SZ).pick Mt Qo fU).mono ?_;rintro e5 w5 ⟨t,he5,hk5,⟨t0,_,t2⟩,dB⟩;have t2:=t2 Qd;refine⟨_,he5,hk5,fun RR SK kK=>?_⟩;refine((dB.step SK).pick Mt Qo kK).mono ?_;rintro e6 w6 ⟨g,he6,hk6,⟨g0,_,g2⟩,rN⟩;have g2:=g2 Qd;refine⟨_,he6,hk6,fun Sn cU zW=>?_⟩;refine((rN.step cU).pick Mt Qo zW).mono ?_;rintro e7 w7 ⟨k,he7,hk7,_,hS⟩;clear nF dQ dB rN hK hM hr hxp aQ fH he4 he5 he6 uH hk4 hk5 hk6 So Rm SZ SK cU dX gZ fU kK zW h1 gA;refine⟨_,he7,hk7,?_⟩;have lc:=h.ltc;have ltc:∀a,c=some a->a.block<w.heap.size\/L=0:=lc;have hl:=iv.len;have t1:t<(W.tasks.length:Int):=Qo;have g1:g<(W.ID.length:Int):=Qo;have g8:g<((8:Nat):Int):=Qo;have Wz:∀{n:Nat} {w':Wo},Xz DB rb c L N n [b,b1] w w' W m->Ix m.cO W.IE.length c1:=fun h=>h.rd.c.ix Y0 c10 c12
 have hit:∀{n:Nat} {w':Wo},Xz DB rb c L N n [b,b1] w w' W m->Ix m.tO W.tasks.length t:=fun h=>h.rd.t.ix QL t0 t1
 have hig:∀{n:Nat} {bs:List Nat} {w':Wo},Xz DB rb c L N n bs w w' W m->Ix m.gO W.ID.length g:=fun h=>h.rd.g.ix g0 g1
 have nb:∀{n:Nat} {bs:List Nat} {w':Wo},Xz DB rb c L N n bs w w' W m->∀x∈QD 8 m,x∉bs:=fun h x hx hm=>h.o.nb x hx (I2 _ hm)
 have hrd:∀{w':Wo},Xz DB rb c L N (0+1100+1+1+1+1+1) [b,b1] w w' W m->Xb [b,b1] w' W m:=fun h=>h.o.own.rd (nb h)
 have fC:∀{n:Nat} {bs:List Nat} {w' wr:Wo} {j:Nat} {vs:List Va} (x:Pf),Xz DB rb c L N n bs w w' W m->n<=1500->Mx x=(Mx (gi W.IE c1)).take j++vs++(Mx (gi W.IE c1)).drop (j+vs.length)->j+vs.length<=5->Q0 bs (RD w' m.cO (Int.toNat c1*5+j) vs) wr->zug rb c L N w (.agg (Qa (RW W c1 x) m).toArray) wr:=fun x h hn he hj hx=>h.btv ltc (zsx hl c1 x) (h.o.own.Ag2 c10 c12 he hj) zbt hx hn
 have fT:∀{n:Nat} {bs:List Nat} {w' wr:Wo} {j:Nat} {vs:List Va} (x:Pi),Xz DB rb c L N n bs w w' W m->n<=1500->YT x=(YT (gi W.tasks t)).take j++vs++(YT (gi W.tasks t)).drop (j+vs.length)->j+vs.length<=9->Q0 bs (RD w' m.tO (Int.toNat t*9+j) vs) wr->zug rb c L N w (.agg (Qa (IU W t x) m).toArray) wr:=fun x h hn he hj hx=>h.btv ltc (zsy hl t x) (h.o.own.AE6 t0 t1 he hj) LO hx hn
 have fG:∀{n:Nat} {bs:List Nat} {w' wr:Wo} {j:Nat} {vs:List Va} (G:Zr),Xz DB rb c L N n bs w w' W m->n<=1500->zdb G->G.IT=(gi W.ID g).IT->G.IF=(gi W.ID g).IF->Yb G (m.ms g.toNat)=(Yb (gi W.ID g) (m.ms g.toNat)).take j++vs++(Yb (gi W.ID g) (m.ms g.toNat)).drop (j+vs.length)->j+vs.length<=14->Q0 bs (RD w' m.gO (Int.toNat g*14+j) vs) wr->zug rb c L N w (.agg (Qa (Rp W g G) m).toArray) wr:=fun G h hn hf hb hsh he hj hx=>h.btv ltc (Nf hl g0 g1 hf) (h.o.own.BE3 g0 g8 (by rw[hb]) (by rw[hb]) hsh he hj) Dq hx hn
 have eC:∀x:Pf,Qa (RW W c1 x) m=Qa W m:=fun x=>by simp[Qa,RW]
 have eT:∀x:Pi,Qa (IU W t x) m=Qa W m:=fun x=>by simp[Qa,IU]
 have eG:∀x:Zr,Qa (Rp W g x) m=Qa W m:=fun x=>by simp[Qa,Rp]
 have mG:=hl.f g g0 g1
 have hv:0<=(Q8 W t).v/\(Q8 W t).v<=100000000000000000:=by
  rcases iv.wp.t t t0 Qo with hz | ⟨_,hx⟩
  ·rw[hz.2]; decide
  ·exact Y2.1 hx.v
 have hlm:=ZU 1;refine⟨fun _=>⟨Wz hS,_,(hrd hS).c.f c10 c12 (j:=0) rfl,Wz hS,zn1 hS.o.own (nb hS) c10 c12 (j:=0) Qd,fun wr hx=>?_⟩,fun _=>⟨fun _ wr hx hs=>?_,fun _=>⟨fun _ wr hx hs=>?_,fun _=>⟨fun _ wr hx hs=>?_,fun _=>⟨fun _ wr hx hs=>?_,fun _=>⟨fun _ wr hx hs=>?_,fun _=>⟨fun _=>⟨hit hS,_,(hrd hS).t.f t0 t1 (j:=5) rfl,_,OX,⟨by show _<=(Q8 W t).v+_; omega,by show (Q8 W t).v+_<=_; omega⟩,hit hS,zfv hS.o.own (nb hS) t0 t1 (j:=5) Qd,fun wr hx=>?_⟩,fun _=>⟨fun _=>⟨hit hS,zfv hS.o.own (nb hS) t0 t1 (j:=3) Qd,fun wr hx=>?_⟩,fun _=>⟨fun _=>⟨hit hS,zfv hS.o.own (nb hS) t0 t1 (j:=4) Qd,fun wr hx=>?_⟩,fun _=>⟨fun _=>⟨⟨Qo,Qo,by have:=hS.o.own.t.le; omega⟩,fun wr hx=>?_⟩,fun _=>⟨fun _=>⟨hig hS,_,(hrd hS).g.used g0 g1,hig hS,CE hS.o.own (nb hS) g0 g8 (j:=0) Qd,fun wr hx=>?_⟩,fun _=>⟨fun _ wr hx hs=>?_,fun _=>⟨fun _=>⟨fun b2 cD=>⟨rfl,fun wr hx hs=>?_⟩,fun wr hx hs=>?_⟩,fun _=>⟨fun _ wr hx hs=>?_,fun _=>⟨fun _ wr hx hs=>?_,fun _=>⟨fun _ wr hx hs=>?_,fun _=>⟨fun _ wr hx hs=>?_,fun _=>⟨fun _=>⟨hig hS,_,_,_,(hrd hS).g.S3 g0 g1,fun sJ=>?_,fun _ wr hx=>hS.By6 hx Qd⟩,fun _=>⟨fun _=>⟨hig hS,_,_,_,(hrd hS).g.S3 g0 g1,fun sJ=>?_,fun _ wr hx=>hS.By6 hx Qd⟩,fun _=>⟨fun _ wr hx hs=>?_,fun _ wr hx=>hS.By6 hx Qd⟩⟩⟩⟩⟩⟩⟩⟩⟩⟩⟩⟩⟩⟩⟩⟩⟩⟩⟩⟩
 case refine_1=>
  have:=fC { gi W.IE c1 with up := !(gi W.IE c1).up } hS Qd rfl (by show 0+1<=5; decide) hx
  rwa[eC] at this
 case refine_2=>
  refine((hS.step hx).pick Mt Qo hs).mono ?_;rintro e w8 ⟨v,he,hk,⟨p0,_,p2⟩,hP⟩;have p2:=p2 Qd;refine⟨_,he,hk,rfl,⟨Qo,Qo⟩,Wz hP,zn1 hP.o.own (nb hP) c10 c12 (j:=1) Qd,fun wr hx=>?_⟩;have:=fC { gi W.IE c1 with cur:=v-2 } hP Qd rfl (by show 1+1<=5; decide) hx
  rwa[eC] at this
 case refine_3=>
  refine((hS.step hx).pick Mt Qo hs).mono ?_;rintro e w8 ⟨v,he,hk,_,hP⟩;refine⟨_,he,hk,rfl,Wz hP,zn1 hP.o.own (nb hP) c10 c12 (j:=2) Qd,fun wr hx=>?_⟩;have:=fC { gi W.IE c1 with WS:=v } hP Qd rfl (by show 2+1<=5; decide) hx
  rwa[eC] at this
 case refine_4=>
  refine((hS.step hx).pick Mt Qo hs).mono ?_;rintro e w8 ⟨v,he,hk,_,hP⟩;refine⟨_,he,hk,rfl,hit hP,zfv hP.o.own (nb hP) t0 t1 (j:=0) Qd,fun wr hx=>?_⟩;have:=fT { gi W.tasks t with state:=v } hP Qd rfl (by show 0+1<=9; decide) hx
  rwa[eT] at this
 case refine_5=>
  refine((hS.step hx).pick Mt Qo hs).mono ?_;rintro e w8 ⟨v,he,hk,⟨p0,_,p2⟩,hP⟩;have p2:=p2 Qd;refine⟨_,he,hk,rfl,⟨Qo,Qo⟩,hit hP,zfv hP.o.own (nb hP) t0 t1 (j:=1) Qd,fun wr hx=>?_⟩;have:=fT { gi W.tasks t with group:=v-1 } hP Qd rfl (by show 1+1<=9; decide) hx
  rwa[eT] at this
 case refine_6=>
  refine((hS.step hx).pick Mt Qo hs).mono ?_;rintro e w8 ⟨v,he,hk,⟨p0,_,p2⟩,hP⟩;have p2:=p2 Qd;refine⟨_,he,hk,rfl,⟨Qo,Qo⟩,hit hP,zfv hP.o.own (nb hP) t0 t1 (j:=2) Qd,fun wr hx=>?_⟩;have:=fT { gi W.tasks t with R9:=v-1 } hP Qd rfl (by show 2+1<=9; decide) hx
  rwa[eT] at this
 case refine_7=>
  have:=fT { gi W.tasks t with v:=(gi W.tasks t).v+Zv 1 } hS Qd rfl (by show 5+1<=9; decide) hx
  rwa[eT] at this
 case refine_8=>
  have:=fT { gi W.tasks t with nice:=10 } hS Qd rfl (by show 3+1<=9; decide) hx
  rwa[eT] at this
 case refine_9=>
  have:=fT { gi W.tasks t with mask:=0 } hS Qd rfl (by show 4+1<=9; decide) hx
  rwa[eT] at this
 case refine_10=>
  have hK:=hS.step hx;have hr:=hK.rdn;have hle:=hS.o.own.t.le;refine⟨{ W with tasks:=W.tasks.tail },{ m with tO:=if m.tC=Int.toNat 1 then m.tO else m.tO.map (·.add (Int.toNat 1*9)),tC:=m.tC-Int.toNat 1 },?_,⟨hl.c,by show W.tasks.tail.length<=_; have:=hl.t; simp; omega,hl.g,hl.f⟩,fun ds hd=>⟨(hr ds hd).c,zql (hr ds hd).t Qo hle,(hr ds hd).g⟩,hK.d.fin Qd⟩;simp[Qa]
 case refine_11=>
  have:=fG { gi W.ID g with used := !(gi W.ID g).used } hS Qd ⟨mG.nm,mG.nx,mG.lo,mG.dr,mG.sh⟩ rfl rfl rfl (by show 0+1<=14; decide) hx
  rwa[eG] at this
 case refine_12=>
  refine((hS.step hx).pick Mt Qo hs).mono ?_;rintro e w8 ⟨v,he,hk,⟨p0,_,p2⟩,hP⟩;have p2:=p2 Qd;refine⟨_,he,hk,rfl,⟨Qo,Qo⟩,hig hP,CE hP.o.own (nb hP) g0 g8 (j:=1) Qd,fun wr hx=>?_⟩;have:=fG { gi W.ID g with parent:=v-1 } hP Qd ⟨mG.nm,mG.nx,mG.lo,mG.dr,mG.sh⟩ rfl rfl rfl (by show 1+1<=14; decide) hx
  rwa[eG] at this
 case refine_13=>
  refine((hS.put hx cD).pick Mt Qo hs).mono ?_;rintro e w8 ⟨v,he,hk,⟨p0,_,p2⟩,hP⟩;have p2:=p2 Qd;refine⟨_,he,hk,rfl,⟨Qo,Qo⟩,zxi Qd rfl Qo Qo fun x hxs=>⟨hig hP,CE hP.o.own (nb hP) g0 g8 (j:=2) Qd,fun wr hx=>?_⟩⟩;have hm:=Zc;have:=fG { gi W.ID g with name:=x } hP Qd ⟨by show x.size<=_; omega,mG.nx,mG.lo,mG.dr,mG.sh⟩ rfl rfl rfl (by show 2+1<=14; decide) hx
  rwa[eG] at this
 case refine_14=>
  refine((hS.step hx).pick Mt Qo hs).mono ?_;rintro e w8 ⟨v,he,hk,⟨p0,_,p2⟩,hP⟩;have p2:=p2 Qd;refine⟨_,he,hk,rfl,fun b3 hb3=>⟨rfl,⟨Qo,Qo⟩,zxi Qd rfl Qo Qo fun x hxs=>⟨hig hP,CE hP.o.own (nb hP) g0 g8 (j:=2) Qd,fun wr hx=>?_⟩⟩⟩;have hm:=Zc;have:=fG { gi W.ID g with name:=x } hP Qd ⟨by show x.size<=_; omega,mG.nx,mG.lo,mG.dr,mG.sh⟩ rfl rfl rfl (by show 2+1<=14; decide) hx
  rwa[eG] at this
 case refine_15=>
  refine((hS.step hx).pick Mt Qo hs).mono ?_;rintro e w8 ⟨v,he,hk,_,hP⟩;refine⟨_,he,hk,rfl,hig hP,CE hP.o.own (nb hP) g0 g8 (j:=3) Qd,fun wr hx=>?_⟩;have:=fG { gi W.ID g with weight:=v } hP Qd ⟨mG.nm,mG.nx,mG.lo,mG.dr,mG.sh⟩ rfl rfl rfl (by show 3+1<=14; decide) hx
  rwa[eG] at this
 case refine_16=>
  refine((hS.step hx).pick Mt Qo hs).mono ?_;rintro e w8 ⟨v,he,hk,⟨p0,_,p2⟩,hP⟩;have p2:=p2 Qd;refine⟨_,he,hk,rfl,⟨Qo,Qo⟩,hig hP,CE hP.o.own (nb hP) g0 g8 (j:=4) Qd,fun wr hx=>?_⟩;have:=fG { gi W.ID g with IE:=v-1 } hP Qd ⟨mG.nm,mG.nx,mG.lo,mG.dr,mG.sh⟩ rfl rfl rfl (by show 4+1<=14; decide) hx
  rwa[eG] at this
 case refine_17=>
  refine((hS.step hx).pick Mt Qo hs).mono ?_;rintro e w8 ⟨v,he,hk,⟨p0,_,p2⟩,hP⟩;have p2:=p2 Qd;refine⟨_,he,hk,rfl,hig hP,CE hP.o.own (nb hP) g0 g8 (j:=6) Qd,fun wr hx=>?_⟩;have:=fG { gi W.ID g with next:=v } hP Qd ⟨mG.nm,⟨by show _<=v; omega,by show v<=_; omega⟩,mG.lo,mG.dr,mG.sh⟩ rfl rfl rfl (by show 6+1<=14; decide) hx
  rwa[eG] at this
 case refine_18=>
  have hQ:=hS.step hx;refine(zu6 hQ.d.r.rd Qo).mono ?_;rintro e w8 ⟨B,p,he,hB,hr,hy⟩;have hP:=hQ.drawn Mt hr hy;refine⟨_,_,_,_,_,_,_,_,_,he,P0 hQ.d.r hy hs,rfl,hig hP,CE hP.o.own (nb hP) g0 g8 (j:=8) Qd,fun O' R6=>?_⟩;have hsx:Q0 (QD 8 m) w8 (RD w8 m.gO (Int.toNat g*14+8) (Z4 B p)):=Dq
  have hR2:∀ds:List Nat,(∀x∈ds,x<w.heap.size)->Xb ds O' (WQ W g B) (TP m g.toNat (VS (m.ms g.toNat) p)):=fun ds hd=>by
   have hz:=hQ.d.ext.size
   have cD:∀x∈QD 8 m++([b,b1]++ds),x<wr.heap.size:=fun x hm=>by
    rcases Io.1 hm with h1 | h1
    ·exact(hQ.o.own.lt x h1).2
    ·rcases Io.1 h1 with h2 | h2
     ·exact hs x h2
     ·have:=hd x h2; omega
   have hsm:∀x∈[b,b1]++ds,x∈QD 8 m++([b,b1]++ds):=fun x hm=>Iy _ hm
   have CV6:Q0 (QD 8 m++([b,b1]++ds)) w8 (RD w8 m.gO (Int.toNat g*14+8) (Z4 B p)):=hsx.mono fun x hm=>Ib _ hm
   have hnb:∀x∈QD 8 m,x∉[b,b1]++ds:=fun x hx hm=>by
    rcases Io.1 hm with h2 | h2
    ·exact nb hP x hx h2
    ·have:=(hP.o.own.lt x hx).1;have:=hd x h2;omega
   have hR:=ztg hP.o.own hnb g0 g8 (B:=B) (p:=p) (((hB.rl _ cD).ext CV6).less hsm) (((hB.rd _ cD).ext CV6).less hsm);exact(hR.ext (R6.mono fun x hm=>Ib _ hm)).less fun x hm=>Iy _ hm
  have hm:=Zc;have hl5:=hB.ll;have hl4:=hB.dl;refine⟨WQ W g B,TP m g.toNat (VS (m.ms g.toNat) p),?_,Nf hl g0 g1 ⟨mG.nm,mG.nx,by show B.locals.length<=_; omega,by show B.RI.length<=_; omega,mG.sh⟩,hR2,hP.aft ltc hsx R6 Qd⟩;simp[Qa,WQ,Rp,TP]
 case refine_19=>
  have sJ:=Ot sJ;have vD:=(hrd hS).g.IF g g0 g1;refine⟨hig hS,_,_,_,(hrd hS).g.S3 g0 g1,hig hS,_,_,_,(hrd hS).g.S3 g0 g1,vD.ix ZK c10 sJ,_,vD.f c10 sJ (j:=1) rfl,vD.ix ZK c10 sJ,zuf hS.o.own (nb hS) g0 g8 c10 sJ (j:=1) Qd,fun wr hx=>?_⟩;have hM:=hS.o.own.BR1 (i:=g) (c:=c1) g0 g8 c10 sJ (j:=1) (vs:=[.bool (!(Qc W g c1).on)]) (x:={ Qc W g c1 with on := !(Qc W g c1).on }) rfl (by show 1+1<=5; decide);have:=hS.btv (W':=RM W g c1 { Qc W g c1 with on := !(Qc W g c1).on }) ltc (Nf hl g0 g1 ⟨mG.nm,mG.nx,mG.lo,mG.dr,by show (List.set _ _ _).length<=_; rw[H']; exact mG.sh⟩) hM (N3 Qo) hx Qd
  rwa[show Qa (RM W g c1 { Qc W g c1 with on := !(Qc W g c1).on }) m=Qa W m from eG _] at this
 case refine_20=>
  have sJ:=Ot sJ;have vD:=(hrd hS).g.IF g g0 g1;have hp:=Y2.1 (iv.wp.s g c1 g0 Qo c10 sJ).f;refine⟨hig hS,_,_,_,(hrd hS).g.S3 g0 g1,hig hS,_,_,_,(hrd hS).g.S3 g0 g1,vD.ix ZK c10 sJ,(Qc W g c1).floor,vD.f c10 sJ (j:=0) rfl,⟨Qo,Qo⟩,vD.ix ZK c10 sJ,zuf hS.o.own (nb hS) g0 g8 c10 sJ (j:=0) Qd,fun wr hx=>?_⟩;have hM:=hS.o.own.BR1 (i:=g) (c:=c1) g0 g8 c10 sJ (j:=0) (vs:=[I ((Qc W g c1).floor+1)]) (x:={ Qc W g c1 with floor:=(Qc W g c1).floor+1 }) rfl (by show 0+1<=5; decide);have:=hS.btv (W':=RM W g c1 { Qc W g c1 with floor:=(Qc W g c1).floor+1 }) ltc (Nf hl g0 g1 ⟨mG.nm,mG.nx,mG.lo,mG.dr,by show (List.set _ _ _).length<=_; rw[H']; exact mG.sh⟩) hM (N3 Qo) hx Qd
  rwa[show Qa (RM W g c1 { Qc W g c1 with floor:=(Qc W g c1).floor+1 }) m=Qa W m from eG _] at this
 case refine_21=>
  have hQ:=hS.step hx;refine(zu9 hQ.o.own iv).mono ?_;rintro e w8 ⟨V,he,hlV,hMV,hxV⟩;refine⟨_,_,_,_,_,_,_,_,_,_,he,hxV.kept fun x hm=>⟨hs x hm,fun hm2=>nb hQ x hm2 hm⟩,fun O' R6=>hQ.btv ltc hlV hMV hxV R6 Qd⟩
structure Bx (rb:Nat) (c:OA) (L N:Nat) (bs:List Nat) (w0 w:Wo) (W:Q7) (m:MW):Prop where
 ln:Xh W
 rd:Xb (rb::bs) w W m
 r:RS rb c L N bs w
 s:Sc w0 (rb::bs) w
section
variable {rb b b2:Nat}{c:OA}{L C N:Nat}{bs:List Nat}{w0 w w':Wo}{W W':Q7}{m m':MW}
theorem Bx.step(h:Bx rb c L N bs w0 w W m)(hx:Q0 bs w w'):Bx rb c L N bs w0 w' W m:=⟨h.ln,h.rd.ext (hx.mono fun _ hm=>I2 _ hm),h.r.step hx,h.s.Bu3 hx⟩
theorem Bx.call{f:FuncId}{args:Array Va}{k:Nat}{Q:Int->Prop}(h:Bx rb c L N bs w0 w W m)(hs:∀x∈bs,x<w.heap.size)(hc:Cz f args w fun e w'=>∃v,e=.returned (I v)/\Q v/\Jv rb c L (N+k) w'/\Q0 [rb] w w') :
  Cz f args w fun e w'=>∃v,e=.returned (I v)/\Q9 bs w w'/\Q v/\Bx rb c L (N+k) bs w0 w' W m:=
 hc.mono fun e w' ⟨v,he,hq,hr,hx⟩=>⟨v,he,P0 h.r hx hs,hq,h.ln,h.rd.ext (hx.mono fun x hm=>by
  have:x=rb:=by simpa using hm
  rw[this]; exact Ia),h.r.upd hr,h.s.CA5 hx⟩
theorem Bx.rd0(h:Bx rb c L N bs w0 w W m):Xb [] w W m:=h.rd.less Qs
theorem zk1(h:H3 c L w0)(hC:L<=C)(hx:Q0 [] w0 w)(hn:∀x∈bs,w0.heap.size<=x)(hs:∀x∈bs,x<w.heap.size) :
  Cz J5 #[.slice c L C] w fun e wv=>∃rb c' L',e=.returned (.pointer (some ⟨rb,0,none⟩))/\Q9 bs w wv/\RS rb c' L' 0 bs wv/\Sc w0 (rb::bs) wv:=by
 refine(zi4 (h.ext hx) hC).mono ?_;rintro e wv ⟨rb,c',L',he,hrb,hR,So,Co8⟩
 refine⟨rb,c',L',he,Qe So hs,⟨hR,fun hm=>by
  have:=hs rb hm;omega,fun a' ha'=>?_⟩,⟨hx.trans So,fun x hm=>?_⟩⟩
 ·rcases Co8 a' ha' with h0 | ⟨h0,a,ha,hab⟩
  ·exact .inr h0
  ·refine .inl fun hm=>?_
   obtain⟨a0,x0,ha0,_,_,h30⟩:=h 0 h0;have RU:=World.block_lt_of_cell? w0 _ h30;rw[ZJ] at RU;rw[ha] at ha0; cases ha0;have:=hn _ hm;omega
 ·rcases Ij.1 hm with h1 | h1
  ·have:=hx.size; omega
  ·exact hn x h1
theorem zk0(h:RS rb c L 0 bs w)(s:Sc w0 (rb::bs) w)(hs:∀x∈bs,x<w.heap.size) :
  Cz X6 #[.pointer (some ⟨rb,0,none⟩)] w fun e w'=>∃(W:Q7) (m:MW),e=.returned (.agg (Qa W m).toArray)/\Q9 bs w w'/\Bx rb c L 1500 bs w0 w' W m:=
 (zu7 h.rd Qd).mono fun e w' ⟨v,he,W,m,hv,hl,hr,hR,hx⟩=>⟨W,m,by rw[he,hv],P0 h hx hs,hl,hr _ fun x hm=>by
  rcases Ij.1 hm with h1 | h1
  ·rw[h1]; exact h.rd.lt
  ·exact hs x h1,h.upd (hR.mono Qd),s.CA5 hx⟩
structure zv6 (w0 w:Wo) (W:Q7) (m:MW):Prop where
 ln:Xh W
 rd:Xb [] w W m
 ext:Q0 [] w0 w
theorem Bx.dn(h:Bx rb c L N bs w0 w W m)(hx:Q0 bs w w'):zv6 w0 w' W m:=⟨h.ln,(h.step hx).rd0,(h.step hx).s.ext⟩
end
section
variable {c:OA}{L C:Nat}{w:Wo}
theorem zfu(h:H3 c L w)(hC:L<=C) :
  Cz Vo #[.slice c L C] w fun e w'=>∃(W:Q7) (m:MW) (k:Int),e=.returned (.tuple #[.agg (Qa W m).toArray,I k])/\zv6 w w' W m:=by
 refine(K7 c L C (R:=fun v w'=>∃(W:Q7) (m:MW) (k:Int),v=.tuple #[.agg (Qa W m).toArray,I k]/\zv6 w w' W m) ?_).mono fun e w' ⟨v,he,W,m,k,hv,h1⟩=>⟨W,m,k,by rw[he,hv],h1⟩
 intro b hb wr hx hs;refine(zk1 (bs:=[b]) h hC hx (by simpa using hb) hs).mono ?_;rintro e wv ⟨rb,c',L',he,hk,hR,hS⟩;refine⟨_,he,hk,fun R2 So dX=>?_⟩;refine(zk0 (hR.step So) (hS.Bu3 So) dX).mono ?_;rintro e1 Rr ⟨W,m,kE,hk1,hB⟩;refine⟨_,_,_,_,_,_,_,_,_,_,kE,hk1,fun O' R6 SY=>?_⟩;refine((hB.step R6).call SY (zwm (hB.step R6).r.rd Qd)).mono ?_;rintro e2 Rx ⟨t,aQ,uG,_,hB2⟩;exact⟨_,aQ,uG,fun Rt Rm=>⟨W,m,t,rfl,hB2.dn Rm⟩⟩
theorem KC(h:H3 c L w)(hC:L<=C) :
  Cz Ji #[.slice c L C] w fun e w'=>∃(W:Q7) (m:MW) (k:Int),e=.returned (.tuple #[.agg (Qa W m).toArray,I k])/\zv6 w w' W m:=by
 refine(Kt c L C (R:=fun v w'=>∃(W:Q7) (m:MW) (k:Int),v=.tuple #[.agg (Qa W m).toArray,I k]/\zv6 w w' W m) ?_).mono fun e w' ⟨v,he,W,m,k,hv,h1⟩=>⟨W,m,k,by rw[he,hv],h1⟩
 intro b hb wr hx hs;refine(zk1 (bs:=[b]) h hC hx (by simpa using hb) hs).mono ?_;rintro e wv ⟨rb,c',L',he,hk,hR,hS⟩;refine⟨_,he,hk,fun R2 So dX=>?_⟩;refine(zk0 (hR.step So) (hS.Bu3 So) dX).mono ?_;rintro e1 Rr ⟨W,m,kE,hk1,hB⟩;refine⟨_,_,_,_,_,_,_,_,_,_,kE,hk1,fun O' R6 SY=>?_⟩;refine((hB.step R6).call SY (zsr (hB.step R6).r.rd Qd)).mono ?_;rintro e2 Rx ⟨t,aQ,uG,_,hB2⟩;exact⟨_,aQ,uG,fun Rt Rm=>⟨W,m,t,rfl,hB2.dn Rm⟩⟩
end
section
open Go.RowKit Go.ChangeShapes
theorem ztp:Tryz.prog.underlying TR=some (.int .u8):=Qk
theorem u_sl_uint8:Tryz.prog.underlying ty_sl_uint8=some (.slice TR):=Qk
theorem zrv:Tryz.prog.cellsOf TR=1:=Qk
theorem op_bytes{H:Type}{en:TypeId×Va->H}{w:Wo}{base:Nat}{spare:Nat->Bool}{held:Bool}{fuel:Nat}{cs:List Va}{x:DataW H×List MemPlace}(h:DataW.trod en Tryz.prog w base spare held fuel ty_sl_uint8 cs=some x) :
  ∃(o:OA) (cap L:Nat),cs=[.slice o L cap]/\H3 o L w/\L<=cap:=by
 obtain⟨o,len,cap,rfl,h1,_,h3⟩:=zq8 u_sl_uint8 h;refine⟨o,cap,len,rfl,fun i hi=>?_,h1⟩;obtain⟨a,n,y,ec,ho,hc,ht⟩:=h3 i hi;rw[zrv,Nat.mul_one] at hc;obtain⟨v,rfl,_,hw⟩:=DataW.trod_int ztp ht;have hv:0<=v/\v<=255:=by simpa[Lit.wf,IntKind.min,IntKind.max,IntKind.signed,IntKind.bits] using hw
 obtain⟨_,_,aO⟩:=World.cells?_some hc;have:=aO 0 Qd;rw[Ue,Nat.add_zero] at this;exact⟨a,v,ho,hv.1,hv.2,this⟩
end
theorem Xb.sc{bs:List Nat}{w0 w1:Wo}{W:Q7}{m:MW}(h:Xb [] w0 W m)(s:Sc w0 bs w1):Xb bs w1 W m:=(h.wide (cs:=bs) fun x hm=>.inr (s.new x hm)).ext s.ext.of_nil
theorem Xb.sc0{bs:List Nat}{w0 w1:Wo}{W:Q7}{m:MW}(h:Xb [] w0 W m)(s:Sc w0 bs w1):Xb [] w1 W m:=(h.sc s).less Qs
def za3(gs:List Zr)(g:Int)(k:Nat):Bool:=(gi gs (k:Int)).used&&((gi gs (k:Int)).parent==g)
def JY(gs:List Zr)(g:Int)(k:Nat):List Int:=((List.range k).filter (za3 gs g)).map fun (i:Nat)=>(i:Int)
theorem zcb{gs:List Zr}{g:Int}{k:Nat}(h:za3 gs g k=true):JY gs g (k+1)=JY gs g k++[(k:Int)]:=by
 unfold JY;rw[List.range_succ,List.filter_append]; simp[h]
theorem M4{gs:List Zr}{g:Int}{k:Nat}(h:za3 gs g k=false):JY gs g (k+1)=JY gs g k:=by
 unfold JY;rw[List.range_succ,List.filter_append]; simp[h]
theorem zk2(gs:List Zr)(g:Int)(k:Nat):(JY gs g k).length<=k:=by
 unfold JY;rw[List.length_map];have:=List.length_filter_le (za3 gs g) (List.range k)
 simpa using this
noncomputable def Oj(gs:List Zr)(g:Int):List Int:=if (TQ gs&&Q6 gs g)=true then JY gs g 8 else []
theorem zgv{gs:List Zr}(ht:ZX gs){g:Int}(h:0<=g):JY gs g 1=[]:=by
 have:za3 gs g 0=false:=by
  unfold za3;have e:((0:Nat):Int)=0:=rfl;rw[e,ht.rp];have:((-1:Int)==g)=false:=by simpa using (show ¬(-1:Int)=g by omega)
  rw[this,Bool.and_false]
 rw[M4 this];rfl
section
variable {gs:List Zr}{ms:Nat->MG}{o:OA}{c:Nat}{w:Wo}
theorem BC{g:Int}(h:Mj [] w o gs ms)(hl:gs.length<=maxLen):Cz T8 #[.slice o gs.length c,I g] w fun e w'=>∃o' c',e=.returned (.slice o' (Oj gs g).length c')/\XU YR 1 Qb w.heap.size w' o' c' (Oj gs g)/\Q0 [] w w':=by
 refine(Bg o gs.length c g (R:=fun v w'=>∃o' c',v=.slice o' (Oj gs g).length c'/\XU YR 1 Qb w.heap.size w' o' c' (Oj gs g)/\Q0 [] w w') ?_).mono fun e w' ⟨v,he,o',c',hv,h1⟩=>⟨o',c',by rw[he,hv],h1⟩
 refine⟨_,PE h hl,_,fun _=>Yt h,fun q wr hx=>?_,fun q=>?_⟩
 ·have:Oj gs g=[]:=C' (by cases h1:TQ gs <;> cases h2:Q6 gs g <;> simp_all);rw[this]; exact⟨none,0,rfl,.inl ⟨rfl,rfl,rfl⟩,hx⟩
 ·simp only[I0,I7] at q;have ht:=XO.1 q.1;have hl8:=ht.len;obtain⟨g0,g1,_⟩:=Q5.1 q.2;have hD:Oj gs g=JY gs g 8:=E' (by rw[q.1,q.2]; rfl);rw[hD];refine⟨fun vs w1=>∃(k:Nat) (o1:OA) (c1:Nat),vs=[.slice o1 (JY gs g k).length c1,I (k:Int)]/\1<=k/\k<=8/\Q0 [] w w1/\XU YR 1 Qb w.heap.size w1 o1 c1 (JY gs g k),Zo 8 1,fun wr hx _=>⟨1,none,0,by rw[zgv ht g0]; rfl,Qo,Qo,hx,by rw[zgv ht g0]; exact .inl ⟨rfl,rfl,rfl⟩⟩,?_⟩;rintro o1 L1 C1 x w1 dX ⟨k,o1',uQ,he,hk1,hk,hX,hO⟩;simp only[I5,I6,Iw,true_and,and_true] at he;obtain⟨⟨rfl,rfl,rfl⟩,rfl⟩:=he;have hr:=h.ext hX;refine⟨fun IQ=>?_,fun RH wr hx=>?_⟩
  ·have IQ:=Ot IQ;have hk8:k<8:=Qo;refine⟨hr.ix Qo IQ,_,hr.used Qo IQ,fun _=>hr.ix Qo IQ,_,fun _=>hr.parent Qo IQ,fun q2 b hb O' R6 SY aO=>?_,fun q2=>⟨⟨Qo,Qo⟩,fun Ry SZ _=>⟨⟨k+1,o1,C1,by rw[M4 q2]; simp,Qo,Qo,hX.trans SZ,by rw[M4 q2]; exact hO.bG SZ⟩,QS (k:=k) rfl rfl hk8⟩⟩⟩
   have hob:Ob YR 1 Qb w.heap.size [b] O' o1 C1 (JY gs g k):=⟨hO.bG R6,fun y hy hm=>by
    have:=(hO.lt y hy).2;have:y=b:=by simpa using hm
    omega⟩
   have hle:=zk2 gs g k;obtain⟨o2,c2,w2,U',uG,hO3,Rm⟩:=hob.AD2 ZO Uo (x:=(k:Int)) SY (hX.trans R6).size aO rfl Qo Qd Z1 #[false,false];rw[<-zcb q2] at U' hO3
   exact⟨_,_,_,w2,U',uG,⟨Qo,Qo⟩,fun Rt SZ _=>⟨⟨k+1,o2,c2,Qs,Qo,Qo,((hX.trans R6).fresh Rm fun x hm=>.inl (hO.lt x hm).1).fresh SZ fun x hm=>.inl (by
    have:x=b:=by simpa using hm
    have:=hX.size;omega),(hO3.step SZ).own⟩,QS (k:=k) rfl rfl hk8⟩⟩
  ·have RH:=Ou RH;have:k=8:=Qo;subst this;exact⟨o1,C1,rfl,hO.bG hx,hX.trans hx⟩
theorem Bs{g:Int}(h:Mj [] w o gs ms)(hl:gs.length<=maxLen):Cz VZ #[.slice o gs.length c,I g] w fun e w'=>∃o' c',e=.returned (.slice o' (Oj gs g).length c')/\XU YR 1 Qb w.heap.size w' o' c' (Oj gs g)/\Q0 [] w w':=by
 refine(B7 o gs.length c g (R:=fun v w'=>∃o' c',v=.slice o' (Oj gs g).length c'/\XU YR 1 Qb w.heap.size w' o' c' (Oj gs g)/\Q0 [] w w') ?_).mono fun e w' ⟨v,he,o',c',hv,h1⟩=>⟨o',c',by rw[he,hv],h1⟩
 refine⟨_,LW h hl,_,fun _=>JX h hl,fun q wr hx=>?_,fun q=>?_⟩
 ·have:Oj gs g=[]:=C' (by cases h1:TQ gs <;> cases h2:Q6 gs g <;> simp_all);rw[this]; exact⟨none,0,rfl,.inl ⟨rfl,rfl,rfl⟩,hx⟩
 ·simp only[I0,I7] at q;have ht:=XO.1 q.1;have hl8:=ht.len;obtain⟨g0,g1,_⟩:=Q5.1 q.2;have hD:Oj gs g=JY gs g 8:=E' (by rw[q.1,q.2]; rfl);rw[hD];refine⟨fun vs w1=>∃(k:Nat) (o1:OA) (c1:Nat),vs=[.slice o1 (JY gs g k).length c1,I (k:Int)]/\k<=8/\Q0 [] w w1/\XU YR 1 Qb w.heap.size w1 o1 c1 (JY gs g k),Zo 8 1,fun wr hx _=>⟨0,none,0,rfl,Qo,hx,.inl ⟨rfl,rfl,rfl⟩⟩,?_⟩;rintro o1 L1 C1 x w1 dX ⟨k,o1',uQ,he,hk,hX,hO⟩;simp only[I5,I6,Iw,true_and,and_true] at he;obtain⟨⟨rfl,rfl,rfl⟩,rfl⟩:=he;have hr:=h.ext hX;refine⟨fun IQ=>?_,fun RH wr hx=>?_⟩
  ·have IQ:=Ot IQ;have hk8:k<8:=Qo;refine⟨hr.ix Qo IQ,_,hr.used Qo IQ,fun _=>hr.ix Qo IQ,_,fun _=>hr.parent Qo IQ,fun q2 b hb O' R6 SY aO=>?_,fun q2=>⟨⟨Qo,Qo⟩,fun Ry SZ _=>⟨⟨k+1,o1,C1,by rw[M4 q2]; simp,Qo,hX.trans SZ,by rw[M4 q2]; exact hO.bG SZ⟩,QS (k:=k) rfl rfl hk8⟩⟩⟩
   have hob:Ob YR 1 Qb w.heap.size [b] O' o1 C1 (JY gs g k):=⟨hO.bG R6,fun y hy hm=>by
    have:=(hO.lt y hy).2;have:y=b:=by simpa using hm
    omega⟩
   have hle:=zk2 gs g k;obtain⟨o2,c2,w2,U',uG,hO3,Rm⟩:=hob.AD2 ZO Uo (x:=(k:Int)) SY (hX.trans R6).size aO rfl Qo Qd Z1 #[false,false];rw[<-zcb q2] at U' hO3
   exact⟨_,_,_,w2,U',uG,⟨Qo,Qo⟩,fun Rt SZ _=>⟨⟨k+1,o2,c2,Qs,Qo,((hX.trans R6).fresh Rm fun x hm=>.inl (hO.lt x hm).1).fresh SZ fun x hm=>.inl (by
    have:x=b:=by simpa using hm
    have:=hX.size;omega),(hO3.step SZ).own⟩,QS (k:=k) rfl rfl hk8⟩⟩
  ·have RH:=Ou RH;have:k=8:=Qo;subst this;exact⟨o1,C1,rfl,hO.bG hx,hX.trans hx⟩
end
def Kx(W:Q7)(g:Int)(q:Int):Int:=if g=0 then 1 else if Q6 W.ID g=false then 2 else q
section
variable {base pb:Nat}{W W':Q7}{m:MW}{w:Wo}
def zuh(base pb:Nat)(q:Int)(W':Q7)(m:MW)(w:Wo)(e:Ending)(w2:Wo):Prop:=
 (q≠0/\e=.returned (.iface Z3 (.agg #[I q]))/\Q0 [] w w2)\/(q=0/\e=.returned .nilIface/\∃m2,DD base pb [] w m w2 W' m2)
theorem HN{cap Bo2 Bo3:OA}{g q:Int}{cf:Fn}{ca ck:Array Va}(h:PW base pb w W m)(hW:Qx W=true)(hc:Q2 [] w cap 0 [I g])(uS:Q2 [] w Bo2 0 [.bool true])(hc2:Q2 [] w Bo3 0 [.func cf ca ck])(Rn:g≠0->Q6 W.ID g=true->∀w1,Q0 [] w w1->ML Tryz.prog (.func cf ca ck) [.pointer (pA pb)] w1 fun e w2=>zuh base pb q W' m w1 e w2) :
  Cz YV #[.pointer (pA pb),.pointer cap,.pointer Bo2,.pointer Bo3] w fun e w2=>(Kx W g q≠0/\e=.returned (.iface Z3 (.agg #[I (Kx W g q)]))/\Q0 [] w w2)\/(Kx W g q=0/\e=.returned .nilIface/\∃m2,DD base pb [] w m w2 W' m2):=by
 have wp:=Qi.1 hW;have hp:=(Mp.start h).wpt
 refine(K6 (pA pb) cap Bo2 Bo3 (R:=fun v w2=>(Kx W g q≠0/\v=.iface Z3 (.agg #[I (Kx W g q)])/\Q0 [] w w2)\/(Kx W g q=0/\v=.nilIface/\∃m2,DD base pb [] w m w2 W' m2)) ?_).mono fun e w' ⟨v,he,h3⟩=>by
  rw[he];rcases h3 with ⟨a,b,c⟩ | ⟨a,b,c⟩
  ·exact .inl ⟨a,by rw[b],c⟩
  ·exact .inr ⟨a,by rw[b],c⟩
 refine⟨g,hc,true,fun _=>uS,fun g1 wr hx=>.inl ?_,fun g1=>⟨hp.some,_,_,_,hp.ID,g,hc,_,JX hp.rd.g (by have:=wp.a.gl; have:=Zc; omega),fun g2 wr hx=>.inl ?_,fun g2=>⟨cf,ca,ck,hc2,fun wr hx _=>?_⟩⟩⟩
 ·have hb:Kx W g q=1:=by unfold Kx; rw[E' (by simpa using g1)]
  rw[hb];exact⟨Qd,rfl,hx⟩
 ·have g1:¬g=0:=by simpa using g1
  have hb:Kx W g q=2:=by unfold Kx; rw[C' g1,E' (by simpa using g2)]
  rw[hb];exact⟨Qd,rfl,hx⟩
 ·have g1:¬g=0:=by simpa using g1
  have g2:Q6 W.ID g=true:=by simpa using g2
  have hb:Kx W g q=q:=by unfold Kx; rw[C' g1,C' (by rw[g2]; decide)]
  refine(Rn g1 g2 wr hx).mono fun e w2 hA=>?_
  rcases hA with ⟨a1,a2,a3⟩ | ⟨a1,a2,m2,a3⟩
  ·refine⟨_,a2,Ui,fun Rt Rm=>.inl ?_⟩;rw[hb];exact⟨a1,rfl,(hx.trans a3).trans Rm⟩
  ·exact⟨_,a2,Ui,fun Rt Rm=>.inr ⟨hb.trans a1,rfl,m2,(a3.pre hx).post Rm⟩⟩
theorem Br{g q:Int}{cf:Fn}{ca ck:Array Va}(h:Xb [] w W m)(hl:Xh W)(hg:PL w)(Rn:∀(base pb:Nat) (w1:Wo) (m1:MW),Qx W=true->g≠0->Q6 W.ID g=true->Q0 [] w w1->w.heap.size<=base->base<=pb->PW base pb w1 W m1->
   ML Tryz.prog (.func cf ca ck) [.pointer (pA pb)] w1 fun e w2=>zuh base pb q W' m1 w1 e w2) :
  Cz JD #[.agg (Qa W m).toArray,I g,.bool true,.func cf ca ck] w fun e w'=>∃v,e=.returned v/\QJ (Yp W (Kx W g q) W') w v w':=by
 refine LF _ _ _ _ _ _ _ _ _ _ g true cf ca ck (R:=fun v w'=>QJ (Yp W (Kx W g q) W') w v w') ?_;intro x hx b1 wb So eY hc hn b2 wb1 hxb cD hc2 hn2 b3 wb2 CH9 hb3 hc3 hn3 b4 hb4 wr R6 hs;have hX0:Q0 [] w wb1:=So.fresh hxb fun y hy=>.inl (zet hy hx)
 have hX1:Q0 [] w wb2:=hX0.fresh CH9 fun y hy=>.inl (zet hy hx)
 have hX:Q0 [] w wr:=hX1.fresh R6 fun y hy=>.inl (zet hy hx)
 have c1:=Zg (Zg (Zg hc hxb hn) CH9 hn) R6 hn;have c2:=Zg (Zg hc2 CH9 hn2) R6 hn2;have c3:=Zg hc3 R6 hn3;have cell:∀{b:Nat} {v:Va} {t:TypeId} {w1:Wo},wr.heap[b]? = some (Obj.cells ([v]:List Va).toArray t (0,0))->Q0 [] wr w1->Q2 [] w1 (some ⟨b,0,none⟩) 0 [v]:=fun hb hx=>J9 (Zg hb hx Qs) Qs (k0:=0) rfl
 refine I4 (zmz (bar:=Kx W g q) (W':=W') (h.ext hX) hl (hg.ext hX) fun w1 pb m1 hW Rm hpb hP=>.inl ⟨YV,_,rfl,HN hP hW (cell c1 Rm) (cell c2 Rm) (cell c3 Rm) fun o2 o3 w9 kW=>Rn _ pb w9 m1 hW o2 o3 ((hX.trans Rm).trans kW) hX.size hpb (hP.bG kW)⟩) ?_;rintro e wv ⟨v,he,n',m',hv,hM,hy⟩;subst hv;refine⟨_,_,_,_,_,_,_,_,_,_,_,he,Qe hy hs,fun R2 SZ=>⟨n',m',rfl,(hM.ext SZ fun y hy hm=>?_).mono hX.size,(hX.trans hy).fresh SZ fun y hm=>?_⟩⟩
 ·have:=(hM.lt y hy).1;have:=hs y hm;omega
 ·simp only[Ij,List.not_mem_nil,or_false] at hm;rcases hm with rfl | rfl
  ·exact .inl hx
  ·exact .inl (IB hX1.size hb4)
noncomputable def E4(W:Q7)(g:Int):Int:=if XQ (H4 W g)=true then 4 else if QH W=false then 10 else 0
theorem zr2(W:Q7)(g:Int):Kx W g (E4 W g)=Vf W g:=by unfold Kx E4 Vf; rfl
theorem Ev{g:Int}(ha:WA W)(hu:Q6 W.ID g=true):Oj W.ID g=JY W.ID g 8:=E' (by rw[XO.2 ha.tree,hu]; rfl)
theorem zmt{g:Int}(ha:WA W)(hz:g≠0)(hu:Q6 W.ID g=true)(h:0<(Oj W.ID g).length):H4 W g:=by
 rw[Ev ha hu] at h
 have hm:∃x,x∈JY W.ID g 8:=by
  cases hl:JY W.ID g 8 with
  | nil=>rw[hl] at h; exact Is h Qd
  | cons x r=>exact⟨x,Ia⟩
 obtain⟨x,hm⟩:=hm;unfold JY at hm;obtain⟨i,hi,rfl⟩:=List.mem_map.1 hm;obtain⟨h1,h2⟩:=List.mem_filter.1 hi;have h1:=List.mem_range.1 h1;unfold za3 at h2;simp only[A',It] at h2;refine .inl ⟨_,?_,Qo,h2.1,h2.2⟩
 by_cases e:((i:Nat):Int)=0
 ·rw[e,ha.tree.rp] at h2;have:=(Q5.1 hu).1;omega
 ·omega
theorem zm0{g:Int}(ha:WA W)(hu:Q6 W.ID g=true)(h:¬0<(Oj W.ID g).length){x:Int}(x0:0<=x)(x1:x<8)(xu:(gi W.ID x).used=true):(gi W.ID x).parent≠g:=fun e=>by
 rw[Ev ha hu] at h
 have:x∈JY W.ID g 8:=by
  unfold JY;refine List.mem_map.2 ⟨x.toNat,List.mem_filter.2 ⟨List.mem_range.2 Qo,?_⟩,Qo⟩;unfold za3;rw[show ((x.toNat:Nat):Int)=x by omega,xu,e];simp
 exact h (List.length_pos_of_mem this)
theorem zam{cap:OA}{g:Int}(h:PW base pb w W m)(hW:Qx W=true)(hz:g≠0)(hu:Q6 W.ID g=true)(hcw:∀w',Q0 [] w w'->Q2 [] w' cap 0 [I g]) :
  Cz XB #[.pointer (pA pb),.pointer cap] w fun e w2=>zuh base pb (E4 W g) (Yd W g) m w e w2:=by
 have wp:=Qi.1 hW;have hM:=Mp.start h;have hp:=hM.wpt
 refine(Gp (pA pb) cap (R:=fun v w2=>(E4 W g≠0/\v=.iface Z3 (.agg #[I (E4 W g)])/\Q0 [] w w2)\/(E4 W g=0/\v=.nilIface/\∃m2,DD base pb [] w m w2 (Yd W g) m2)) ?_).mono fun e w' ⟨v,he,h3⟩=>by
  rw[he];rcases h3 with ⟨a,b,c⟩ | ⟨a,b,c⟩
  ·exact .inl ⟨a,by rw[b],c⟩
  ·exact .inr ⟨a,by rw[b],c⟩
 have jV:=wp.a.t;have bW:=wp.a.gl;have hml:=Zc;obtain⟨u0,u1,_⟩:=Q5.1 hu;have busy:H4 W g->E4 W g=4:=fun hh=>by unfold E4; rw[E' (Qi.2 hh)]
 refine⟨hp.some,_,_,_,hp.tasks,fun vs w2=>∃k:Nat,vs=[I (k:Int)]/\k<=12/\Q0 [] w w2/\∀j:Int,0<=j->j<(k:Int)->¬((Q8 W j).state≠0/\(Q8 W j).group=g),Zo 12 0,fun wr hx _=>⟨0,rfl,Qo,hx,fun j a b=>by omega⟩,?_⟩;rintro x Rr dX ⟨k,he,hk,hX,i'⟩;simp only[I5,I6,true_and,and_true] at he;subst he;have hM1:=hM.nil hX;have hp1:=hM1.wpt;refine⟨fun IQ=>?_,fun RH=>?_⟩
 ·have IQ:=Ot IQ;have k0:(0:Int)<=(k:Int):=Qo;refine⟨hp1.rd.t.ix QL k0 IQ,_,_,_,_,_,_,_,_,_,hp1.rd.t (k:Int) k0 IQ,fun b hb=>⟨g,fun _=>hcw _ hX,fun q R2 So=>.inl ?_,fun q=>⟨⟨Qo,Qo⟩,fun O' R6 _=>⟨⟨k+1,rfl,Qo,hX.trans R6,fun j a c=>?_⟩,QS (k:=k) rfl rfl Qo⟩⟩⟩⟩
  ·rw[A',It,Iu] at q;have hb:=busy (.inr ⟨(k:Int),k0,Qo,q.1,q.2⟩);rw[hb];exact⟨Qd,rfl,hX.trans So⟩
  ·by_cases e:j<(k:Int)
   ·exact i' j a e
   ·have:j=(k:Int):=Qo;subst this;rintro⟨q1,q2⟩;have q1:(gi W.tasks (k:Int)).state≠0:=q1;have q2:(gi W.tasks (k:Int)).group=g:=q2;rw[Iu.2 q1,It.2 q2] at q;cases q
 ·have RH:=Ou RH;refine⟨hp1.some,_,_,_,hp1.ID,g,hcw _ hX,fun Rt Rm _=>?_⟩;have vA:=hM1.nil Rm;refine(Bs (g:=g) vA.wpt.rd.g Qo).mono ?_;rintro e Rx ⟨o',c',he,hO,hy⟩;have mF:=vA.nil hy;have hp4:=mF.wpt;have hX4:Q0 [] w Rx:=(hX.trans Rm).trans hy;refine⟨_,_,_,he,Ui,fun q Ry SZ=>.inl ?_,fun q=>⟨_,zep hp4 wp.a,fun q3 RR SK=>.inl ?_,fun q3=>?_⟩⟩
  ·have q:=Ot q;have hb:=busy (zmt wp.a hz hu Qo);rw[hb];exact⟨Qd,rfl,hX4.trans SZ⟩
  all_goals
   have q:=Ou q
   have hnh:¬H4 W g:=by
    rintro (⟨x,x1,x8,xu,xp⟩ | ⟨t,t0,t1,tn,tg⟩)
    ·exact zm0 wp.a hu Qo Qo x8 xu xp
    ·exact i' t t0 Qo ⟨tn,tg⟩
   have hnd:¬XQ (H4 W g)=true:=fun e=>hnh (Qi.1 e)
  ·have hb:E4 W g=10:=by unfold E4; rw[C' hnd,E' (by simpa using q3)]
   rw[hb];exact⟨Qd,rfl,hX4.trans SK⟩
  ·have q3:QH W=true:=by simpa using q3
   have hb:E4 W g=0:=by unfold E4; rw[C' hnd,C' (by rw[q3]; decide)]
   have SP:Mp base pb [] w m (RD Rx m.gO (Int.toNat g*14) (Yb Dz K9)) (Yd W g) (TP m g.toNat K9):=
    mF.swap (mF.own.Be9 u0 Qo (g:=Dz) (p:=K9) (j:=0) (vs:=Yb Dz K9) ⟨.inl ⟨rfl,rfl,rfl⟩,.inl ⟨rfl,rfl,rfl⟩,.inl ⟨rfl,rfl,rfl⟩⟩ (fun y hy=>by simp[Qp,K9,Qy] at hy) (by simp[Yb]) (by simp[Yb])) Dq rfl (fun y hy=>by
     rcases V0 y hy with h1 | h1
     ·exact .inl h1
     ·simp[Qp,K9,Qy] at h1) (by simp[Qa,Yd,Rp,TP])
   exact⟨hp4.some,_,_,_,hp4.ID,g,hcw _ hX4,hp4.rd.g.ix u0 u1,CE mF.own mF.nb u0 Qo (j:=0) Qd,fun Sn cU=>.inr ⟨hb,rfl,_,(SP.nil cU).done⟩⟩
theorem Ei{g:Int}(h:Xb [] w W m)(hl:Xh W)(hg:PL w) :
  Cz Vh #[.agg (Qa W m).toArray,I g] w fun e w'=>∃v,e=.returned v/\QJ (Yp W (Vf W g) (Yd W g)) w v w':=by
 refine E5 _ _ _ _ _ _ _ _ _ _ g (R:=fun v w'=>QJ (Yp W (Vf W g) (Yd W g)) w v w') ?_;intro x hx b1 wb So eY hc hn b2 cD;refine⟨g,J9 hc hn (k0:=0) rfl,fun wr R6 hs=>?_⟩
 have hX:Q0 [] w wr:=So.fresh (R6.mono fun y hm=>hm) fun y hm=>.inl (by
  have:y=x:=by simpa using hm
  omega)
 have f1:=Zg hc R6 hn;rw[<-zr2];refine I4 (Br (W':=Yd W g) (g:=g) (q:=E4 W g) (h.ext hX) hl (hg.ext hX) fun base pb w1 m1 hW hz hu Rm hbs hpb hP=>.inl ⟨XB,_,rfl,zam hP hW hz hu fun w9 kW=>J9 (Zg (Zg f1 Rm Qs) kW Qs) Qs (k0:=0) rfl⟩) ?_;rintro e wv ⟨v,he,n',m',hv,hM,hy⟩;subst hv;refine⟨_,_,_,_,_,_,_,_,_,_,_,he,Qe hy hs,fun R2 SZ=>⟨n',m',rfl,(hM.ext SZ fun y hy hm=>?_).mono hX.size,(hX.trans hy).fresh SZ fun y hm=>?_⟩⟩
 ·have:=(hM.lt y hy).1;have:=hs y hm;omega
 ·simp only[Ij,List.not_mem_nil,or_false] at hm;rcases hm with rfl | rfl
  ·exact .inl hx
  ·exact .inl (IB So.size cD)
end
theorem zpo{gs:List Zr}{g:Int}(k:Nat)(h:JY gs g k=[]){x:Int}(x0:0<=x)(x1:x<(k:Int))(xu:(gi gs x).used=true):(gi gs x).parent≠g:=fun e=>by
 have:x∈JY gs g k:=by
  unfold JY;refine List.mem_map.2 ⟨x.toNat,List.mem_filter.2 ⟨List.mem_range.2 Qo,?_⟩,Qo⟩;unfold za3;rw[show ((x.toNat:Nat):Int)=x by omega,xu,e];simp
 rw[h] at this;cases this
theorem zpp{gs:List Zr}{g:Int}(k:Nat)(h:JY gs g k≠[]):∃x:Int,0<=x/\x<(k:Int)/\(gi gs x).used=true/\(gi gs x).parent=g:=by
 cases hl:JY gs g k with
 | nil=>exact Is hl h
 | cons x r=>
  have hm:x∈JY gs g k:=by rw[hl]; exact Ia
  unfold JY at hm;obtain⟨i,hi,rfl⟩:=List.mem_map.1 hm;obtain⟨h1,h2⟩:=List.mem_filter.1 hi;have h1:=List.mem_range.1 h1;unfold za3 at h2;simp only[A',It] at h2;exact⟨_,Qo,Qo,h2.1,h2.2⟩
def Nq(W:Q7)(g:Int):Prop:=JY W.ID g 8=[]/\∀t:Int,0<=t->t<12->(Q8 W t).state=0\/(Q8 W t).group≠g
theorem zgp{W:Q7}{g:Int}(ha:WA W)(g1:1<=g):H4 W g↔¬Nq W g:=by
 constructor
 ·rintro (⟨h,h1,h8,hu,hp⟩ | ⟨t,t0,t1,hn,hg⟩) ⟨e1,e2⟩
  ·exact zpo 8 e1 Qo h8 hu hp
  ·rcases e2 t t0 t1 with e | e
   ·exact hn e
   ·exact e hg
 ·intro hn
  by_cases hk:JY W.ID g 8=[]
  ·refine .inr (Classical.byContradiction fun hx=>hn ⟨hk,fun t t0 t1=>?_⟩)
   by_cases e:(Q8 W t).state=0
   ·exact .inl e
   ·exact .inr fun eg=>hx ⟨t,t0,t1,e,eg⟩
  ·obtain⟨x,x0,x8,xu,xp⟩:=zpp 8 hk;refine .inl ⟨x,?_,x8,xu,xp⟩
   by_cases e:x=0
   ·subst e;rw[ha.tree.rp] at xp;omega
   ·omega
theorem zr3{W:Q7}{g:Int}(ha:WA W)(hr:QH W=true)(g1:1<=g)(hu:Q6 W.ID g=true):(Nq W g->Vf W g=0)/\(¬Nq W g->Vf W g=4):=by
 refine⟨fun he=>?_,fun he=>?_⟩
 ·unfold Vf;rw[C' Qo,C' (by rw[hu]; decide),C' (fun h=>(zgp ha g1).1 (Qi.1 h) he),C' (by rw[hr]; decide)]
 ·unfold Vf;rw[C' Qo,C' (by rw[hu]; decide),E' (Qi.2 ((zgp ha g1).2 he))]
theorem zuv{W:Q7}{g:Int}(h:¬(QH W=true/\1<=g/\Q6 W.ID g=true)):Vf W g≠0:=fun hb=>by
 obtain⟨hd,hr⟩:=zd4 hb;exact h ⟨hr,hd.g1,hd.us⟩
theorem zox{W:Q7}{g:Int}(ha:WA W)(h:CF W g):(gi (Yd W g).ID g).used=false:=by
 rw[Kr ha h (by have:=h.g1; omega),E' rfl]; rfl
def zfw(a b:Pi):Prop:=a={ b with R9:=a.R9,v:=a.v }
theorem zfw.trans{a b c:Pi}(h:zfw a b)(k:zfw b c):zfw a c:=by
 unfold zfw at *;rw[h,k]
noncomputable def zt1(W:Q7)(g:Int):Nat->Bool
 | 0=>(((Oj W.ID g).length:Nat):Int)==0
 | k+1=>zt1 W g k&&((gi W.tasks (k:Int)).state==0||(gi W.tasks (k:Int)).group != g)
theorem zkq{W:Q7}{g:Int}(ha:WA W)(hu:Q6 W.ID g=true):zt1 W g 12=true↔Nq W g:=by
 have key:∀k:Nat,zt1 W g k=true↔JY W.ID g 8=[]/\∀t:Int,0<=t->t<(k:Int)->(Q8 W t).state=0\/(Q8 W t).group≠g:=by
  intro k
  induction k with
  | zero=>
   simp only[zt1];rw[Ev ha hu,It];constructor
   ·intro h;exact⟨List.length_eq_zero_iff.1 Qo,fun t a b=>by omega⟩
   ·rintro⟨h,_⟩;rw[h]; rfl
  | succ k ih=>
   simp only[zt1];rw[A',ih,Iv,It,Iu];constructor
   ·rintro⟨⟨h1,h2⟩,h3⟩;refine⟨h1,fun t a b=>?_⟩
    by_cases e:t<(k:Int)
    ·exact h2 t a e
    ·have:t=(k:Int):=Qo;subst this;exact h3
   ·rintro⟨h1,h2⟩;exact⟨⟨h1,fun t a b=>h2 t a Qo⟩,h2 (k:Int) Qo Qo⟩
 exact key 12
theorem k_FnDropEmpty{a:OA}{La Ca:Nat}{w:Wo}(ha:H3 a La w)(hca:La<=Ca)(hg:PL w) :
  Cz Oh #[.slice a La Ca] w fun e w'=>e=.returned (.bool true)/\Q0 [] w w':=by
 refine(Gq a La Ca (R:=fun v w'=>v=.bool true/\Q0 [] w w') ?_).mono fun e w' ⟨v,he,hv,h3⟩=>⟨by rw[he,hv],h3⟩
 refine⟨fun _ wr hx=>⟨rfl,hx⟩,fun _ R2 So _=>?_⟩;refine(KC (ha.ext So) hca).mono ?_;rintro e wv ⟨W,m,g,he,hD⟩;have hl:=hD.ln;have hX0:Q0 [] w wv:=So.trans hD.ext;have r0:=hD.rd;have s0:=Sc.start wv;refine⟨_,_,_,_,_,_,_,_,_,_,_,he,Ui,fun b hb O' R6 SY=>?_⟩;have s1:=s0.put R6 hb;refine(Ei (g:=g) (r0.sc0 s1) hl (hg.ext (hX0.trans s1.ext))).mono ?_;rintro e1 Rr ⟨v,kE,n1,m1,hv,hM1,cY⟩;subst hv;have s2:=s1.R4 cY;have o1:=OW.of hM1 SY;refine⟨_,_,_,_,_,_,_,_,_,_,_,kE,Qe cY SY,fun b1 eY Rt Rm gZ=>?_⟩;have s3:=s2.put Rm eY;have o3:=o1.put Rm eY;refine(PZ (g:=g) (r0.sc0 s3) hl).mono ?_;rintro e2 Rx ⟨v,aQ,n2,m2,hv,cX,SL⟩;subst hv;have s4:=s3.R4 SL;have o4:=o3.R4 SL;have rW:=r0.sc s4;refine⟨_,_,_,_,_,_,_,_,_,_,_,aQ,Qe SL gZ,fun b2 cD=>⟨fun q=>by simp at q,fun _=>?_⟩⟩;clear he kE aQ hM1 cX o1 o3 s1 s2 s3 R6 Rm SY gZ cY SL hb eY
 have Bq0:(Yp W (Vf W g) (Yd W g)).2=if Qx W=true then Vf W g else 1:=by
  unfold Yp
  cases Qx W with
  | false=>rfl
  | true=>
   rw[C' Qd,E' rfl];split
   ·rfl
   ·rename_i h; exact(by simpa using h:Vf W g=0).symm
 have hup:∀{q:Bool},(((!q)||decide (g<1))||decide (g>=(W.ID.length:Int)))=false->q=true/\1<=g/\g<(W.ID.length:Int):=fun {q} h=>by
  simp only[I0,I7,decide_eq_false_iff_not] at h;exact⟨h.1.1,Qo,Qo⟩
 refine⟨_,Tj rW hl,fun q=>rW.g.ix (by have:=(hup q).2.1; omega) (hup q).2.2,_,fun q=>rW.g.used (by have:=(hup q).2.1; omega) (hup q).2.2,fun q RR SK=>⟨?_,hX0.trans (s4.step SK).ext⟩,fun q=>?_⟩
 ·rw[Bq0]
  congr 1
  rw[Iu]
  cases hW:Qx W with
  | false=>rw[C' Qd]; decide
  | true=>
   rw[E' rfl];refine zuv ?_;rintro⟨h1,h2,h3⟩;obtain⟨u0,u1,u2⟩:=Q5.1 h3;have:XQ (XA W/\PM W)=true:=Qi.2 ⟨Qi.1 hW,Qi.1 h1⟩;rw[this,u2,decide_eq_false (show ¬g<1 by omega),decide_eq_false (show ¬g>=(W.ID.length:Int) by omega)] at q;cases q
 ·rw[I0,I7] at q;obtain⟨q1,q2⟩:=q;obtain⟨h1,g1,g2⟩:=hup q1;obtain⟨wp,rm⟩:=Qi.1 h1;have hW:Qx W=true:=Qi.2 wp;have hu:Q6 W.ID g=true:=Q5.2 ⟨Qo,g2,q2⟩;have jV:=wp.a.t;have hy:=zr3 wp.a (Qi.2 rm) g1 hu;rw[hW,E' rfl] at Bq0;rw[Bq0];intro Sn cU zW;have s6:=s4.put cU cD;have o6:=o4.put cU cD;refine(BC (g:=g) (r0.sc0 s6).g hl.g).mono ?_;rintro e3 Sk ⟨ok,ck,fH,_,jW⟩;have s7:=s6.R4 jW;have o7:=o6.R4 jW;refine⟨_,_,_,fH,Qe jW zW,fun vs w2=>∃k:Nat,vs=[.bool (zt1 W g k),I (k:Int)]/\k<=12/\Sc wv [b,b1,b2] w2/\OW n1 O'.heap.size [b,b1,b2] w2 (Yp W (Vf W g) (Yd W g)).1 m1,Zo 12 1,fun SO lY _=>⟨0,rfl,Ie _,s7.step lY,o7.step lY⟩,?_⟩;clear o4 o6 o7 s4 s6 s7 cU zW fH jW rW;rintro em j bI fU ⟨k,he,hk,s,o⟩;simp only[I5,I6,Value.bool.injEq,true_and,and_true] at he;obtain⟨rfl,rfl⟩:=he;have rk:=r0.sc s;refine⟨fun IQ=>?_,fun RH=>?_⟩
  ·have IQ:=Ot IQ;have k0:(0:Int)<=(k:Int):=Qo;exact⟨fun _=>rk.t.ix QL k0 IQ,_,fun _=>rk.t.f k0 IQ (j:=0) rfl,fun _ _=>rk.t.ix QL k0 IQ,_,fun _ _=>rk.t.f k0 IQ (j:=1) rfl,⟨Qo,Qo⟩,fun W8 rH _=>⟨⟨k+1,rfl,Qo,s.step rH,o.step rH⟩,QS (k:=k) rfl rfl Qo⟩⟩
  ·have RH:=Ou RH;have:k=12:=Qo;subst this
   by_cases hE:Nq W g
   ·have hb:Vf W g=0:=hy.1 hE;have hem:=(zkq wp.a hu).2 hE;have e0:Yp W (Vf W g) (Yd W g)=(Yd W g,0):=zib hW hb;rw[e0] at o ⊢;have hn:n1=8:=o.own.len.symm.trans (E3 wp.a);subst hn;have hgn:=zox wp.a (zd4 hb).1;have g2x:g<((Yd W g).ID.length:Int):=by rw[E3 wp.a]; have:=wp.a.gl; omega
    refine⟨fun _ _=>o.rd.g.ix Qo g2x,_,fun _ _=>o.rd.g.used Qo g2x,fun WY kW=>⟨?_,hX0.trans (s.step kW).ext⟩⟩;rw[hb,hem,hgn]; rfl
   ·have hb:Vf W g=4:=hy.2 hE
    have hem:zt1 W g 12=false:=by
     cases h:zt1 W g 12 with
     | false=>rfl
     | true=>exact Is ((zkq wp.a hu).1 h) hE
    rw[hem];refine⟨fun q=>by simp at q,true,fun q=>by simp at q,fun WY kW=>⟨?_,hX0.trans (s.step kW).ext⟩⟩;rw[hb]; rfl
end Go.Proofs.YtnclplgaicdapaaGreatDoor
