/- Part 16 of what the law FnEither needs. -/
import Derived.Test.YtjinkcmkgnofjaaGreatDoorFnEitherPo
set_option linter.all false
set_option maxRecDepth 100000
set_option maxHeartbeats 8000000
namespace Go.Proofs.YtjinkcmkgnofjaaGreatDoor
open Go.RowKit
def zfy(n:Nat)(W:Q7):Prop:=TN ((n:Int)*8000000000000) ((n:Int)*20000) W/\zz7 W
section
variable {n m:Nat}{W V:Q7}
def zfy.mono(h:zfy n W)(hm:n<=m):zfy m W:=⟨TN.mono h.1 Qo Qo,h.2⟩
def zfy.up(h:zfy n W)(hn:n<=10000)(u:Up W V):zfy (n+10) V:=by
 have:=u _ _ Qo Qo Qo h.1 h.2;exact⟨this.1.mono Qo Qo,this.2⟩
def zfy.fork(h:zfy n W){g q x:Int}(hW:Qp W)(hb:Vc W g q x=0):zfy n (DB W g q x):=zi2 Qo Qo h.1 hW hb
def zfy.mk(h:zfy n W)(iv:Xk W){a p:Int}{name:ByteArray}(hm:zas W a p name):zfy n (Oc W a p name):=zsn Qo Qo h.1 h.2 iv hm
def zsv{k:Nat}(n0:1<=k)(n1:k<=4):zfy n (J4 k):=by
 have hl:(J4 k).IF.length=k:=by simp[J4]
 have wp:=(zlj n0 n1).wp;refine zfy.mono (n:=0) ⟨?_,trivial⟩ (Ic n);refine⟨⟨wp.a,λt a b h=>?_,λt a b=>?_,λk c u a b=>?_,λc a b=>?_⟩,⟨by show (0:Int)<=_;decide,λt a b=>?_,λk c u a b=>?_,λk u=>?_,λc a b=>?_⟩,λc a b=>?_,I2 _⟩
 ·rw[zei t a b] at h;exact Ir rfl h
 ·rw[zei t a b];exact⟨I2 _,I2 _⟩
 ·rw[(zqr k).1 u,zqq c a Qo];simp only[FT];decide
 ·rw[zeh c a Qo];simp only[];decide
 ·rw[zei t a b];simp only[T3];decide
 ·rw[(zqr k).1 u,zqq c a Qo];simp only[FT];decide
 ·rw[(zqr k).1 u,Mw 0 Qd Qd,C' rfl];simp only[OJ];decide
 ·rw[zeh c a Qo];simp only[];decide
 ·rw[zeh c a Qo];exact I2 _
end
def z6j{W V:Q7}(iv:Xk W)(h:XO W V):Up W V:=by
 have hW:Qp W:=Qm.2 iv.wp
 cases h with
 |same=>exact Up.refl W
 |run c n hb=>exact zz4 hW hb
 |yld c hb=>exact z42 (UA (zrw hb).1).1 (UA (zrw hb).1).2
 |fork g n x hb=>exact z2n hW hb
 |block t hb=>exact zz3 hW hb
 |Cq6 t hb=>exact z2q hW hb
 |exit t hb=>exact z2m hW hb
 |nice t n hb=>exact z2o hW hb
 |pin t x hb=>exact z47 hW hb
 |mov t g hb=>exact z45 iv hb
 |mak a p name hm=>exact z6i iv hm
 |drp g hd=>exact z41 iv hd
 |wgh g x hb=>exact zz5 hW hb
 |gpn g x hb=>exact z43 hW hb
 |lim g q p hb=>exact z44 hW hb
 |time n hb=>exact z2p hW hb
 |bal c hb=>exact z40 hW hb
 |off c hb=>exact z46 hW hb
 |on c hb=>exact z6k hW hb
def z6w:M0 zfy:=⟨λhm h=>h.mono hm,λa b=>zsv a b,λiv h hb=>h.fork (Qm.2 iv.wp) hb,λiv h hm=>h.mk iv hm,λhn iv h hd=>h.up hn (z6j iv hd)⟩
def Lz(n:Nat)(W:Q7):Prop:=n<=1000->zfy (10*n) W
def Lz.mono{n m:Nat}{W:Q7}(h:Lz n W)(hm:n<=m):Lz m W:=λk=>zfy.mono (h Qo) Qo
def Lz.up{n:Nat}{W V:Q7}(h:Lz n W)(u:Up W V):Lz (n+1) V:=λk=>zfy.mono (zfy.up (h Qo) Qo u) Qo
structure Oe (rb:Nat) (c:OA) (L N:Nat) (bs:List Nat) (w0 w:Wo) (W:Q7) (m:MW):Prop where
 cr:Cr W
 lw:Lz N W
 s:Sc w0 (rb::bs) w
 r:RS rb c L N bs w
 o:OW 8 w0.heap.size (rb::bs) w W m
section
variable {rb b:Nat}{c:OA}{L N:Nat}{bs cs:List Nat}{w0 w w':Wo}{W W':Q7}{m m':MW}
def Oe.step(h:Oe rb c L N bs w0 w W m)(hx:Q0 bs w w'):Oe rb c L N bs w0 w' W m:=⟨h.cr,h.lw,h.s.BM5 hx,h.r.step hx,h.o.step (hx.mono λ_ hm=>I1 _ hm)⟩
def Oe.put(h:Oe rb c L N bs w0 w W m)(hx:Q0 bs w w')(hb:w.heap.size<=b):Oe rb c L N (bs++[b]) w0 w' W m:=⟨h.cr,h.lw,h.s.Bs6 hx hb,h.r.put hx hb,h.o.put (hx.mono λ_ hm=>I1 _ hm) hb⟩
def Oe.sub(h:Oe rb c L N bs w0 w W m)(hs:∀x∈cs,x∈bs):Oe rb c L N cs w0 w W m:=by
 have k:∀x∈rb::cs,x∈rb::bs:=λx hx=>by
  rcases Ii.1 hx with h1|h1
  ·rw[h1];exact I9
  ·exact I1 _ (hs x h1)
 exact⟨h.cr,h.lw,h.s.sub k,h.r.sub hs,h.o.sub k⟩
def Oe.mono{M:Nat}(h:Oe rb c L N bs w0 w W m)(hm:N<=M):Oe rb c L M bs w0 w W m:=⟨h.cr,h.lw.mono hm,h.s,h.r.mono hm,h.o⟩
def Oe.rd(h:Oe rb c L N bs w0 w W m):J6 [] w W m:=h.o.rd0
def Oe.pick(h:Oe rb c L N bs w0 w W m)(hN:N<=1000000000000)(hs:∀x∈bs,x<w.heap.size){n:Int} :
  Cz Q3 #[.pointer (some ⟨rb,0,none⟩),I n] w λe w'=>∃v,e=.returned (I v)/\Q9 bs w w'/\GJ n v/\Oe rb c L (N+1) bs w0 w' W m:=
 (Em h.r.rd hN).mono λe w' ⟨v,he,hp,hr,hx⟩=>⟨v,he,En h.r hx hs,hp,h.cr,h.lw.mono Qo,h.s.B52 hx,h.r.upd hr,h.o.step (hx.mono λx hm=>by
  have:x=rb:=by simpa using hm
  subst this;exact I9)⟩
def Oe.Sv{n M:Nat}(h:Oe rb c L N bs w0 w W m)(hs:∀x∈bs,x<w.heap.size)(hM:Zj n w.heap.size w' W' m')(hx:Q0 [] w w')(hc:Cr W')(hN:N<=M)(hl:Lz M W'):Oe rb c L M bs w0 w' W' m':=by
 have hn:n=8:=hM.len.symm.trans hc.iv.wp.a.gl;subst hn
 have hb:∀x∈rb::bs,x<w.heap.size:=λx hm=>by
  rcases Ii.1 hm with h1|h1
  ·rw[h1];exact h.r.rd.lt
  ·exact hs x h1
 exact⟨hc,hl,h.s.R5 hx,(h.r.R5 hx).mono hN,(OW.of hM hb).mono h.s.ext.size⟩
def zyl{W W':Q7}{M:Nat}(h:Cr W)(hl:Lz M W){bar:Int}(hb:bar=0->Lz M W'):Lz M (Y7 W bar W').1:=by
 unfold Y7;rw[B' (by rw[h.w];decide)];split
 ·exact hl
 ·rename_i e;exact hb (by simpa using e)
def zsu{W W':Q7}{M:Nat}(h:Cr W)(hl:Lz M W){bar a:Int}(hb:bar=0->Lz M W'):Lz M (Uf W bar W' a).1:=by
 unfold Uf;rw[B' (by rw[h.w];decide)];split
 ·exact hl
 ·rename_i e;exact hb (by simpa using e)
def Oe.len(h:Oe rb c L N bs w0 w W m):UV W:=zso h.cr.iv.wp.a
def Oe.mak{p:Int}{name:ByteArray}(h:Oe rb c L N bs w0 w W m)(hs:∀x∈bs,x<w.heap.size) :
  Cz Qj #[.agg (Qa W m).toArray,I p,.string name] w λe w'=>∃(W':Q7) (m':MW) (a d:Int),e=.returned (.tuple #[.agg (Qa W' m').toArray,I a,I d])/\Q9 bs w w'/\Oe rb c L N bs w0 w' W' m':=
 (OH h.rd h.len).mono λe w' ⟨v,he,n,m',hv,hM,hx⟩=>by subst hv;exact⟨_,m',_,_,he,Qg hx hs,h.Sv hs hM hx (zr8 h.cr (z3p h.cr)) (I7 _) (zsu h.cr h.lw λhb=>λk=>zfy.mk (h.lw k) h.cr.iv (Ep hb).1)⟩
def Oe.wgh{g x:Int}(h:Oe rb c L N bs w0 w W m)(hs:∀x∈bs,x<w.heap.size) :
  Cz Xz #[.agg (Qa W m).toArray,I g,I x] w λe w'=>∃(W':Q7) (m':MW) (d:Int),e=.returned (.tuple #[.agg (Qa W' m').toArray,I d])/\Q9 bs w w'/\Oe rb c L (N+1) bs w0 w' W' m':=
 (K7 h.rd h.len).mono λe w' ⟨v,he,n,m',hv,hM,hx⟩=>by subst hv;exact⟨_,m',_,he,Qg hx hs,h.Sv hs hM hx (zw9 h.cr (z3s h.cr)) (Nat.le_succ _) (zyl h.cr (h.lw.mono (Nat.le_succ _)) λhb=>h.lw.up (zz5 h.cr.w hb))⟩
def Oe.fork{g n x:Int}(h:Oe rb c L N bs w0 w W m)(hs:∀x∈bs,x<w.heap.size) :
  Cz Yo #[.agg (Qa W m).toArray,I g,I n,I x] w λe w'=>∃(W':Q7) (m':MW) (a d:Int),e=.returned (.tuple #[.agg (Qa W' m').toArray,I a,I d])/\Q9 bs w w'/\Oe rb c L N bs w0 w' W' m':=
 (Pu h.rd h.len).mono λe w' ⟨v,he,n,m',hv,hM,hx⟩=>by subst hv;exact⟨_,m',_,_,he,Qg hx hs,h.Sv hs hM hx (zr8 h.cr (z0y h.cr)) (I7 _) (zsu h.cr h.lw λhb=>λk=>zfy.fork (h.lw k) h.cr.w hb)⟩
def Oe.run{q n:Int}(h:Oe rb c L N bs w0 w W m)(hN:N<=10000)(hs:∀x∈bs,x<w.heap.size) :
  Cz YN #[.agg (Qa W m).toArray,I q,I n] w λe w'=>∃(W':Q7) (m':MW) (d:Int),e=.returned (.tuple #[.agg (Qa W' m').toArray,I d])/\Q9 bs w w'/\Oe rb c L (N+1) bs w0 w' W' m':=
 (Vt h.rd h.len).mono λe w' ⟨v,he,n,m',hv,hM,hx⟩=>by subst hv;exact⟨_,m',_,he,Qg hx hs,h.Sv hs hM hx (zw9 h.cr (z3r h.cr)) (Nat.le_succ _) (zyl h.cr (h.lw.mono (Nat.le_succ _)) λhb=>h.lw.up (zz4 h.cr.w hb))⟩
end
section
variable {rb b b2:Nat}{c:OA}{L N:Nat}{bs:List Nat}{w0 w w':Wo}{W:Q7}{m:MW}
def Oe.AH9(h:Oe rb c L N bs w0 w W m)(hx:Q0 bs w w')(hb:w.heap.size<=b)(cH:w.heap.size<=b2):Oe rb c L N (bs++[b]++[b2]) w0 w' W m:=by
 have k:=h.put (Q0.refl _ _) hb;have k2:=k.put (Q0.refl _ _) cH;have fT:Q0 (rb::(bs++[b]++[b2])) w w':=hx.mono λx hm=>by simp[hm]
 exact⟨h.cr,h.lw,k2.s.step fT,k2.r.step (hx.mono λx hm=>by simp[hm]),k2.o.step fT⟩
def z7d(rb:Nat)(c:OA)(L N:Nat)(bs0:List Nat)(w0:Wo)(vs:List Va)(bs:List Nat)(w:Wo):Prop:=
 bs=[]/\∃(W:Q7) (m:MW),vs=Qa W m/\Oe rb c L N bs0 w0 w W m
end
def pv{n:Nat}{v:Int}(hp:GJ (n:Int) v)(hn:1<=n):0<=v/\v<(n:Int):=⟨hp.1,hp.2.2 Qo⟩
def z7g{v:Int}{P:Int->Prop}(hp:GJ 4 v)(h:∀x,P x):∃x:Int,(0<=v/\([I 0,I 0,I 1,I 2]:List Va)[Int.toNat v+0]? = some (I x))/\P x:=by
 have h0:=hp.1;have h1:=hp.2.2 Qd;have:v=0\/v=1\/v=2\/v=3:=Qo;rcases this with rfl|rfl|rfl|rfl
 ·exact⟨0,⟨h0,rfl⟩,h _⟩
 ·exact⟨0,⟨h0,rfl⟩,h _⟩
 ·exact⟨1,⟨h0,rfl⟩,h _⟩
 ·exact⟨2,⟨h0,rfl⟩,h _⟩
def z7f{v:Int}{P:ByteArray->Prop}(hp:GJ 3 v)(h:∀x,P x):∃x:ByteArray,(0<=v/\([.string (ByteArray.mk [97].toArray),.string (ByteArray.mk [98].toArray),.string (ByteArray.mk [119,101,98].toArray)]:List Va)[Int.toNat v+0]? = some (.string x))/\P x:=by
 have h0:=hp.1;have h1:=hp.2.2 Qd;have:v=0\/v=1\/v=2:=Qo;rcases this with rfl|rfl|rfl
 ·exact⟨_,⟨h0,rfl⟩,h _⟩
 ·exact⟨_,⟨h0,rfl⟩,h _⟩
 ·exact⟨_,⟨h0,rfl⟩,h _⟩
def zdy{c:OA}{L C:Nat}{w:Wo}(h:GH c L w)(hC:L<=C) :
  Cz Pn #[.slice c L C] w λe w'=>∃(W:Q7) (m:MW),e=.returned (.agg (Qa W m).toArray)/\(Cr W/\Lz 100 W)/\Zj 8 w.heap.size w' W m/\Q0 [] w w':=by
 refine(zcu c L C (R:=λv w'=>∃(W:Q7) (m:MW),v=.agg (Qa W m).toArray/\(Cr W/\Lz 100 W)/\Zj 8 w.heap.size w' W m/\Q0 [] w w') ?_).mono λe w' ⟨v,he,W,m,hv,h3⟩=>⟨W,m,by rw[he,hv],h3⟩
 intro b hb wr hx hs;refine(zdv (h.ext hx) hC).mono ?_;rintro e wv ⟨rb,c',L',he,hrb,hR,Sn,CO8⟩
 have hRS:RS rb c' L' 0 [b] wv:=⟨hR,λhm=>by
  have:=hs rb hm;omega,λa' ha'=>by
  rcases CO8 a' ha' with h0|⟨h0,a,ha,hab⟩
  ·exact .inr h0
  ·refine .inl λhm=>?_
   obtain⟨a0,x0,ha0,_,_,h30⟩:=h 0 h0;have Re:=World.block_lt_of_cell? w _ h30;rw[Zz] at Re;rw[ha] at ha0;cases ha0;have:a'.block=b:=by simpa using hm
   omega⟩
 have s1:Sc w (rb::[b]) wv:=⟨hx.trans Sn,λx hm=>by
  rcases Ii.1 hm with h1|h1
  ·have:=hx.size;omega
  ·have:x=b:=by simpa using h1
   omega⟩
 refine⟨_,he,Qg Sn hs,λR6 Rg We=>?_⟩;have CO2:=hRS.step Rg;refine(Em CO2.rd Qd).mono ?_;rintro e1 Rc ⟨v,qC,hp,hR1,Rl⟩;have hv0:=hp.1;have hv2:=hp.2.2 Qd;refine⟨_,qC,En CO2 Rl We,⟨Qo,Qo⟩,λR7 W8 dX=>?_⟩;have Cd8:=(CO2.upd hR1).step W8;have s2:=((s1.BM5 Rg).B52 Rl).BM5 W8;obtain⟨n,hn⟩:∃n:Nat,1+v=(n:Int):=⟨(1+v).toNat,Qo⟩;rw[hn];refine(Gb (n:=n) Qo Qo).mono ?_;rintro e2 RO ⟨m,bS,hM,Sx⟩
 have cH:∀x∈rb::[b],x<R7.heap.size:=λx hm=>by
  rcases Ii.1 hm with h1|h1
  ·rw[h1];exact Cd8.rd.lt
  ·exact dX x h1
 have hK:Oe rb c' L' 1 [b] w RO (J4 n) m:=⟨z3q Qo Qo,λ_=>zsv Qo Qo,s2.R5 Sx,Cd8.R5 Sx,(OW.of hM cH).mono s2.ext.size⟩;refine⟨_,_,_,_,_,_,_,_,_,_,_,bS,Qg Sx dX,λb1 dG RD bM hs6=>?_⟩;refine((hK.put bM dG).pick Qd hs6).mono ?_;rintro e3 Si ⟨v1,gZ,hk3,hp1,hK1⟩;have DD4:=hp1.1;have Dl2:=hp1.2.2 Qd;refine⟨_,gZ,hk3,?_⟩;refine⟨λvs w2=>∃(k N:Nat) (W:Q7) (m:MW),vs=I (k:Int)::Qa W m/\(k:Int)<=v1/\N<=2+4*k/\Oe rb c' L' N [b,b1] w w2 W m,Zp v1.toNat 0,λSY vF _=>⟨0,2,J4 n,m,rfl,DD4,Qo,hK1.step vF⟩,?_⟩;clear hK1 hk3 gZ hs6 bM hM hK bS Sx;rintro i1 l RA Rz RQ RF RL RP RG RH RJ jQ hs8 ⟨k,N,W,m,he8,hk,hN,hK⟩;simp only[Qa,I4,I5,Iv,true_and,and_true] at he8;obtain⟨rfl,rfl,⟨rfl,rfl,rfl⟩,⟨rfl,rfl,rfl⟩,rfl,rfl,rfl⟩:=he8;refine⟨λIV=>⟨z7d rb c' L' (N+2) [b,b1] w,?_,?_⟩,λRW=>?_⟩
 ·have IV:=Ot IV
  repeat' first
   |exact rfl
   |(refine pv (n:=4) ?_ Qd;assumption)
   |(refine pv (n:=3) ?_ Qd;assumption)
   |(refine And.intro ?_ ?_)
   |(refine z7g (by assumption) λx=>?_)
   |(refine z7f (by assumption) λx=>?_)
   |(intro (b:Nat) hb)
   |(intro (wr:Wo) hx hs;refine(Oe.pick (Oe.step (by assumption) hx) ?_ hs).mono ?_;rotate_left;rintro e w2 ⟨v,he,hk,hp,hC⟩;refine⟨_,he,hk,?_⟩)
   |(intro (wr:Wo) hx hs;refine(Oe.pick (Oe.put (by assumption) hx (by assumption)) ?_ hs).mono ?_;rotate_left;rintro e w2 ⟨v,he,hk,hp,hC⟩;refine⟨_,he,hk,?_⟩)
   |(intro (wr:Wo) hx hs;refine(Oe.pick (Oe.AH9 (by assumption) hx (by assumption) (by assumption)) ?_ hs).mono ?_;rotate_left;rintro e w2 ⟨v,he,hk,hp,hC⟩;refine⟨_,he,hk,?_⟩)
   |(intro (wr:Wo) hx hs;refine(Oe.mak (Oe.step (by assumption) hx) hs).mono ?_;rintro e w2 ⟨W',m',a,d,he,hk,hC⟩;refine⟨_,_,_,_,_,_,_,_,_,_,_,_,he,hk,?_⟩)
   |(intro (wr:Wo) hx hs;refine(Oe.mak (Oe.put (by assumption) hx (by assumption)) hs).mono ?_;rintro e w2 ⟨W',m',a,d,he,hk,hC⟩;refine⟨_,_,_,_,_,_,_,_,_,_,_,_,he,hk,?_⟩)
   |(intro (wr:Wo) hx hs;refine(Oe.mak (Oe.AH9 (by assumption) hx (by assumption) (by assumption)) hs).mono ?_;rintro e w2 ⟨W',m',a,d,he,hk,hC⟩;refine⟨_,_,_,_,_,_,_,_,_,_,_,_,he,hk,?_⟩)
   |(intro (wr:Wo) hx hs;exact⟨rfl,_,_,rfl,(Oe.step (by assumption) hx).sub Qs⟩)
   |omega
 ·have IV:=Ot IV;rintro l4 rH iZ rG qY uJ qX kD sB rI Bc5 Dj6 ⟨-,W2,m2,hv,hC⟩;simp only[Qa,I4,I5,Iv,true_and,and_true] at hv;obtain⟨rfl,⟨rfl,rfl,rfl⟩,⟨rfl,rfl,rfl⟩,rfl,rfl,rfl⟩:=hv;refine⟨⟨Qo,Qo⟩,λAp1 DD8 DB9=>?_⟩;refine((hC.step DD8).pick Qo DB9).mono ?_;rintro e4 w38 ⟨v2,he4,hk4,hp4,hC2⟩;have h1:=hp4.1;have h2:=hp4.2.2 Qd;refine⟨_,he4,hk4,rfl,⟨Qo,Qo⟩,λAp2 DD9 DC0=>?_⟩;refine((hC2.step DD9).wgh DC0).mono ?_;rintro e5 w39 ⟨W3,m3,d,he5,hk5,hC3⟩;exact⟨_,_,_,_,_,_,_,_,_,_,_,he5,hk5,⟨Qo,Qo⟩,λBQ0 DE0 _=>⟨⟨k+1,N+2+1+1,W3,m3,by simp[Qa],Qo,Qo,hC3.step DE0⟩,Z6 (k:=k) rfl rfl Qo⟩⟩
 ·have RW:=Ou RW;intro Ap3 Cm3 Cl1;refine((hK.step Cm3).pick Qo Cl1).mono ?_;rintro e6 w40 ⟨v3,he6,hk6,hp6,hC6⟩;have h1:=hp6.1;have h2:=hp6.2.2 Qd;refine⟨_,he6,hk6,⟨Qo,Qo⟩,?_⟩;refine⟨λvs w2=>∃(k N:Nat) (W:Q7) (m:MW),vs=I (k:Int)::Qa W m/\(k:Int)<=1+v3/\N<=20+2*k/\Oe rb c' L' N [b,b1] w w2 W m,Zp (1+v3).toNat 0,λSY vF _=>⟨0,N+1,W,m,rfl,Qo,Qo,hC6.step vF⟩,?_⟩;clear hK hC6 hk6 he6 Cl1 Cm3;rintro i3 l8 l9O l9L l9C AB2 AB1 AB0 iD iC hZ BC8 Dj7 ⟨k3,N3,W3,m3,he9,hk3,hN3,wD⟩;simp only[Qa,I4,I5,Iv,true_and,and_true] at he9;obtain⟨rfl,rfl,⟨rfl,rfl,rfl⟩,⟨rfl,rfl,rfl⟩,rfl,rfl,rfl⟩:=he9;refine⟨λB12=>⟨⟨Qo,Qo⟩,λAp4 DE1 DC1=>?_⟩,λA87 AL0 Cm4 Cl2=>?_⟩
  ·have B12:=Ot B12;refine((wD.step DE1).pick Qo DC1).mono ?_;rintro e7 w46 ⟨v4,he7,hk7,hp7,hC7⟩;refine⟨_,he7,hk7,rfl,λBQ1 DE2 DC2=>?_⟩;refine((hC7.step DE2).pick Qo DC2).mono ?_;rintro e8 w47 ⟨v5,he8,hk8,hp8,hC8⟩;have h3:=hp8.1;have h4:=hp8.2.2 Qd;refine⟨_,he8,hk8,rfl,⟨Qo,Qo⟩,λAp5 DE3 DC3=>?_⟩;refine((hC8.step DE3).fork DC3).mono ?_;rintro e9 w48 ⟨W4,m4,a,d,he9,hk9,hC9⟩;exact⟨_,_,_,_,_,_,_,_,_,_,_,_,he9,hk9,⟨Qo,Qo⟩,λAZ6 DE4 _=>⟨⟨k3+1,N3+1+1,W4,m4,by simp[Qa],Qo,Qo,hC9.step DE4⟩,Z6 (k:=k3) rfl rfl Qo⟩⟩
  ·have A87:=Ou A87;refine((wD.step Cm4).pick Qo Cl2).mono ?_;rintro e10 w49 ⟨v6,Bq2,Ch3,Cj3,Cc6⟩;have h3:=Cj3.1;have h4:=Cj3.2.2 Qd;refine⟨_,Bq2,Ch3,?_⟩;refine⟨λvs w2=>∃(k N:Nat) (W:Q7) (m:MW),vs=I (k:Int)::Qa W m/\(k:Int)<=v6/\N<=60+3*k/\Oe rb c' L' N [b,b1] w w2 W m,Zp v6.toNat 0,λSY vF _=>⟨0,N3+1,W3,m3,rfl,Qo,Qo,Cc6.step vF⟩,?_⟩;clear wD Cc6 Ch3 Bq2 Cl2 Cm4;rintro i5 l12 vH kB vG A99 A98 A97 BA2 BA1 BA0 BC9 Dj8 ⟨k5,N5,W5,m5,Cf3,hk5,hN5,eI⟩;simp only[Qa,I4,I5,Iv,true_and,and_true] at Cf3;obtain⟨rfl,rfl,⟨rfl,rfl,rfl⟩,⟨rfl,rfl,rfl⟩,rfl,rfl,rfl⟩:=Cf3;refine⟨λCi1 BQ2 DE5 DC4=>?_,λDg3 BQ4 DE9=>⟨W5,m5,rfl,⟨eI.cr,eI.lw.mono Qo⟩,?_⟩⟩
   ·have Ci1:=Ot Ci1;refine((eI.step DE5).pick Qo DC4).mono ?_;rintro e12 w55 ⟨v7,C66,rD,Di7,C30⟩;refine⟨_,C66,rD,rfl,λAp6 DE6 DC5=>?_⟩;refine((C30.step DE6).pick Qo DC5).mono ?_;rintro e13 w56 ⟨v8,C67,C89,Cj4,C31⟩;have h5:=Cj4.1;have h6:=Cj4.2.2 Qd;refine⟨_,C67,C89,rfl,⟨Qo,Qo⟩,λAp7 DE7 DC6=>?_⟩;refine((C31.step DE7).run Qo DC6).mono ?_;rintro e14 w57 ⟨W6,m6,d,C68,C90,C32⟩;exact⟨_,_,_,_,_,_,_,_,_,_,_,C68,C90,⟨Qo,Qo⟩,λBQ3 DE8 _=>⟨⟨k5+1,N5+1+1+1,W6,m6,by simp[Qa],Qo,Qo,C32.step DE8⟩,Z6 (k:=k5) rfl rfl Qo⟩⟩
   ·have hf:=eI.step DE9;exact⟨hf.o.own,hf.s.ext⟩
def zyb{α:Type}[Inhabited α](l:List α){i:Int}(i0:0<=i):l.set i.toNat (gi l i)=l:=by
 by_cases h:i.toNat<l.length
 ·obtain⟨k,rfl⟩:=Int.eq_ofNat_of_zero_le i0;have h:k<l.length:=h;rw[Jq h];simp
 ·exact List.set_eq_of_length_le Qo
def z2e(W:Q7){k c:Int}(k0:0<=k)(c0:0<=c):Rw W k c (Qb W k c)=W:=by
 show { W with IE:=W.IE.set k.toNat { gi W.IE k with IH:=(gi W.IE k).IH.set c.toNat (gi (gi W.IE k).IH c) } }=W;rw[zyb _ c0];show { W with IE:=W.IE.set k.toNat (gi W.IE k) }=W;rw[zyb _ k0]
def zm4{l:List Int}{f g:Int->Bool}:(∀x∈l,f x=g x)->l.all f=l.all g:=by
 induction l with
 |nil=>intro _;rfl
 |cons a l ih=>
  intro h;rw[List.all_cons,List.all_cons,h a I9,ih λx hx=>h x (I1 _ hx)]
structure Sd (W:Q7) (c:Int):Prop where
 on:∀k:Int,Q6 W.IE k->k≠0->UN W c k
 fl:∀k:Int,Q6 W.IE k->Sw W k c 20->S3 W k c 20<=(Qb W k c).IL
 cu:0<=(gi W.IF c).cur->(Q8 W (gi W.IF c).cur).R2=c/\Zq W (gi W.IF c).cur=true
def zzl{W:Q7}(iv:Xk W){c:Int}(c0:0<=c)(c1:c<(W.IF.length:Int)):Sd W c:=
 ⟨(zxb iv.wp c0 c1).on,λk hu hb=>iv.fl k c hu c0 c1 hb,(zxb iv.wp c0 c1).cu⟩
section
variable {W:Q7}{c:Int}
def Av(ha:WA W)(h:Sd W c)(c0:0<=c){d:Int}(d1:1<=d):∀k:Nat,k<=8->Z4 W c d k=W
 |0,_=>rfl
 |k+1,hk=>by
  have ih:=Av ha h c0 d1 k Qo;simp only[Z4];rw[ih];split
  ·rename_i hq;have hl:=ha.gl;have hu:Q6 W.IE (k:Int):=Q5.2 ⟨Qo,Qo,hq.1⟩
   have hz:(k:Int)≠0:=λe=>by
    have:=hq.2;rw[e,ZS] at this;omega
   have ho:=h.on _ hu hz;unfold UN at ho
   have:SC W (k:Int) c=Qb W (k:Int) c:=by
    unfold SC;rw[<-ho,B' (λq=>by rw[q.1] at q;exact Ir q.2 Qd)]
   rw[this,z2e W Qo c0]
  ·rfl
def Hu(ha:WA W)(h:Sd W c)(c0:0<=c):Qw W c=W:=by
 have key:∀j:Nat,j<=3->ZP W c j=W:=λj=>by
  induction j with
  |zero=>intro _;rfl
  |succ j ih=>
   intro hj;simp only[ZP];rw[ih Qo];exact Av ha h c0 Qo 8 (I7 _)
 exact key 3 (I7 _)
def Au(ha:WA W)(h:Sd W c):∀k:Nat,k<=8->QD W c k=W
 |0,_=>rfl
 |k+1,hk=>by
  have ih:=Au ha h k Qo;simp only[QD];rw[ih];split
  ·rename_i hq;have hl:=ha.gl;have hu:Q6 W.IE (k:Int):=Q5.2 ⟨Qo,Qo,hq.1⟩;have:=h.fl _ hu hq.2.1;have:=hq.2.2;omega
  ·rfl
def zfm(ha:WA W)(h:Sd W c)(c0:0<=c):Xc W c=W:=by
 unfold Xc
 have e:Z3 (Qw W c) c=W:=by
  rw[Hu ha h c0];exact Au ha h 8 (I7 _)
 rw[e,B'];intro hg;unfold Tz at hg;simp only[A',Ij,Iu,It,ID] at hg;obtain⟨h0,h1⟩:=hg;obtain⟨a,b⟩:=h.cu h0;rcases h1 with h1|h1
 ·exact h1 a
 ·rw[b] at h1;cases h1
end
section
variable {W V:Q7}{c d:Int}
def z0l(o:D4 c W V)(hl:W.IE.length=8)(hd:d≠c)(d0:0<=d)(k:Int):QJ V k d=QJ W k d:=by
 have e:WV V k d=WV W k d:=funext λj=>by
  unfold WV;rw[o.g.u,o.g.p,o.e (j:Int) d Qo d0 hd]
 have e2:dU V k d=dU W k d:=funext λj=>by
  unfold dU;rw[o.t]
 unfold QJ;rw[o.t,o.g.len,e,e2]
def z1z(o:D4 c W V)(hd:d≠c)(d0:0<=d)(k:Int):Sf V k d=Sf W k d/\S9 V d=S9 W d:=by
 constructor
 ·funext i
  unfold Sf;split
  ·unfold dU;rw[o.t]
  ·unfold WV;rw[o.g.u,o.g.p,o.e _ d Qo d0 hd]
 ·funext i
  unfold S9;split
  ·exact congrArg MQ.v (Xf o.t _)
  ·rw[o.e _ d Qo d0 hd]
def zyk(o:D4 c W V)(ha:WA W)(hd:d≠c)(d0:0<=d){t:Int}(hc:(Q8 W t).R2=d)(hu:(Q8 W t).state=1->Q6 W.IE (Q8 W t).II):Zq V t=Zq W t:=by
 unfold Zq;rw[Xf o.t]
 cases hs:((Q8 W t).state==1) with
 |false=>rfl
 |true=>
  rw[Bool.true_and,Bool.true_and,hc];unfold Ut;rw[show QM V.IE (Q8 W t).II=QM W.IE (Q8 W t).II from o.g.path 3 _];have hus:=hu (Iz hs)
  have:∀x∈QM W.IE (Q8 W t).II,(Qb V x d).on=(Qb W x d).on:=λx hx=>by
   have:=(Q5.1 (Ys ha.tree _ hus x hx).1).1;rw[o.e x d this d0 hd]
  exact zm4 this
def zre(o:D4 c W V)(ha:WA W)(li:∀t:Int,(Q8 W t).state=1->Q6 W.IE (Q8 W t).II)(h:Sd W d)(hd:d≠c)(d0:0<=d):Sd V d:=by
 have hm:=z1z o hd d0;refine⟨λk hu hz=>?_,λk hu hb=>?_,λh0=>?_⟩
 ·rw[o.g.cD] at hu;have:=h.on k hu hz;have k0:=(Q5.1 hu).1;unfold UN at this ⊢;rw[o.e k d k0 d0 hd,z0l o ha.gl hd d0,this];unfold Jm;rw[o.b k k0]
 ·rw[o.g.cD] at hu;have k0:=(Q5.1 hu).1;have eb:Sw V k d 20=Sw W k d 20:=by unfold Sw;rw[(hm k).1,(hm k).2]
  have ev:S3 V k d 20=S3 W k d 20:=by unfold S3;rw[(hm k).1,(hm k).2]
  rw[eb] at hb;rw[ev,o.e k d k0 d0 hd];exact h.fl k hu hb
 ·rw[o.cp d d0 hd] at h0 ⊢;obtain⟨a,b⟩:=h.cu h0;rw[Xf o.t];exact⟨a,by rw[zyk o ha hd d0 a (li _)];exact b⟩
end
def zye{V:Q7}(hV:WA V)(hu:∀t:Int,0<=t->t<12->(Q8 V t).state≠0->Q6 V.IE (Q8 V t).II):∀t:Int,(Q8 V t).state=1->Q6 V.IE (Q8 V t).II:=λt hs=>by
 have hl:=hV.t;have e:Q8 V t=Q8 V ((t.toNat:Nat):Int):=H2 _ _;rw[e] at hs ⊢
 by_cases ht:t.toNat<12
 ·exact hu _ Qo Qo (by rw[hs];decide)
 ·exfalso
  have:Q8 V ((t.toNat:Nat):Int)=default:=by
   unfold Q8 gi;rw[Ig,List.getD_eq_getElem?_getD,Iw Qo];rfl
  rw[this] at hs;exact Ir hs Qd
def zi7{W V:Q7}{c:Nat}(ha:WA W)(aV:WA V)(oV:D4 (c:Int) W V)(hV:Qw W (c:Int)=V)(li:∀t:Int,(Q8 W t).state=1->Q6 W.IE (Q8 W t).II){n:Nat}(h:∀d:Nat,d<n->d≠c->Sd W (d:Int)):∀k:Nat,k<=n->Zr W k=if c<k then V else W
 |0,_=>rfl
 |k+1,hk=>by
  simp only[Zr];rw[zi7 ha aV oV hV li h k Qo]
  by_cases e:k=c
  ·subst e;rw[B' Qo,C' Qo,hV]
  ·by_cases IV:c<k
   ·rw[C' IV,C' Qo];exact Hu aV (zre oV ha li (h k Qo e) Qo Qo) Qo
   ·rw[B' IV,B' Qo];exact Hu ha (h k Qo e) Qo
def zjw{W V:Q7}{c:Nat}(ha:WA W)(aV:WA V)(oV:D4 (c:Int) W V)(hV:Xc W (c:Int)=V)(li:∀t:Int,(Q8 W t).state=1->Q6 W.IE (Q8 W t).II){n:Nat}(h:∀d:Nat,d<n->d≠c->Sd W (d:Int)):∀k:Nat,k<=n->Xb W k=if c<k then V else W
 |0,_=>rfl
 |k+1,hk=>by
  simp only[Xb];rw[zjw ha aV oV hV li h k Qo]
  by_cases e:k=c
  ·subst e;rw[B' Qo,C' Qo,hV]
  ·by_cases IV:c<k
   ·rw[C' IV,C' Qo];exact zfm aV (zre oV ha li (h k Qo e) Qo Qo) Qo
   ·rw[B' IV,B' Qo];exact zfm ha (h k Qo e) Qo
def zrb{K:Int}{W:Q7}{c:Nat}(sw:SW K W)(hK:0<=K)(hq:GI W)(c1:c<W.IF.length)(h:∀d:Nat,d<W.IF.length->d≠c->Sd W (d:Int)):Qf W=Xc (Qw W (c:Int)) (c:Int):=by
 have ha:=sw.a;have c0:(0:Int)<=(c:Int):=Qo;have c1i:(c:Int)<(W.IF.length:Int):=Qo;have oL:=zel ha c0 c1i;obtain⟨aL,_,_⟩:=zi6 ha c0 c1i;obtain⟨sL,_⟩:=KX (F:=K) (K:=K+Qi) (sw.sf.mono (I2 _) (by simp only[Qi];omega)) (I2 _) c0 c1i;have liW:=zye ha λt t0 t1 n=>(sw.t t t0 t1 n).1
 have hLn:=zi7 ha aL oL rfl liW h W.IF.length (I7 _);rw[C' c1] at hLn;unfold Qf;rw[hLn];have hlen:=oL.len;have hdL:∀d:Nat,d<W.IF.length->d≠c->Sd (Qw W (c:Int)) (d:Int):=λd d1 dn=>zre oL ha liW (h d d1 dn) Qo Qo
 have hqL:GI (Qw W (c:Int)):=λi i0 i1=>by rw[oL.b i i0];exact hq i i0 i1
 clear hLn oL;generalize Qw W (c:Int)=V at *;have hg:Mk V=V:=Nh aL.gl hqL 8 (I7 _);rw[hg];have c1L:(c:Int)<(V.IF.length:Int):=Qo;have oS:=(zfl sL.w c0 c1L).1;have aS:=(zo6 sL.w (by simp only[Qi];omega) c0 c1L).1.a;have liL:=zye aL λt t0 t1 n=>(sL.w.t t t0 t1 n).1
 have:=zjw aL aS oS rfl liL hdL W.IF.length (I7 _);rw[C' c1] at this;exact this
structure Ag (c:Int) (W V:Q7):Prop where
 t:∀t:Int,(Q8 W t).R2=c\/(Q8 V t).R2=c->Q8 V t=Q8 W t
 tl:V.IJ.length=W.IJ.length
 g:QZ W.IE V.IE
 b:∀k:Int,(gi V.IE k).IM=(gi W.IE k).IM
 sl:∀k:Int,(gi V.IE k).IH.length=(gi W.IE k).IH.length
 s:∀k:Int,Qb V k c=Qb W k c
 cp:gi V.IF c=gi W.IF c
 cl:V.IF.length=W.IF.length
section
variable {c:Int}{W V:Q7}
def Ag.dU(h:Ag c W V)(k:Int):dU V k c=YtjinkcmkgnofjaaGreatDoor.dU W k c:=funext λj=>by
 unfold YtjinkcmkgnofjaaGreatDoor.dU;show ((((Q8 V (j:Int)).state==1)&&((Q8 V (j:Int)).II==k))&&((Q8 V (j:Int)).R2==c))=((((Q8 W (j:Int)).state==1)&&((Q8 W (j:Int)).II==k))&&((Q8 W (j:Int)).R2==c))
 by_cases h1:(Q8 W (j:Int)).R2=c
 ·rw[h.t _ (.inl h1)]
 ·by_cases h2:(Q8 V (j:Int)).R2=c
  ·rw[h.t _ (.inr h2)]
  ·rw[show ((Q8 V (j:Int)).R2==c)=false by simpa using h2,show ((Q8 W (j:Int)).R2==c)=false by simpa using h1,Bool.and_false,Bool.and_false]
def Ag.WV(h:Ag c W V)(k:Int):WV V k c=YtjinkcmkgnofjaaGreatDoor.WV W k c:=funext λj=>by
 unfold YtjinkcmkgnofjaaGreatDoor.WV;rw[h.g.u,h.g.p,h.s]
def Ag.act(h:Ag c W V)(k:Int):QJ V k c=QJ W k c:=by
 unfold QJ;rw[h.dU,h.WV,h.tl,h.g.len]
def Ag.RE(h:Ag c W V)(k:Int):Jm V k c=Jm W k c:=by unfold Jm;rw[h.b]
def Ag.SC(h:Ag c W V)(k:Int):SC V k c=YtjinkcmkgnofjaaGreatDoor.SC W k c:=by
 unfold YtjinkcmkgnofjaaGreatDoor.SC;rw[h.act,h.RE,h.s,h.g.p,h.s]
def Ag.Sf(h:Ag c W V)(k:Int):Sf V k c=YtjinkcmkgnofjaaGreatDoor.Sf W k c:=by
 unfold YtjinkcmkgnofjaaGreatDoor.Sf;rw[h.dU,h.WV]
def Ag.S9(h:Ag c W V){k:Int}{i:Nat}(hp:YtjinkcmkgnofjaaGreatDoor.Sf W k c i):S9 V c i=YtjinkcmkgnofjaaGreatDoor.S9 W c i:=by
 unfold YtjinkcmkgnofjaaGreatDoor.S9
 by_cases hi:i<12
 ·rw[C' hi,C' hi];rw[Ji hi] at hp;unfold YtjinkcmkgnofjaaGreatDoor.dU at hp;simp only[A',Is] at hp;rw[h.t _ (.inl hp.2)]
 ·rw[B' hi,B' hi,h.s]
def Ag.least(h:Ag c W V)(k:Int)(n:Nat):QY (YtjinkcmkgnofjaaGreatDoor.Sf V k c) (YtjinkcmkgnofjaaGreatDoor.S9 V c) n=QY (YtjinkcmkgnofjaaGreatDoor.Sf W k c) (YtjinkcmkgnofjaaGreatDoor.S9 W c) n:=by
 rw[h.Sf];exact P8 (λ_ _=>rfl) λi _ hp=>h.S9 hp
def Ag.first(h:Ag c W V)(k:Int):QG V k c=QG W k c:=h.least k 20
def Ag.Sw(h:Ag c W V)(k:Int)(n:Nat):Sw V k c n=YtjinkcmkgnofjaaGreatDoor.Sw W k c n:=by
 unfold YtjinkcmkgnofjaaGreatDoor.Sw;rw[h.least]
def Ag.S3(h:Ag c W V)(k:Int)(n:Nat):S3 V k c n=YtjinkcmkgnofjaaGreatDoor.S3 W k c n:=by
 unfold YtjinkcmkgnofjaaGreatDoor.S3;rw[h.least];split
 ·rfl
 ·rename_i hn;rcases Zl (YtjinkcmkgnofjaaGreatDoor.Sf W k c) (YtjinkcmkgnofjaaGreatDoor.S9 W c) n with ⟨a,_⟩|⟨_,_,a,_⟩
  ·rw[a] at hn;exact Ir Qd hn
  ·exact h.S9 a
def Ag.next(h:Ag c W V):∀(f:Nat) (k:Int),zej f V k c=zej f W k c
 |0,_=>rfl
 |f+1,k=>by
  simp only[zej];rw[h.first,Ag.next h f]
def Ag.pick(h:Ag c W V):Qe V c=Qe W c:=by
 unfold Qe Pb;rw[h.cp,h.next,h.g.dep]
def Ag.line(h:Ag c W V){t:Int}(ht:(Q8 W t).R2=c):Zq V t=Zq W t:=by
 unfold Zq Ut;rw[h.t t (.inl ht),ht,show QM V.IE (Q8 W t).II=QM W.IE (Q8 W t).II from h.g.path 3 _]
 congr 1
 exact zm4 λx _=>by rw[h.s]
def Ag.sh(h:Ag c W V){k:Int}(k0:0<=k)(k1:k<(W.IE.length:Int))(c0:0<=c)(c1:c<((gi W.IE k).IH.length:Int))(s:KD):Ag c (Rw W k c s) (Rw V k c s):=by
 have k1V:k<(V.IE.length:Int):=by rw[h.g.len];exact k1
 have rR:c<((gi V.IE k).IH.length:Int):=by rw[h.sl];exact c1
 have t1:QZ W.IE (Rw W k c s).IE:=YC k0 k1;have t2:QZ V.IE (Rw V k c s).IE:=YC k0 k1V;refine⟨h.t,h.tl,⟨?_,λi=>?_,λi=>?_,λi=>?_⟩,λi=>?_,λi=>?_,λi=>?_,h.cp,h.cl⟩
 ·rw[t2.len,t1.len];exact h.g.len
 ·rw[t2.u,t1.u];exact h.g.u i
 ·rw[t2.p,t1.p];exact h.g.p i
 ·rw[t2.n,t1.n];exact h.g.n i
 ·have e1:=QQ (f:=Zb.IM) W.IE k (x:={ gi W.IE k with IH:=(gi W.IE k).IH.set c.toNat s }) rfl i;have e2:=QQ (f:=Zb.IM) V.IE k (x:={ gi V.IE k with IH:=(gi V.IE k).IH.set c.toNat s }) rfl i;exact e2.trans ((h.b i).trans e1.symm)
 ·have e1:=QQ (f:=λG:Zb=>G.IH.length) W.IE k (x:={ gi W.IE k with IH:=(gi W.IE k).IH.set c.toNat s }) E' i;have e2:=QQ (f:=λG:Zb=>G.IH.length) V.IE k (x:={ gi V.IE k with IH:=(gi V.IE k).IH.set c.toNat s }) E' i;exact e2.trans ((h.sl i).trans e1.symm)
 ·have e:∀(X:Q7),Qb X i c=Qb X ((i.toNat:Nat):Int) c:=λX=>congrArg (λG:Zb=>gi G.IH c) (H2 X.IE i)
  rw[e,e (Rw W k c s),XS k0 k1V c0 rR Qo c0,XS k0 k1 c0 c1 Qo c0];split
  ·rfl
  ·exact h.s _
def Ag.Rb(h:Ag c W V)(c0:0<=c)(c1:c<(W.IF.length:Int)):Ag c (Rb W c) (Rb V c):=by
 refine⟨h.t,h.tl,h.g,h.b,h.sl,h.s,?_,?_⟩
 ·show gi (V.IF.set c.toNat (Xv (gi V.IF c))) c=gi (W.IF.set c.toNat (Xv (gi W.IF c))) c;rw[QE _ _ c0 (by rw[h.cl];exact c1) c0,QE _ _ c0 c1 c0,C' rfl,C' rfl,h.cp]
 ·show (V.IF.set _ _).length=(W.IF.set _ _).length;rw[E',E'];exact h.cl
def zz9(W:Q7)(c:Int):Prop:=∀k:Int,Q6 W.IE k->c<((gi W.IE k).IH.length:Int)
def ztg{k:Int}{s:KD}(h:zz9 W c)(k0:0<=k)(k1:k<(W.IE.length:Int)):zz9 (Rw W k c s) c:=λi hu=>by
 have t1:QZ W.IE (Rw W k c s).IE:=YC k0 k1;have e1:=QQ (f:=λG:Zb=>G.IH.length) W.IE k (x:={ gi W.IE k with IH:=(gi W.IE k).IH.set c.toNat s }) E' i;rw[t1.cD] at hu;have:=h i hu;have e1:(gi (Rw W k c s).IE i).IH.length=(gi W.IE i).IH.length:=e1;rw[e1];exact this
def zm3(h:Ag c W V)(hs:zz9 W c)(c0:0<=c)(hl:W.IE.length=8)(d:Int):∀k:Nat,k<=8->Ag c (Z4 W c d k) (Z4 V c d k)/\zz9 (Z4 W c d k) c/\(Z4 W c d k).IE.length=8
 |0,_=>⟨h,hs,hl⟩
 |k+1,hk=>by
  obtain⟨i1,i2,i3⟩:=zm3 h hs c0 hl d k Qo;simp only[Z4];rw[i1.g.u,i1.g.dep];split
  ·rename_i hq;have hu:Q6 (Z4 W c d k).IE (k:Int):=Q5.2 ⟨Qo,Qo,hq.1⟩;rw[i1.SC];refine⟨i1.sh Qo Qo c0 (i2 _ hu) _,ztg i2 Qo Qo,?_⟩;show (List.set _ _ _).length=8;rw[E'];exact i3
  ·exact⟨i1,i2,i3⟩
def BM(h:Ag c W V)(hs:zz9 W c)(c0:0<=c)(hl:W.IE.length=8):∀j:Nat,Ag c (ZP W c j) (ZP V c j)/\zz9 (ZP W c j) c/\(ZP W c j).IE.length=8
 |0=>⟨h,hs,hl⟩
 |j+1=>by
  obtain⟨i1,i2,i3⟩:=BM h hs c0 hl j;exact zm3 i1 i2 c0 i3 _ 8 (I7 _)
def zil(h:Ag c W V)(hs:zz9 W c)(c0:0<=c)(hl:W.IE.length=8):∀k:Nat,k<=8->Ag c (QD W c k) (QD V c k)/\zz9 (QD W c k) c/\(QD W c k).IE.length=8
 |0,_=>⟨h,hs,hl⟩
 |k+1,hk=>by
  obtain⟨i1,i2,i3⟩:=zil h hs c0 hl k Qo;simp only[QD];rw[i1.g.u,i1.Sw,i1.S3,i1.s];split
  ·rename_i hq;have hu:Q6 (QD W c k).IE (k:Int):=Q5.2 ⟨Qo,Qo,hq.1⟩
   have e:Kn (QD V c k) (k:Int) c=Kn (QD W c k) (k:Int) c:=by
    unfold Kn;rw[i1.s,i1.S3]
   rw[e];refine⟨i1.sh Qo Qo c0 (i2 _ hu) _,ztg i2 Qo Qo,?_⟩;show (List.set _ _ _).length=8;rw[E'];exact i3
  ·exact⟨i1,i2,i3⟩
def Ag.gone(h:Ag c W V):Tz V c=Tz W c:=by
 unfold Tz;rw[h.cp]
 by_cases h1:(Q8 W (gi W.IF c).cur).R2=c
 ·rw[h.t _ (.inl h1),h.line h1]
 ·by_cases h2:(Q8 V (gi W.IF c).cur).R2=c
  ·rw[h.t _ (.inr h2)] at h2;exact Ir h2 h1
  ·rw[show ((Q8 V (gi W.IF c).cur).R2 != c)=true by simpa using h2,show ((Q8 W (gi W.IF c).cur).R2 != c)=true by simpa using h1,Bool.true_or,Bool.true_or]
def z0m(h:Ag c W V)(hs:zz9 W c)(c0:0<=c)(hl:W.IE.length=8)(c1:c<(W.IF.length:Int)):Ag c (Xc W c) (Xc V c):=by
 obtain⟨a1,a2,a3⟩:=BM h hs c0 hl 3;obtain⟨b1,b2,b3⟩:=zil a1 a2 c0 a3 8 (I7 _);have b1:Ag c (Z3 (Qw W c) c) (Z3 (Qw V c) c):=b1;unfold Xc;rw[b1.gone];split
 ·refine b1.Rb c0 ?_;have e:∀X:Q7,(Z3 (Qw X c) c).IF.length=X.IF.length:=λX=>((MI X c 3).trans (G1 (Qw X c) c 8)).len
  rw[e];exact c1
 ·exact b1
end
def ziw{α:Type}[Inhabited α](l:List α){c d:Int}(x:α)(c0:0<=c)(d0:0<=d)(h:d≠c):gi (l.set c.toNat x) d=gi l d:=by
 unfold gi;rw[List.getD_eq_getElem?_getD,List.getD_eq_getElem?_getD,List.getElem?_set_ne Qo]
def zqc{α:Type}[Inhabited α](l:List α)(k i:Int)(x:α):(gi (l.set k.toNat x) i=x/\gi l i=gi l k)\/gi (l.set k.toNat x) i=gi l i:=by
 unfold gi;simp only[List.getD_eq_getElem?_getD,List.getElem?_set]
 by_cases e:k.toNat=i.toNat
 ·rw[C' e,e]
  by_cases h:i.toNat<l.length
  ·rw[C' h];exact .inl ⟨rfl,rfl⟩
  ·rw[B' h,Iw Qo];exact .inr rfl
 ·rw[B' e];exact .inr rfl
def GR(G:Zb):Zb:={ G with sum:=0,IH:=[] }
def zpw{β:Type}(f:Zb->β)(hf:∀G,f (GR G)=f G){A B:Zb}(h:GR A=GR B):f A=f B:=(hf A).symm.trans ((congrArg f h).trans (hf B))
structure Rf (c:Int) (W W':Q7):Prop where
 n:W'.now=W.now
 tl:W'.IJ.length=W.IJ.length
 cl:W'.IF.length=W.IF.length
 gl:W'.IE.length=W.IE.length
 t:∀t:Int,(Q8 W t).R2≠c->Q8 W' t=Q8 W t
 tc:∀t:Int,(Q8 W' t).R2=(Q8 W t).R2
 cp:∀d:Int,0<=d->d≠c->gi W'.IF d=gi W.IF d
 co:∀i:Int,GR (gi W'.IE i)=GR (gi W.IE i)
 sl:∀i:Int,(gi W'.IE i).IH.length=(gi W.IE i).IH.length
 e:∀i d:Int,0<=d->d≠c->Qb W' i d=Qb W i d
def Rf.refl(c:Int)(W:Q7):Rf c W W:=⟨rfl,rfl,rfl,rfl,λ_ _=>rfl,λ_=>rfl,λ_ _ _=>rfl,λ_=>rfl,λ_=>rfl,λ_ _ _ _=>rfl⟩
def Rf.trans{c:Int}{A B C:Q7}(h:Rf c A B)(k:Rf c B C):Rf c A C:=
 ⟨k.n.trans h.n,k.tl.trans h.tl,k.cl.trans h.cl,k.gl.trans h.gl,λt ht=>(k.t t (by rw[h.tc];exact ht)).trans (h.t t ht),λt=>(k.tc t).trans (h.tc t),λd d0 hd=>(k.cp d d0 hd).trans (h.cp d d0 hd),λi=>(k.co i).trans (h.co i),λi=>(k.sl i).trans (h.sl i),λi d d0 hd=>(k.e i d d0 hd).trans (h.e i d d0 hd)⟩
section
variable {W V:Q7}{c:Int}
def zy7{g:Int}{x:Zb}(h1:GR x=GR (gi W.IE g))(h2:x.IH.length=(gi W.IE g).IH.length)(h3:∀d:Int,0<=d->d≠c->gi x.IH d=gi (gi W.IE g).IH d):Rf c W (R1 W g x):=
 ⟨rfl,rfl,rfl,E',λ_ _=>rfl,λ_=>rfl,λ_ _ _=>rfl,λi=>QQ (f:=GR) W.IE g h1 i,λi=>QQ (f:=λG:Zb=>G.IH.length) W.IE g h2 i,λi d d0 hd=>QQ (f:=λG:Zb=>gi G.IH d) W.IE g (h3 d d0 hd) i⟩
def zy8(W:Q7)(c0:0<=c)(g:Int)(s:KD):Rf c W (Rw W g c s):=zy7 rfl E' λ_ d0 hd=>ziw _ _ c0 d0 hd
def As(W:Q7)(c0:0<=c)(x:PZ):Rf c W (RM W c x):=
 ⟨rfl,rfl,E',rfl,λ_ _=>rfl,λ_=>rfl,λ_ d0 hd=>ziw _ _ c0 d0 hd,λ_=>rfl,λ_=>rfl,λ_ _ _ _=>rfl⟩
def zme(W:Q7)(c0:0<=c):Rf c W (Rb W c):=As W c0 _
def z3b{t:Int}{x:MQ}(h1:(Q8 W t).R2=c)(h2:x.R2=c):Rf c W (J' W t x):=by
 have e1:∀i:Int,(Q8 (J' W t x) i).R2=(Q8 W i).R2:=λi=>QQ (f:=MQ.R2) W.IJ t (h2.trans h1.symm) i
 refine⟨rfl,E',rfl,rfl,λi hi=>?_,e1,λ_ _ _=>rfl,λ_=>rfl,λ_=>rfl,λ_ _ _ _=>rfl⟩;rcases zqc W.IJ t i x with ⟨_,e⟩|e
 ·have:Q8 W i=Q8 W t:=e;rw[this] at hi;exact Ir h1 hi
 ·exact e
def ze9(W:Q7)(c0:0<=c)(d:Int):∀k:Nat,Rf c W (Z4 W c d k)
 |0=>Rf.refl _ _
 |k+1=>by
  simp only[Z4];split
  ·exact(ze9 W c0 d k).trans (zy8 _ c0 _ _)
  ·exact ze9 W c0 d k
def NW(W:Q7)(c0:0<=c):∀j:Nat,Rf c W (ZP W c j)
 |0=>Rf.refl _ _
 |j+1=>(NW W c0 j).trans (ze9 _ c0 _ _)
def NV(W:Q7)(c0:0<=c):∀k:Nat,Rf c W (QD W c k)
 |0=>Rf.refl _ _
 |k+1=>by
  simp only[QD];split
  ·exact(NV W c0 k).trans (zy8 _ c0 _ _)
  ·exact NV W c0 k
def zy9(W:Q7)(c0:0<=c):Rf c W (Xc W c):=by
 have h:=(NW W c0 3).trans (NV (Qw W c) c0 8);unfold Xc;split
 ·exact h.trans (zme _ c0)
 ·exact h
def z4w(c0:0<=c){g n:Int}(hq:(gi W.IE g).IM.I'=0):Rf c W (MR W c n g):=by
 have r1:Rf c W (TP W c n g):=zy8 W c0 g _;have r2:Rf c (TP W c n g) (R1 (TP W c n g) g (Kk W c n g)):=zy7 rfl rfl λ_ _ _=>rfl
 have hb:BU W c n g=(gi W.IE g).IM:=B' (by rw[hq];decide);refine(r1.trans r2).trans (zy7 ?_ rfl λ_ _ _=>rfl);have e:=(r1.trans r2).co g;have e2:(gi (R1 (TP W c n g) g (Kk W c n g)).IE g).IM=(gi W.IE g).IM:=zpw Zb.IM (λ_=>rfl) e;rw[hb,<-e2]
def zq7(c0:0<=c)(n:Int):∀(l:List Int) {W:Q7},GI W->(∀g∈l,0<=g/\g<8)->Rf c W (Gl c n l W)
 |[],W,_,_=>Rf.refl _ _
 |g::l,W,hq,hl=>by
  have hg:=hl g I9;have r:=z4w (W:=W) c0 (n:=n) (hq g hg.1 hg.2)
  have hq2:GI (MR W c n g):=λi i0 i1=>by
   have:=zpw (λG:Zb=>G.IM.I') (λ_=>rfl) (r.co i);exact this.trans (hq i i0 i1)
  exact r.trans (zq7 c0 n l hq2 λx hx=>hl x (I1 _ hx))
def Rf.noq(h:Rf c W V)(hq:GI W):GI V:=λi i0 i1=>(zpw (λG:Zb=>G.IM.I') (λ_=>rfl) (h.co i)).trans (hq i i0 i1)
def Rf.ag(h:Rf c W V){d:Int}(d0:0<=d)(hd:d≠c):Ag d W V:=by
 refine⟨λt ht=>h.t t ?_,h.tl,⟨h.gl,λi=>zpw Zb.IW (λ_=>rfl) (h.co i),λi=>zpw Zb.IG (λ_=>rfl) (h.co i),λi=>zpw Zb.name (λ_=>rfl) (h.co i)⟩,λi=>zpw Zb.IM (λ_=>rfl) (h.co i),h.sl,λi=>h.e i d d0 hd,h.cp d d0 hd,h.cl⟩;rcases ht with ht|ht
 ·rw[ht];exact hd
 ·rw[<-h.tc,ht];exact hd
def zzd{d:Int}(h:Ag d W V)(s:Sd W d):Sd V d:=by
 refine⟨λk hu hz=>?_,λk hu hb=>?_,λh0=>?_⟩
 ·rw[h.g.cD] at hu;have:=s.on k hu hz;unfold UN at this ⊢;rw[h.s,h.act,h.RE];exact this
 ·rw[h.g.cD] at hu;rw[h.Sw] at hb;rw[h.S3,h.s];exact s.fl k hu hb
 ·rw[h.cp] at h0 ⊢;obtain⟨a,b⟩:=s.cu h0;rw[h.t _ (.inl a)];exact⟨a,by rw[h.line a];exact b⟩
def OL{K:Int}(sw:SW K V)(hK:0<=K)(hq:GI V)(c0:0<=c)(c1:c<(V.IF.length:Int))(h:∀d:Int,0<=d->d<(V.IF.length:Int)->d≠c->Sd V d):Qf V=Xc (Qw V c) c/\Rf c V (Qf V):=by
 have e:=zrb (c:=c.toNat) sw hK hq Qo λd d1 dn=>h d Qo Qo Qo
 rw[show ((c.toNat:Nat):Int)=c by omega] at e;refine⟨e,?_⟩;rw[e];exact(NW V c0 3).trans (zy9 (Qw V c) c0)
def zbd{n:Int}(hW:Qp W)(hq:GI W)(hb:Yl W c n=0) :
  (Qe W c<0/\YA W c n=Qf (YtjinkcmkgnofjaaGreatDoor.Rb (RM W c (Jf W c n)) c)/\∃K,0<=K/\SW K (YtjinkcmkgnofjaaGreatDoor.Rb (RM W c (Jf W c n)) c)) \/
  (¬Qe W c<0/\YA W c n=Qf (Qf (JU (QI W c (Qe W c)) c (Qe W c) n))/\(∃K,0<=K/\SW K (JU (QI W c (Qe W c)) c (Qe W c) n))/\(∃K,0<=K/\SW K (Qf (JU (QI W c (Qe W c)) c (Qe W c) n)))/\zm1 W (Qe W c) c/\(∀g∈Z7 W (Qe W c),Q6 W.IE g)):=by
 obtain⟨hn,_,_,_,hI⟩:=MC hW hb;have hn:=Qv.1 hn;have hK:=TH hI.f2;have hh0:(0:Int)<=Qn:=Qd
 by_cases hp:Qe W c<0
 ·exact .inl ⟨hp,L9 Qo hp,_,Qo,(zdc hI).1⟩
 ·have hR:=LW hI Qo hp;obtain⟨e1,e2,e3,_⟩:=zta hI hq Qo hp;have hnx:=hR.nx;have hch:=(hR.ch (by rw[e1])).1;rw[e1,e2] at hch;rw[e3] at hnx;have gP:=TH hnx.f2
  have hKn:0<=Dt (399+1)+5*Qi:=by
   have h1:=TH (f:=399+1) Qd;simp only[Qi];omega
  refine .inr ⟨hp,?_,⟨_,hKn,hch⟩,⟨_,Qo,hnx.sw⟩,hR.line,hR.pin⟩
  ·show Hq c 400 W n=_;rw[Lc Qo hp,e3,Hr (f:=398) (I2 0)]
def zfa{n:Int}(iv:Xk W)(hq:GI W)(hb:Yl W c n=0):Rf c W (YA W c n):=by
 have hW:Qp W:=Qm.2 iv.wp;obtain⟨_,_,_,_,hI⟩:=MC hW hb;have c0:=hI.c0;have c1:=hI.c1;have hs:∀{X:Q7},Rf c W X->∀d:Int,0<=d->d<(X.IF.length:Int)->d≠c->Sd X d:=λ{X} r d d0 d1 hd=>zzd (r.ag d0 hd) (zzl iv d0 (by rw[<-r.cl];exact d1))
 rcases zbd hW hq hb with ⟨hp,e,K,hK,sw⟩|⟨hp,e,⟨K,hK,sw⟩,⟨K2,gP,sw2⟩,hln,hus⟩
 ·rw[e];have r:Rf c W (YtjinkcmkgnofjaaGreatDoor.Rb (RM W c (Jf W c n)) c):=(As W c0 _).trans (zme _ c0);exact r.trans (OL sw hK (r.noq hq) c0 (by rw[r.cl];exact c1) (hs r)).2
 ·rw[e];have hc:=hln.R2
  have hl:∀g∈Z7 W (Qe W c),0<=g/\g<8:=λg hg=>by
   have:=Q5.1 (hus g hg);have:=iv.wp.a.gl;omega
  have r1:Rf c W (QI W c (Qe W c)):=As W c0 _;have r2:Rf c (QI W c (Qe W c)) (J' (QI W c (Qe W c)) (Qe W c) (P4 (QI W c (Qe W c)) (Qe W c) n)):=z3b hc hc;have r12:=r1.trans r2;have r3:=zq7 c0 n (Z7 (QI W c (Qe W c)) (Qe W c)) (r12.noq hq) hl;have r:Rf c W (JU (QI W c (Qe W c)) c (Qe W c) n):=(r12.trans r3).trans (As _ c0 _);generalize JU (QI W c (Qe W c)) c (Qe W c) n=X at *;have s1:=r.trans (OL sw hK (r.noq hq) c0 (by rw[r.cl];exact c1) (hs r)).2;exact s1.trans (OL sw2 gP (s1.noq hq) c0 (by rw[s1.cl];exact c1) (hs s1)).2
end
section
variable {W V W' V':Q7}{c:Int}
def Ag.of(h:Ag c W V)(rW:Rf c W W')(rV:Rf c V V')(ht:∀t:Int,(Q8 W t).R2=c->Q8 V' t=Q8 W' t)(hs:∀k:Int,Qb V' k c=Qb W' k c)(hc:gi V'.IF c=gi W'.IF c):Ag c W' V':=by
 refine⟨λt h1=>?_,by rw[rV.tl,rW.tl,h.tl],⟨by rw[rV.gl,rW.gl];exact h.g.len,λi=>?_,λi=>?_,λi=>?_⟩,λi=>?_,λi=>by rw[rV.sl,rW.sl,h.sl],hs,hc,by rw[rV.cl,rW.cl,h.cl]⟩
 ·rcases h1 with h1|h1
  ·exact ht t (by rw[<-rW.tc];exact h1)
  ·have h2:(Q8 V t).R2=c:=by rw[<-rV.tc];exact h1
   have:=h.t t (.inr h2);exact ht t (by rw[<-this];exact h2)
 ·rw[zpw Zb.IW (λ_=>rfl) (rV.co i),zpw Zb.IW (λ_=>rfl) (rW.co i)];exact h.g.u i
 ·rw[zpw Zb.IG (λ_=>rfl) (rV.co i),zpw Zb.IG (λ_=>rfl) (rW.co i)];exact h.g.p i
 ·rw[zpw Zb.name (λ_=>rfl) (rV.co i),zpw Zb.name (λ_=>rfl) (rW.co i)];exact h.g.n i
 ·rw[zpw Zb.IM (λ_=>rfl) (rV.co i),zpw Zb.IM (λ_=>rfl) (rW.co i)];exact h.b i
def zks(c n:Int):∀(l:List Int) (W:Q7),(Gl c n l W).IJ=W.IJ/\(Gl c n l W).IF=W.IF
 |[],_=>⟨rfl,rfl⟩
 |g::l,W=>zks c n l (MR W c n g)
def zw2{n g:Int}(g0:0<=g)(g1:g<(W.IE.length:Int))(c0:0<=c)(c1:c<((gi W.IE g).IH.length:Int))(k:Int)(k0:0<=k):Qb (MR W c n g) k c=if g=k then GG W c n g else Qb W k c:=by
 have e1:∀(X:Q7) (b:Ue),Qb (RZ X g b) k c=Qb X k c:=λX b=>QQ (f:=λG:Zb=>gi G.IH c) X.IE g (x:={ gi X.IE g with IM:=b }) rfl k
 have e2:∀(X:Q7) (a:Int),Qb (R1 X g { gi X.IE g with sum:=a }) k c=Qb X k c:=λX a=>QQ (f:=λG:Zb=>gi G.IH c) X.IE g (x:={ gi X.IE g with sum:=a }) rfl k
 have:Qb (MR W c n g) k c=Qb (TP W c n g) k c:=(e1 _ _).trans (e2 _ _);rw[this];have:=XS (W:=W) (g:=g) (c:=c) (s:=GG W c n g) g0 g1 c0 c1 k0 c0;unfold TP;rw[this]
 by_cases e:g=k
 ·rw[C' ⟨e,rfl⟩,C' e]
 ·rw[B' (λq=>e q.1),B' e]
def z3n{n g:Int}(g0:0<=g)(g1:g<(W.IE.length:Int))(k:Int)(k0:0<=k):(gi (MR W c n g).IE k).sum=(gi W.IE k).sum+if g=k then n else 0:=by
 have e1:∀(X:Q7) (b:Ue),(gi (RZ X g b).IE k).sum=(gi X.IE k).sum:=λX b=>QQ (f:=Zb.sum) X.IE g (x:={ gi X.IE g with IM:=b }) rfl k
 have e2:(gi (MR W c n g).IE k).sum=(gi (R1 (TP W c n g) g (Kk W c n g)).IE k).sum:=e1 _ _;have hl:(TP W c n g).IE.length=W.IE.length:=E';have e3:∀k:Int,(gi (TP W c n g).IE k).sum=(gi W.IE k).sum:=λk=>QQ (f:=Zb.sum) W.IE g (x:={ gi W.IE g with IH:=(gi W.IE g).IH.set c.toNat (GG W c n g) }) rfl k
 rw[e2,Yt g0 (by rw[hl];exact g1) k0]
 by_cases e:g=k
 ·rw[C' e,C' e,<-e];rfl
 ·rw[B' e,B' e,e3,Int.add_zero]
def zwd(n k:Int):List Int->Int
 |[]=>0
 |g::l=>(if g=k then n else 0)+zwd n k l
def zkr{n:Int}(c0:0<=c):∀(l:List Int) {W V:Q7},(∀g∈l,0<=g/\g<(W.IE.length:Int)/\c<((gi W.IE g).IH.length:Int))->V.IE.length=W.IE.length->(∀i:Int,(gi V.IE i).IH.length=(gi W.IE i).IH.length)->(∀k:Int,0<=k->Qb V k c=Qb W k c)->
  (∀k:Int,0<=k->Qb (Gl c n l V) k c=Qb (Gl c n l W) k c)/\(∀k:Int,0<=k->(gi (Gl c n l W).IE k).sum=(gi W.IE k).sum+zwd n k l)
 |[],_,_,_,_,_,hs=>⟨hs,λk _=>by show _=_+0;rw[Int.add_zero];rfl⟩
 |g::l,W,V,hl,hg,hn,hs=>by
  obtain⟨g0,g1,g2⟩:=hl g I9
  have len:∀X:Q7,(MR X c n g).IE.length=X.IE.length:=λX=>by
   show ((((X.IE.set _ _).set _ _).set _ _).length)=_;rw[E',E',E']
  have shl:∀(X:Q7) (i:Int),(gi (MR X c n g).IE i).IH.length=(gi X.IE i).IH.length:=λX i=>by
   have e1:∀(Y:Q7) (b:Ue),(gi (RZ Y g b).IE i).IH.length=(gi Y.IE i).IH.length:=λY b=>QQ (f:=λG:Zb=>G.IH.length) Y.IE g (x:={ gi Y.IE g with IM:=b }) rfl i
   have e2:∀(Y:Q7) (a:Int),(gi (R1 Y g { gi Y.IE g with sum:=a }).IE i).IH.length=(gi Y.IE i).IH.length:=λY a=>QQ (f:=λG:Zb=>G.IH.length) Y.IE g (x:={ gi Y.IE g with sum:=a }) rfl i
   have e3:(gi (TP X c n g).IE i).IH.length=(gi X.IE i).IH.length:=QQ (f:=λG:Zb=>G.IH.length) X.IE g (x:={ gi X.IE g with IH:=(gi X.IE g).IH.set c.toNat (GG X c n g) }) E' i;exact((e1 _ _).trans (e2 _ _)).trans e3
  have hS:∀k:Int,0<=k->Qb (MR V c n g) k c=Qb (MR W c n g) k c:=λk k0=>by
   rw[zw2 g0 (by rw[hg];exact g1) c0 (by rw[hn];exact g2) k k0,zw2 g0 g1 c0 g2 k k0];split
   ·unfold GG;rw[hs g g0]
   ·exact hs k k0
  obtain⟨a,b⟩:=zkr c0 l (W:=MR W c n g) (V:=MR V c n g) (λx hx=>by
   obtain⟨x0,x1,x2⟩:=hl x (I1 _ hx);exact⟨x0,by rw[len];exact x1,by rw[shl];exact x2⟩) (by rw[len,len,hg]) (λi=>by rw[shl,shl,hn]) hS
  refine⟨a,λk k0=>?_⟩;have:=b k k0;rw[z3n g0 g1 k k0] at this;show _=_+((if g=k then n else 0)+zwd n k l);rw[<-Int.add_assoc];exact this
def zqd{α:Type}[Inhabited α]{l m:List α}(h:l.length=m.length){p t:Int}(e:gi l t=gi m t)(x:α):gi (l.set p.toNat x) t=gi (m.set p.toNat x) t:=by
 unfold gi at *;simp only[List.getD_eq_getElem?_getD,List.getElem?_set] at *
 by_cases q:p.toNat=t.toNat
 ·rw[C' q,C' q,h]
 ·rw[B' q,B' q];exact e
def BN{K K':Int}(h:Ag c W V)(swW:SW K W)(hK:0<=K)(qW:GI W)(swV:SW K' V)(hK':0<=K')(qV:GI V)(c0:0<=c)(c1:c<(W.IF.length:Int))(hW:∀d:Int,0<=d->d<(W.IF.length:Int)->d≠c->Sd W d)(hV:∀d:Int,0<=d->d<(V.IF.length:Int)->d≠c->Sd V d):Ag c (Qf W) (Qf V):=by
 have e1:=(OL swW hK qW c0 c1 hW).1;have e2:=(OL swV hK' qV c0 (by rw[h.cl];exact c1) hV).1;rw[e1,e2];have hs:zz9 W c:=λk hu=>by rw[swW.a.sl hu];exact c1
 obtain⟨a1,a2,a3⟩:=BM h hs c0 swW.a.gl 3;have hlc:(Qw W c).IF.length=W.IF.length:=(MI W c 3).len;exact z0m a1 a2 c0 a3 (by rw[hlc];exact c1)
def zza{n:Int}(h:Ag c W V)(iW:Xk W)(iV:Xk V)(qW:GI W)(qV:GI V)(bW:Yl W c n=0)(bV:Yl V c n=0) :
  Ag c (YA W c n) (YA V c n)/\∀k:Int,0<=k->(gi (YA W c n).IE k).sum-(gi W.IE k).sum=(gi (YA V c n).IE k).sum-(gi V.IE k).sum:=by
 have hW:Qp W:=Qm.2 iW.wp;have hV:Qp V:=Qm.2 iV.wp;obtain⟨_,_,_,_,hI⟩:=MC hW bW;have c0:=hI.c0;have c1:=hI.c1;have rR:c<(V.IF.length:Int):=by rw[h.cl];exact c1
 have sW:∀{X:Q7},Rf c W X->∀d:Int,0<=d->d<(X.IF.length:Int)->d≠c->Sd X d:=λ{X} r d d0 d1 hd=>zzd (r.ag d0 hd) (zzl iW d0 (by rw[<-r.cl];exact d1))
 have sV:∀{X:Q7},Rf c V X->∀d:Int,0<=d->d<(X.IF.length:Int)->d≠c->Sd X d:=λ{X} r d d0 d1 hd=>zzd (r.ag d0 hd) (zzl iV d0 (by rw[<-r.cl];exact d1))
 have hpk:=h.pick;rcases zbd hW qW bW with ⟨hp,e,K,hK,sw⟩|⟨hp,e,⟨K,hK,sw⟩,⟨K2,gP,sw2⟩,hln,hus⟩
 ·rcases zbd hV qV bV with ⟨hp',e',K',hK',sw'⟩|⟨hp',_⟩
  ·rw[e,e'];have r:Rf c W (YtjinkcmkgnofjaaGreatDoor.Rb (RM W c (Jf W c n)) c):=(As W c0 _).trans (zme _ c0);have r':Rf c V (YtjinkcmkgnofjaaGreatDoor.Rb (RM V c (Jf V c n)) c):=(As V c0 _).trans (zme _ c0)
   have key:∀{X:Q7},c<(X.IF.length:Int)->gi (YtjinkcmkgnofjaaGreatDoor.Rb (RM X c (Jf X c n)) c).IF c=Xv (Jf X c n):=λ{X} hx=>by
    have e1:gi (RM X c (Jf X c n)).IF c=Jf X c n:=(QE _ _ c0 hx c0).trans (C' rfl);have hl:(RM X c (Jf X c n)).IF.length=X.IF.length:=E';have:gi (YtjinkcmkgnofjaaGreatDoor.Rb (RM X c (Jf X c n)) c).IF c=Xv (gi (RM X c (Jf X c n)).IF c):=(QE _ _ c0 (by rw[hl];exact hx) c0).trans (C' rfl);rw[this,e1]
   have a:Ag c (YtjinkcmkgnofjaaGreatDoor.Rb (RM W c (Jf W c n)) c) (YtjinkcmkgnofjaaGreatDoor.Rb (RM V c (Jf V c n)) c):=h.of r r' (λt ht=>h.t t (.inl ht)) h.s (by
    rw[key c1,key rR];unfold Jf;rw[h.cp])
   refine⟨BN a sw hK (r.noq qW) sw' hK' (r'.noq qV) c0 (by rw[r.cl];exact c1) (sW r) (sV r'),λk _=>?_⟩;rw[(Ux _).g,(Ux _).g];show (gi W.IE k).sum-_=(gi V.IE k).sum-_;omega
  ·rw[hpk] at hp';exact Ir hp hp'
 ·rcases zbd hV qV bV with ⟨hp',_⟩|⟨hp',e',⟨K',hK',sw'⟩,⟨K2',C38,Cq3⟩,Ch8,Cl8⟩
  ·rw[hpk] at hp';exact Ir hp' hp
  ·rw[e,e'];rw[hpk] at sw' Cq3 Ch8 Cl8 ⊢;generalize Qe W c=p at *;have hc:=hln.R2;have hc':=Ch8.R2;have glW:=iW.wp.a.gl;have glV:=iV.wp.a.gl
   have hl:∀g∈Z7 W p,0<=g/\g<8:=λg hg=>by
    have:=Q5.1 (hus g hg);omega
   have hl':∀g∈Z7 V p,0<=g/\g<8:=λg hg=>by
    have:=Q5.1 (Cl8 g hg);omega
   have htp:Q8 V p=Q8 W p:=h.t p (.inl hc)
   have Ck2:Z7 V p=Z7 W p:=by
    unfold Z7;rw[htp,show QM V.IE (Q8 W p).II=QM W.IE (Q8 W p).II from h.g.path 3 _]
   have mk:∀{X:Q7},GI X->(Q8 X p).R2=c->(∀g∈Z7 X p,0<=g/\g<8)->Rf c X (JU (QI X c p) c p n):=λ{X} q hcx hlx=>by
    have r1:Rf c X (QI X c p):=As X c0 _;have r2:Rf c (QI X c p) (J' (QI X c p) p (P4 (QI X c p) p n)):=z3b hcx hcx;have r12:=r1.trans r2;exact(r12.trans (zq7 c0 n (Z7 (QI X c p) p) (r12.noq q) hlx)).trans (As _ c0 _)
   have r:=mk qW hc hl;have r':=mk qV hc' hl'
   have eT:P4 (QI V c p) p n=P4 (QI W c p) p n:=by
    unfold P4;rw[show Q8 (QI V c p) p=Q8 V p from rfl,show Q8 (QI W c p) p=Q8 W p from rfl,htp]
   have eC:∀{X:Q7},c<(X.IF.length:Int)->gi (JU (QI X c p) c p n).IF c=zgy (QI X c p) c n:=λ{X} hx=>by
    have hlc:(Gl c n (Z7 (QI X c p) p) (J' (QI X c p) p (P4 (QI X c p) p n))).IF.length=X.IF.length:=by
     rw[(zks c n _ _).2];exact E'
    exact(QE _ _ c0 (by rw[hlc];exact hx) c0).trans (C' rfl)
   have eS:∀{X:Q7},c<(X.IF.length:Int)->gi (QI X c p).IF c=ZX X c p:=λ{X} hx=>(QE _ _ c0 hx c0).trans (C' rfl)
   have zC:=zkr (n:=n) c0 (Z7 W p) (W:=J' (QI W c p) p (P4 (QI W c p) p n)) (V:=J' (QI V c p) p (P4 (QI V c p) p n)) (λg hg=>by
    have hu:=hus g hg;exact⟨(hl g hg).1,by show g<((W.IE.length:Nat):Int);have:=(hl g hg).2;omega,by show c<(((gi W.IE g).IH.length:Nat):Int);rw[iW.wp.a.sl hu];exact c1⟩) h.g.len h.sl (λk _=>h.s k)
   have CH0:=zkr (n:=n) c0 (Z7 W p) (W:=J' (QI V c p) p (P4 (QI V c p) p n)) (V:=J' (QI V c p) p (P4 (QI V c p) p n)) (λg hg=>by
    have hu:=hus g hg;exact⟨(hl g hg).1,by show g<((V.IE.length:Nat):Int);have:=(hl g hg).2;omega,by show c<(((gi V.IE g).IH.length:Nat):Int);rw[h.sl,iW.wp.a.sl hu];exact c1⟩) rfl (λ_=>rfl) (λ_ _=>rfl)
   have a:Ag c (JU (QI W c p) c p n) (JU (QI V c p) c p n):=by
    refine h.of r r' (λt ht=>?_) (λk=>?_) ?_
    ·show gi (Gl c n (Z7 (QI V c p) p) _).IJ t=gi (Gl c n (Z7 (QI W c p) p) _).IJ t;rw[(zks c n _ _).1,(zks c n _ _).1,eT];exact zqd h.tl (h.t t (.inl ht)) _
    ·have hk:∀(X:Q7),Qb X k c=Qb X ((k.toNat:Nat):Int) c:=λX=>congrArg (λG:Zb=>gi G.IH c) (H2 X.IE k)
     rw[hk,hk (JU (QI W c p) c p n)];have:=zC.1 ((k.toNat:Nat):Int) Qo;show Qb (Gl c n (Z7 V p) _) _ c=Qb (Gl c n (Z7 W p) _) _ c;rw[Ck2];exact this
    ·rw[eC c1,eC rR];unfold zgy;rw[eS c1,eS rR];unfold ZX;rw[h.cp]
   have DH0:∀k:Int,0<=k->(gi (JU (QI W c p) c p n).IE k).sum-(gi W.IE k).sum=(gi (JU (QI V c p) c p n).IE k).sum-(gi V.IE k).sum:=λk k0=>by
    have h1:=zC.2 k k0;have h2:=CH0.2 k k0;have e1:(gi (JU (QI W c p) c p n).IE k).sum=(gi W.IE k).sum+zwd n k (Z7 W p):=h1
    have e2:(gi (JU (QI V c p) c p n).IE k).sum=(gi V.IE k).sum+zwd n k (Z7 W p):=by
     show (gi (Gl c n (Z7 V p) _).IE k).sum=_;rw[Ck2];exact h2
    rw[e1,e2];omega
   clear zC CH0 eC eS eT mk;generalize JU (QI W c p) c p n=X at *;generalize JU (QI V c p) c p n=Y at *;have f1:=(OL sw hK (r.noq qW) c0 (by rw[r.cl];exact c1) (sW r)).2;have f2:=(OL sw' hK' (r'.noq qV) c0 (by rw[r'.cl];exact rR) (sV r')).2;have a1:=BN a sw hK (r.noq qW) sw' hK' (r'.noq qV) c0 (by rw[r.cl];exact c1) (sW r) (sV r');have r1:=r.trans f1;have r1':=r'.trans f2;refine⟨BN a1 sw2 gP (r1.noq qW) Cq3 C38 (r1'.noq qV) c0 (by rw[r1.cl];exact c1) (sW r1) (sV r1'),λk k0=>?_⟩;rw[(Ux _).g,(Ux _).g,(Ux _).g,(Ux _).g];exact DH0 k k0
end
def za2{α:Type}[Inhabited α]{l m:List α}(h:l.length=m.length)(e:∀d:Int,0<=d->d<(l.length:Int)->gi l d=gi m d):l=m:=by
 refine List.ext_getElem h λi h1 h2=>?_
 have:=e (i:Int) Qo Qo
 rwa[Jq h1,Jq h2] at this
def zxt{A B:Zb}(h:GR A=GR B)(hs:A.sum=B.sum)(hl:A.IH=B.IH):A=B:=by
 cases A;cases B
 simp only[GR,Zb.mk.injEq] at h hs hl ⊢
 simp_all
def zp1{W:Q7}{a b i j:Int}(iv:Xk W)(hq:GI W)(hab:a≠b)(h1:Yl W a i=0)(h2:Yl W b j=0)(h3:Yl (YA W a i) b j=0)(h4:Yl (YA W b j) a i=0):YA (YA W a i) b j=YA (YA W b j) a i:=by
 have hW:Qp W:=Qm.2 iv.wp;have a0:=(MC hW h1).2.2.2.2.c0;have b0:=(MC hW h2).2.2.2.2.c0;have iA:=HL iv h1;have iB:=HL iv h2;have qA:=zl3 hW hq h1;have qB:=zl3 hW hq h2;have rA:=zfa iv hq h1;have rB:=zfa iv hq h2;have rX:=zfa iA qA h3;have rY:=zfa iB qB h4;obtain⟨gX,sX⟩:=zza (rA.ag b0 hab.symm) iv iA hq qA h2 h3;obtain⟨gY,sY⟩:=zza (rB.ag a0 hab) iv iB hq qB h1 h4;generalize YA (YA W a i) b j=X at *;generalize YA (YA W b j) a i=Y at *;generalize YA W a i=A at *;generalize YA W b j=B at *;have gAX:=rX.ag a0 hab;have gBY:=rY.ag b0 hab.symm
 have col:∀d:Int,0<=d->(∀k:Int,Qb X k d=Qb Y k d)/\gi X.IF d=gi Y.IF d:=λd d0=>by
  by_cases da:d=a
  ·subst da;exact⟨λk=>(gAX.s k).trans (gY.s k).symm,gAX.cp.trans gY.cp.symm⟩
  ·by_cases db:d=b
   ·subst db;exact⟨λk=>(gX.s k).trans (gBY.s k).symm,gX.cp.trans gBY.cp.symm⟩
   ·exact⟨λk=>((rX.e k d d0 db).trans (rA.e k d d0 da)).trans ((rY.e k d d0 da).trans (rB.e k d d0 db)).symm,((rX.cp d d0 db).trans (rA.cp d d0 da)).trans ((rY.cp d d0 da).trans (rB.cp d d0 db)).symm⟩
 have tsk:∀t:Int,Q8 X t=Q8 Y t:=λt=>by
  by_cases da:(Q8 W t).R2=a
  ·have eA:(Q8 A t).R2=a:=by rw[rA.tc];exact da
   exact(gAX.t t (.inl eA)).trans (gY.t t (.inl eA)).symm
  ·by_cases db:(Q8 W t).R2=b
   ·have eB:(Q8 B t).R2=b:=by rw[rB.tc];exact db
    exact(gX.t t (.inl eB)).trans (gBY.t t (.inl eB)).symm
   ·exact((rX.t t (by rw[rA.tc];exact db)).trans (rA.t t da)).trans ((rY.t t (by rw[rB.tc];exact da)).trans (rB.t t db)).symm
 have grp:∀k:Int,0<=k->gi X.IE k=gi Y.IE k:=λk k0=>by
  refine zxt (((rX.co k).trans (rA.co k)).trans ((rY.co k).trans (rB.co k)).symm) ?_ ?_
  ·have e1:=sX k k0;have e2:=sY k k0;omega
  ·have hl:(gi X.IE k).IH.length=(gi Y.IE k).IH.length:=((rX.sl k).trans (rA.sl k)).trans ((rY.sl k).trans (rB.sl k)).symm;exact za2 hl λd d0 _=>(col d d0).1 k
 have e1:X.now=Y.now:=(rX.n.trans rA.n).trans (rY.n.trans rB.n).symm;have e2:X.IF=Y.IF:=za2 ((rX.cl.trans rA.cl).trans (rY.cl.trans rB.cl).symm) λd d0 _=>(col d d0).2
 have e3:X.IJ=Y.IJ:=za2 ((rX.tl.trans rA.tl).trans (rY.tl.trans rB.tl).symm) λt _ _=>tsk t
 have e4:X.IE=Y.IE:=za2 ((rX.gl.trans rA.gl).trans (rY.gl.trans rB.gl).symm) λk k0 _=>grp k k0
 cases X;cases Y
 simp only at e1 e2 e3 e4;subst e1 e2 e3 e4;rfl
structure Ei (W:Q7):Prop where
 iv:Xk W
 nq:GI W
 lw:TN 9000000000000000 30000000 W
section
variable {W:Q7}{c d n:Int}
def Ei.w(h:Ei W):Qp W:=Qm.2 h.iv.wp
def zja{K S:Int}(iv:Xk W)(h:TN K S W)(hK:K<=10000000000000000)(hS:S<=40000000)(S0:0<=S):QO W:=h.room iv.wp (by simp only[Qn];omega) (by simp only[Qn];omega) S0
def z1v{K S:Int}(hW:Qp W)(h:TN K S W)(hK:0<=K)(hS:0<=S)(sJ:S<=10000000000000000)(hb:Yl W c n=0):TN (K+80000000000000) (S+200000) (YA W c n):=by
 have hlg:Qi=34686091440:=Qd;have hr:=zd9 400 h hK hS Qo (MC hW hb).2.2.2.2;exact hr.1.mono Qo Qo
def z2c(hr:QO W)(c0:0<=c)(c1:c<(W.IF.length:Int))(n0:1<=n)(n1:n<=100):Yl W c n=if (gi W.IF c).up=false then 6 else 0:=by
 have h1:YT n 1 100:=Qv.2 ⟨n0,n1⟩;have h2:X5 W c:=Qv.2 Qo;unfold Yl;rw[h1,h2,hr];simp
def HU(hW:Qp W)(hr:QO W)(c0:0<=c)(c1:c<(W.IF.length:Int))(n0:1<=n)(n1:n<=100) :
  (gi W.IF c).up=false/\Y7 W (Yl W c n) (YA W c n)=(W,6)\/(gi W.IF c).up/\Yl W c n=0/\Y7 W (Yl W c n) (YA W c n)=(YA W c n,0):=by
 have hb:=z2c hr c0 c1 n0 n1
 cases h:(gi W.IF c).up with
 |false=>
  rw[h,C' rfl] at hb;exact .inl ⟨rfl,by rw[zav hW (by rw[hb];decide),hb]⟩
 |true=>
  rw[h,B' Qd] at hb;exact .inr ⟨rfl,hb,zkj hW hb⟩
def zdg(iv:Xk W):Xk (Y7 W (Yl W c n) (YA W c n)).1:=by
 have hW:Qp W:=Qm.2 iv.wp
 by_cases h:Yl W c n=0
 ·rw[zkj hW h];exact HL iv h
 ·rw[zav hW h];exact iv
end
def zp0{W:Q7}{a b i j:Int}(h:Ei W)(hab:a≠b)(a0:0<=a)(a1:a<(W.IF.length:Int))(b0:0<=b)(b1:b<(W.IF.length:Int))(i0:1<=i)(i1:i<=100)(j0:1<=j)(j1:j<=100){A X B Y:Q7×Int}(hA:A=Y7 W (Yl W a i) (YA W a i))(hX:X=Y7 A.1 (Yl A.1 b j) (YA A.1 b j))(hB:B=Y7 W (Yl W b j) (YA W b j))(hY:Y=Y7 B.1 (Yl B.1 a i) (YA B.1 a i)) :
  A.2=Y.2/\X.2=B.2/\X.1=Y.1:=by
 have hW:=h.w;have rm:=zja h.iv h.lw Qo Qo Qo
 have one:∀{c n:Int},Yl W c n=0->Xk (YA W c n)/\Qp (YA W c n)/\QO (YA W c n)/\Rf c W (YA W c n):=λ{c n} hb=>by
  have iv:=HL h.iv hb;exact⟨iv,Qm.2 iv.wp,zja iv (z1v hW h.lw Qo Qo Qo hb) Qo Qo Qo,zfa h.iv h.nq hb⟩
 rcases HU hW rm a0 a1 i0 i1 with ⟨ua,ea⟩|⟨ua,ka,ea⟩ <;> rcases HU hW rm b0 b1 j0 j1 with ⟨ub,eb⟩|⟨ub,kb,eb⟩
 ·rw[ea] at hA;subst hA;rw[eb] at hX hB;subst hX;subst hB;rw[ea] at hY;subst hY;exact⟨rfl,rfl,rfl⟩
 ·rw[ea] at hA;subst hA;rw[eb] at hX hB;subst hX;subst hB;obtain⟨iB,wB,rB,fB⟩:=one kb;rcases HU wB rB a0 (by rw[fB.cl];exact a1) i0 i1 with ⟨u,e⟩|⟨u,_,_⟩
  ·rw[e] at hY;subst hY;exact⟨rfl,rfl,rfl⟩
  ·rw[fB.cp a a0 hab,ua] at u;cases u
 ·rw[ea] at hA;subst hA;rw[eb] at hB;subst hB;rw[ea] at hY;subst hY;obtain⟨iA,wA,rA,fA⟩:=one ka;rcases HU wA rA b0 (by rw[fA.cl];exact b1) j0 j1 with ⟨u,e⟩|⟨u,_,_⟩
  ·rw[e] at hX;subst hX;exact⟨rfl,rfl,rfl⟩
  ·rw[fA.cp b b0 hab.symm,ub] at u;cases u
 ·rw[ea] at hA;subst hA;rw[eb] at hB;subst hB;obtain⟨iA,wA,rA,fA⟩:=one ka;obtain⟨iB,wB,rB,fB⟩:=one kb;rcases HU wA rA b0 (by rw[fA.cl];exact b1) j0 j1 with ⟨u,e⟩|⟨u,k3,e3⟩
  ·rw[fA.cp b b0 hab.symm,ub] at u;cases u
  ·rcases HU wB rB a0 (by rw[fB.cl];exact a1) i0 i1 with ⟨u,e⟩|⟨u,k4,e4⟩
   ·rw[fB.cp a a0 hab,ua] at u;cases u
   ·rw[e3] at hX;subst hX;rw[e4] at hY;subst hY;exact⟨rfl,rfl,zp1 h.iv h.nq hab ka kb k3 k4⟩
def z5n(W:Q7):Prop:=∃k:Nat,k<W.IE.length/\(gi W.IE (k:Int)).IM.I'>0
section
variable {W:Q7}{m:MW}{w:Wo}{bs:List Nat}
def CT(h:J6 bs w W m)(hl:UV W):PX bs On #[.agg (Qa W m).toArray] w (.bool (Ju (z5n W))):=
 zac _ _ _ _ _ _ _ _ _ _ λwr hx=>by
  have h:=(h.ext hx).less (cs:=[]) Qs;have hg:=hl.g;have hm:=Xu;intro _ _;refine YU W.IE.length 0 rfl (λk=>k<=W.IE.length/\∀j:Nat,j<k->¬(gi W.IE (j:Int)).IM.I'>0) ⟨Ic _,λj hj=>Ir hj (Nat.not_lt_zero j)⟩ λk ⟨hk,hI⟩=>⟨λIV=>?_,λRW=>?_⟩
  ·have IV:=Ot IV;refine⟨h.g.ix Qo IV,_,h.g.quo Qo IV,λg=>zmy ⟨k,Qo,Ot g⟩,λg=>⟨⟨Qo,Qo⟩,?_⟩⟩;have g:=Ou g;refine Qy Qo ⟨Qo,λj hj=>?_⟩
   by_cases e:j=k
   ·subst e;exact g
   ·exact hI j Qo
  ·have RW:=Ou RW;exact Gg λ⟨j,j1,j2⟩=>hI j Qo j2
end
def z4l{W:Q7}(wp:XV W)(h:Ju (z5n W)=false):GI W:=λi i0 i1=>by
 have hn:=Lu.1 h;have cZ:=wp.a.gl;have hq:¬(gi W.IE i).IM.I'>0:=λq=>hn ⟨i.toNat,Qo,by rw[show ((i.toNat:Nat):Int)=i by omega];exact q⟩
 have hp:=wp.a.grp i i0 i1
 by_cases e:(gi W.IE i).IM.I'=0
 ·exact e
 ·exfalso
  cases hu:(gi W.IE i).IW with
  |true=>
   have:=((hp.2 hu).IM e).1.q1;omega
  |false=>
   have:=(hp.1 hu).b;unfold TF at this;simp only[A',Is] at this;exact e this.1.1.1.1
def k_FnEither{a p:OA}{La Ca Lb Cb:Nat}{w:Wo}(ha:GH a La w)(hca:La<=Ca)(hp:GH p Lb w)(_:Lb<=Cb)(hg:MX w) :
  Cz KK #[.slice a La Ca,.slice p Lb Cb] w λe w'=>e=.returned (.bool true)/\Q0 [] w w':=by
 refine(Cw a La Ca p Lb Cb (R:=λv w'=>v=.bool true/\Q0 [] w w') ?_).mono λe w' ⟨v,he,hv,h3⟩=>⟨by rw[he,hv],h3⟩
 obtain⟨f,hf⟩:=z3m hp;refine⟨λ_ wr hx=>⟨rfl,hx⟩,λ_ R6 Sn _=>?_⟩;refine(Nr z6w (ha.ext Sn) hca).mono ?_;rintro e wv ⟨W0,m0,he,⟨iv0,lw0⟩,hM0,Rg⟩;have hX0:Q0 [] w wv:=Sn.trans Rg;have r0:J6 [] wv W0 m0:=hM0.rd Qs;have s0:=Sc.start wv;have o0:OW 8 R6.heap.size [] wv W0 m0:=OW.of hM0 Qs;refine⟨_,_,_,_,_,_,_,_,_,_,he,Xj,λb hb=>⟨λvs bs w2=>bs=[]/\∃(W:Q7) (m:MW) (base:Nat),vs=Qa W m/\Ei W/\OW 8 base [b] w2 W m/\Sc wv [b] w2,⟨_,CT r0 iv0.len,λq R7 hxb We=>?_,λq RN W8 dX=>?_⟩,?_⟩⟩
 ·have s1:=s0.put hxb hb;refine(zdy ((ha.ext hX0).ext s1.ext) hca).mono ?_;rintro e1 Rc ⟨W,m,qC,⟨cr,lw⟩,hM,hy⟩;have s2:=s1.R5 hy;exact⟨_,_,_,_,_,_,_,_,_,_,qC,Qg hy We,λRD Rl _=>⟨rfl,W,m,_,rfl,⟨cr.iv,cr.nq,(lw Qo).1.mono Qo Qo⟩,(OW.of hM We).step Rl,s2.step Rl⟩⟩
 ·rw[H'] at q;exact⟨rfl,W0,m0,_,rfl,⟨iv0,z4l iv0.wp q.1,lw0.1.mono Qo Qo⟩,o0.put W8 hb,s0.put W8 hb⟩
 clear he hM0 r0 o0 iv0 lw0 s0 hb Rg Sn;clear W0 m0;rintro l RA Rz RQ RF RL RP RG RH RJ RO hs ⟨-,W,m,base,hv,ei,o,s⟩;simp only[Qa,I4,I5,Iv,true_and,and_true] at hv;obtain⟨rfl,⟨rfl,rfl,rfl⟩,⟨rfl,rfl,rfl⟩,rfl,rfl,rfl⟩:=hv;have iv:=ei.iv;have hW:=ei.w;have hl:=iv.len;have hc1:=iv.wp.a.c1;have hG:∀{bs:List Nat} {w':Wo},Sc wv bs w'->MX w':=λs=>hg.ext (hX0.trans s.ext)
 have hB:ztt [b] RO p Lb f:=((hf.ext hX0).more (cs:=[b]) s.new).ext s.ext.of_nil;have hi0:=zwt hf (show (0:Int)<=0 by decide);have hi1:=zwt hf (show (0:Int)<=1 by decide);have hi2:=zwt hf (show (0:Int)<=2 by decide);obtain⟨a0,a1⟩:=zto hi0.1 (show (0:Int)<((W.IF.length:Nat):Int) by omega);have n1:=zto hi1.1 (show (0:Int)<100 by decide);have n2:=zto hi2.1 (show (0:Int)<100 by decide);have hc2:=iv.wp.a.c2;obtain⟨b0,b1⟩:=zto (show 0<=Int.tmod (bD Lb f 0) ((W.IF.length:Nat):Int)+1 by omega) (show (0:Int)<((W.IF.length:Nat):Int) by omega);refine⟨bD Lb f 0,Kw hB Qo Qo,Qo,⟨Qo,Qo⟩,Qo,bD Lb f 1,Kw hB Qo Qo,Qd,⟨Qo,Qo⟩,bD Lb f 2,Kw hB Qo Qo,Qd,⟨Qo,Qo⟩,?_⟩;generalize Int.tmod (Int.tmod (bD Lb f 0) ((W.IF.length:Nat):Int)+1) ((W.IF.length:Nat):Int)=d at b0 b1 ⊢;generalize Int.tmod (bD Lb f 0) ((W.IF.length:Nat):Int)=c at a0 a1 ⊢;have i0:1<=1+Int.tmod (bD Lb f 1) 100/\1+Int.tmod (bD Lb f 1) 100<=100:=Qo;have j0:1<=1+Int.tmod (bD Lb f 2) 100/\1+Int.tmod (bD Lb f 2) 100<=100:=Qo;generalize 1+Int.tmod (bD Lb f 1) 100=i at i0 ⊢;generalize 1+Int.tmod (bD Lb f 2) 100=j at j0 ⊢;clear hi0 hi1 hi2 n1 n2 hB;intro S5 Sx gQ;have s5:=s.step Sx;have o5:=o.step Sx;have iA:Xk (Y7 W (Yl W c i) (YA W c i)).1:=zdg iv;have iB:Xk (Y7 W (Yl W d j) (YA W d j)).1:=zdg iv;have law:=λhcd:c≠d=>zp0 ei hcd a0 a1 b0 b1 i0.1 i0.2 j0.1 j0.2 rfl rfl rfl rfl
 refine(Vs (c:=c) (n:=i) o5.rd0 hl (hG s5)).mono ?_;rintro e2 Si ⟨v,bS,nA,mA,hv,hA,dY⟩;subst hv;have s6:=s5.R5 dY;have o6:=o5.R5 dY;have A6:=OW.of hA gQ;generalize eA:Y7 W (Yl W c i) (YA W c i)=A at *;refine⟨_,_,_,_,_,_,_,_,_,_,_,bS,Qg dY gQ,λb1 dG Su bM hs6=>?_⟩;have s7:=s6.put bM dG;have o7:=o6.put bM dG;have A7:=A6.put bM dG;refine(Vs (c:=d) (n:=j) A7.rd0 iA.len (hG s7)).mono ?_;rintro e3 bZ ⟨v,gZ,nX,mX,hv,hX,SX⟩;subst hv;have s8:=s7.R5 SX;have o8:=o7.R5 SX;have X8:=OW.of hX hs6;have iX:Xk (Y7 A.1 (Yl A.1 d j) (YA A.1 d j)).1:=zdg iA;refine⟨_,_,_,_,_,_,_,_,_,_,_,gZ,Qg SX hs6,λSA gL hs7=>?_⟩;have s9:=s8.step gL;have o9:=o8.step gL;have X9:=X8.step gL;refine(Vs (c:=d) (n:=j) o9.rd0 hl (hG s9)).mono ?_;rintro e4 eD ⟨v,he4,nB,mB,hv,dW,fU⟩;subst hv;have s10:=s9.R5 fU;have o10:=o9.R5 fU;have X10:=X9.R5 fU;have B10:=OW.of dW hs7;generalize Y7 W (Yl W d j) (YA W d j)=B at *;refine⟨_,_,_,_,_,_,_,_,_,_,_,he4,Qg fU hs7,λb2 cH SY vF hs8=>?_⟩;have s11:=s10.put vF cH;have o11:=o10.put vF cH;have X11:=X10.put vF cH;have B11:=B10.put vF cH;refine(Vs (c:=c) (n:=i) B11.rd0 iB.len (hG s11)).mono ?_;rintro e5 gB ⟨v,he5,nY,mY,hv,tV,jX⟩;subst hv;have s12:=s11.R5 jX;have o12:=o11.R5 jX;have X12:=X11.R5 jX;have Y12:=OW.of tV hs8;refine⟨_,_,_,_,_,_,_,_,_,_,_,he5,Qg jX hs8,λq WK qU=>⟨rfl,hX0.trans (s12.step qU).ext⟩,λq Sl zH sA=>?_⟩;have law:=law (λe=>by rw[e] at q;simp at q);generalize eX:Y7 A.1 (Yl A.1 d j) (YA A.1 d j)=X at *;generalize Y7 B.1 (Yl B.1 c i) (YA B.1 c i)=Y at *
 have s13:=s12.step zH;have o13:=o12.step zH;have X13:=X12.step zH;have Y13:=Y12.step zH;have kI:=Vt (c:=c) (n:=i) o13.rd0 hl;rw[eA] at kI;refine kI.mono ?_;rintro e6 fS ⟨v,he6,nP,mP,hv,pY,hy5⟩;subst hv;have s14:=s13.R5 hy5;have X14:=X13.R5 hy5;have Y14:=Y13.R5 hy5;have P14:=OW.of pY sA;refine⟨_,_,_,_,_,_,_,_,_,_,_,he6,Qg hy5 sA,λb3 wM Sm wQ AD3=>?_⟩;have s15:=s14.put wQ wM;have X15:=X14.put wQ wM;have Y15:=Y14.put wQ wM;have P15:=P14.put wQ wM;have kJ:=Vt (c:=d) (n:=j) P15.rd0 iA.len;rw[eX] at kJ;refine kJ.mono ?_;rintro e7 jQ ⟨v,he7,nQ,mQ,hv,rU,hy6⟩;subst hv;have s16:=s15.R5 hy6;have X16:=X15.R5 hy6;have Y16:=Y15.R5 hy6;have Q16:=OW.of rU AD3;obtain⟨q1,q2,q3⟩:=law;rw[<-q3] at Y16;refine⟨_,_,_,_,_,_,_,_,_,_,_,he7,Qg hy6 AD3,true,λ_=>?_,true,λ_=>?_,λSy AD5=>⟨?_,hX0.trans (s16.step AD5).ext⟩⟩
 ·rw[<-q3];exact DF X16.rd Y16.rd (zxh iX.wp.a)
 ·exact DF X16.rd Q16.rd (zxh iX.wp.a)
 ·rw[q1,q2];simp
end Go.Proofs.YtjinkcmkgnofjaaGreatDoor
