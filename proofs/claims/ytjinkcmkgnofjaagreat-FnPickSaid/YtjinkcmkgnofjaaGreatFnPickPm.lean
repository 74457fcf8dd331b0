/- Part 13 of what the law FnPick needs. -/
import Derived.Test.YtjinkcmkgnofjaaGreatFnPickPl
set_option linter.all false
set_option maxRecDepth 100000
set_option maxHeartbeats 8000000
namespace Go.Proofs.YtjinkcmkgnofjaaGreat
open Go.RowKit
def zux{P:Nat->Q7->Prop}(hP:Pf P){rb:Nat}{c:OA}{L N:Nat}{w:Wo}{items:Int}(h:JR rb c L N w)(hN:N<=700000000000)(hi:items<=27) :
  Cz UR #[.pointer (some ⟨rb,0,none⟩),I items] w λe w'=>∃(W:Q7) (m:MW),e=.returned (.agg (Qa W m).toArray)/\(J4 W/\P 1000 W)/\Yn 8 w.heap.size w' W m/\JR rb c L (N+1000) w'/\Q0 [rb] w w'/\∀x∈QS 8 m,x≠rb:=by
 refine(HI (some ⟨rb,0,none⟩) items (R:=λv w'=>∃(W:Q7) (m:MW),v=.agg (Qa W m).toArray/\(J4 W/\P 1000 W)/\Yn 8 w.heap.size w' W m/\JR rb c L (N+1000) w'/\Q0 [rb] w w'/\∀x∈QS 8 m,x≠rb) ?_).mono λe w' ⟨v,he,W,m,hv,h3⟩=>⟨W,m,by rw[he,hv],h3⟩
 intro b hb b1 fI wr hx hs;refine(Dr.pick ((Dr.start h).sJ hx hb fI) Qo hs).mono ?_;rintro e w1 ⟨v,he,hk,⟨p0,_,p2⟩,h1⟩;have p2:=p2 Qd;refine⟨_,he,hk,⟨Qo,Qo⟩,zxc (lo:=1) (hi:=4) Qd rfl Qo Qo λx x1 x4 wr hx hs=>?_⟩;obtain⟨q,rfl⟩:∃q:Nat,x=(q:Int):=⟨x.toNat,Qo⟩;have h2:=h1.step hx;refine(BG (n:=q) Qo Qo).mono ?_;rintro e2 w2 ⟨m,bS,hM,Wb⟩
 have cA:∀x∈rb::[b,b1],x<wr.heap.size:=λx hm=>by
  rcases Ik.1 hm with h1|h1
  ·rw[h1];exact h2.r.rd.lt
  ·exact hs x h1
 have hK:XC P rb c L N 1 [b,b1] w w2 (JB q) m:=⟨zr9 Qo Qo,hP.new Qo Qo,⟨h2.r.RJ Wb,h2.ext.trans Wb.of_nil,h2.new⟩,(OW.of hM cA).mono h2.ext.size⟩;refine⟨_,_,_,_,_,_,_,_,_,_,_,bS,Qf Wb hs,λb2 cA wr hx hs=>?_⟩;refine((hK.put hx cA).pick hP Qo hs).mono ?_;rintro e3 w3 ⟨v1,jM,yX,⟨p10,_,p12⟩,hK1⟩;have p12:=p12 Qd;refine⟨_,jM,yX,?_⟩;refine⟨λvs w2=>∃(k n:Nat) (W:Q7) (m:MW),vs=I (k:Int)::Qa W m/\(k:Int)<=v1/\n<=2+2*k/\XC P rb c L N n [b,b1,b2] w w2 W m,Zk v1.toNat 0,λwr hx _=>⟨0,2,JB q,m,rfl,p10,Qo,hK1.step hx⟩,?_⟩;clear hK1 yX jM hs hx hM hK bS Wb h1 h2 he hk;rintro i1 l Sd Sm Sr Sj So Sq Se Sf Sg wv hs ⟨k,n,W,m,he,hk,hn,hK⟩;simp only[Qa,I6,I7,Iy,true_and,and_true] at he;obtain⟨rfl,rfl,⟨rfl,rfl,rfl⟩,⟨rfl,rfl,rfl⟩,rfl,rfl,rfl⟩:=he;refine⟨λIX=>?_,λRX wr hx hs=>?_⟩
 ·have IX:=Ot IX
  repeat' first
   |exact rfl
   |(refine And.intro ?_ ?_)
   |(refine zuf Qd rfl Qo Qo λx=>?_)
   |(refine zw3 Qd rfl Qo Qo λx=>?_)
   |(intro (b:Nat) hb)
   |(intro (wr:Wo) hx hs;refine(XC.pick hP (XC.step (by assumption) hx) ?_ hs).mono ?_;rotate_left;rintro e w2 ⟨v,he,hk,⟨hp0,_,n'⟩,hC⟩;have n':=n' Qd;refine⟨_,he,hk,?_⟩)
   |(intro (wr:Wo) hx hs;refine(XC.pick hP (XC.put (by assumption) hx (by assumption)) ?_ hs).mono ?_;rotate_left;rintro e w2 ⟨v,he,hk,⟨hp0,_,n'⟩,hC⟩;have n':=n' Qd;refine⟨_,he,hk,?_⟩)
   |(intro (wr:Wo) hx hs;refine(XC.pick hP (XC.sJ (by assumption) hx (by assumption) (by assumption)) ?_ hs).mono ?_;rotate_left;rintro e w2 ⟨v,he,hk,⟨hp0,_,n'⟩,hC⟩;have n':=n' Qd;refine⟨_,he,hk,?_⟩)
   |(intro (wr:Wo) hx hs;refine(XC.mak hP (XC.step (by assumption) hx) hs).mono ?_;rintro e w2 ⟨W',m',a,d,he,hk,hC⟩;refine⟨_,_,_,_,_,_,_,_,_,_,_,_,he,hk,⟨Qo,Qo⟩,λwr hx _=>⟨⟨k+1,n+2,W',m',by simp[Qa],Qo,Qo,((hC.step hx).more hP Qo).sub Qs⟩,QJ (k:=k) rfl rfl Qo⟩⟩)
   |(intro (wr:Wo) hx hs;refine(XC.mak hP (XC.put (by assumption) hx (by assumption)) hs).mono ?_;rintro e w2 ⟨W',m',a,d,he,hk,hC⟩;refine⟨_,_,_,_,_,_,_,_,_,_,_,_,he,hk,⟨Qo,Qo⟩,λwr hx _=>⟨⟨k+1,n+2,W',m',by simp[Qa],Qo,Qo,((hC.step hx).more hP Qo).sub Qs⟩,QJ (k:=k) rfl rfl Qo⟩⟩)
   |(intro (wr:Wo) hx hs;refine(XC.mak hP (XC.sJ (by assumption) hx (by assumption) (by assumption)) hs).mono ?_;rintro e w2 ⟨W',m',a,d,he,hk,hC⟩;refine⟨_,_,_,_,_,_,_,_,_,_,_,_,he,hk,⟨Qo,Qo⟩,λwr hx _=>⟨⟨k+1,n+2,W',m',by simp[Qa],Qo,Qo,((hC.step hx).more hP Qo).sub Qs⟩,QJ (k:=k) rfl rfl Qo⟩⟩)
   |omega
 refine((hK.step hx).pick hP Qo hs).mono ?_;rintro e4 w4 ⟨v3,he4,hk4,⟨p30,_,p32⟩,hC6⟩;have p32:=p32 Qd;refine⟨_,he4,hk4,⟨Qo,Qo⟩,?_⟩;refine⟨λvs w2=>∃(k n:Nat) (W:Q7) (m:MW),vs=I (k:Int)::Qa W m/\(k:Int)<=1+v3/\n<=20+3*k/\XC P rb c L N n [b,b1,b2] w w2 W m,Zk (1+v3).toNat 0,λU' rD _=>⟨0,n+1,W,m,rfl,Qo,Qo,hC6.step rD⟩,?_⟩;clear hK hC6 hk4 he4 hs hx RX hk hn;clear W m n k;rintro i3 l4 mN jH mM mG oM mF kP nO mO wv hs ⟨k,n,W,m,he,hk,hn,hK⟩;simp only[Qa,I6,I7,Iy,true_and,and_true] at he;obtain⟨rfl,rfl,⟨rfl,rfl,rfl⟩,⟨rfl,rfl,rfl⟩,rfl,rfl,rfl⟩:=he;refine⟨λIX wr hx hs=>?_,λRX=>?_⟩
 ·have IX:=Ot IX;refine((hK.step hx).pick hP Qo hs).mono ?_;rintro e5 w5 ⟨v5,he5,hk5,_,hC5⟩;refine⟨_,he5,hk5,rfl,λwr hx hs=>?_⟩;refine((hC5.step hx).R2 hP Qo hs).mono ?_;rintro e6 w6 ⟨v6,he6,hk6,_,hC6⟩;refine⟨_,he6,hk6,rfl,_,VB,_,J2,ztv _,λwr hx hs=>?_⟩;refine((hC6.step hx).fork hP hs).mono ?_;rintro e7 w7 ⟨W7,m7,a,d,he7,hk7,hC7⟩;exact⟨_,_,_,_,_,_,_,_,_,_,_,_,he7,hk7,⟨Qo,Qo⟩,λwr hx _=>⟨⟨k+1,n+1+2,W7,m7,by simp[Qa],Qo,Qo,hC7.step hx⟩,QJ (k:=k) rfl rfl Qo⟩⟩
 ·have RX:=Ou RX;refine⟨λvs w2=>∃(k n:Nat) (W:Q7) (m:MW),vs=I (k:Int)::Qa W m/\k<=27/\n<=60+30*k/\XC P rb c L N n [b,b1,b2] w w2 W m,Zk 27 0,λU' rD _=>⟨0,n,W,m,rfl,Qo,Qo,hK.step rD⟩,?_⟩;clear hK hs;rintro i5 l8 yT l9L l9C A40 A39 A38 nM nL nK wv hs ⟨k,n,W,m,he,hk,hn,hK⟩;simp only[Qa,I6,I7,Iy,true_and,and_true] at he;obtain⟨rfl,rfl,⟨rfl,rfl,rfl⟩,⟨rfl,rfl,rfl⟩,rfl,rfl,rfl⟩:=he;refine⟨λIX wr hx hs=>?_,λRX wr hx=>⟨W,m,rfl,(hK.step hx).fin hP Qo⟩⟩;have IX:=Ot IX;refine((hK.step hx).item hP Qo hs (V:=W) (p:=m)).mono ?_;rintro e5 w5 ⟨k5,a5,q5,r5,s5,he5,hk5,hC5⟩;refine⟨_,_,_,_,_,he5,hk5,rfl,λwr hx hs=>?_⟩;refine((hC5.step hx).do hP Qo hs).mono ?_;rintro e6 w6 ⟨W6,m6,d,he6,hk6,hC6⟩;exact⟨_,_,_,_,_,_,_,_,_,_,_,he6,hk6,⟨Qo,Qo⟩,λwr hx _=>⟨⟨k+1,n+20+10,W6,m6,by simp[Qa],Qo,Qo,hC6.step hx⟩,QJ (k:=k) rfl rfl Qo⟩⟩
def zwh:Tryz.prog.underlying ty_sl_uint8=some (.slice TQ):=Qk
def zwg:Tryz.prog.underlying TQ=some (.int .u8):=Qk
def zwi:Tryz.prog.underlying Zx=some .string:=Qk
def XC.Bm7{P:Nat->Q7->Prop}(hP:Pf P){rb:Nat}{c:OA}{L N n k:Nat}{bs:List Nat}{w0 w w':Wo}{W:Q7}{m:MW}(d:Dr rb c L N n bs w0 w)(hs:∀x∈bs,x<w.heap.size)(iv:J4 W/\P k W)(hM:Yn 8 w.heap.size w' W m)(hr:JR rb c L (N+n+k) w')(hx:Q0 [rb] w w')(fJ:∀x∈QS 8 m,x≠rb):XC P rb c L N (n+k) bs w0 w' W m:=
 ⟨iv.1,hP.mono Qo iv.2,⟨d.r.upd (by rw[<-Nat.add_assoc];exact hr),d.ext.trans hx,d.new⟩,⟨hM.mono d.ext.size,λx SD hm=>by
  rcases Ik.1 hm with h1|h1
  ·exact fJ x SD h1
  ·have:=(hM.lt x SD).1;have:=hs x h1;omega⟩⟩
def zsk{P:Nat->Q7->Prop}(hP:Pf P){rb:Nat}{c:OA}{L N:Nat}{w:Wo}(h:JR rb c L N w)(hN:N<=600000000000) :
  Cz Ud #[.pointer (some ⟨rb,0,none⟩)] w λe w'=>∃(W:Q7) (m:MW),e=.returned (.agg (Qa W m).toArray)/\(J4 W/\P 1100 W)/\Yn 8 w.heap.size w' W m/\JR rb c L (N+1100) w'/\Q0 [rb] w w'/\∀x∈QS 8 m,x≠rb:=by
 refine(Gx (some ⟨rb,0,none⟩) (R:=λv w'=>∃(W:Q7) (m:MW),v=.agg (Qa W m).toArray/\(J4 W/\P 1100 W)/\Yn 8 w.heap.size w' W m/\JR rb c L (N+1100) w'/\Q0 [rb] w w'/\∀x∈QS 8 m,x≠rb) ?_).mono λe w' ⟨v,he,W,m,hv,h3⟩=>⟨W,m,by rw[he,hv],h3⟩
 intro b hb wr hx hs;refine(Dr.pick ((Dr.start h).put hx hb) Qo hs).mono ?_;rintro e w1 ⟨v,he,hk,⟨p0,_,p2⟩,h1⟩;have p2:=p2 Qd;refine⟨_,he,hk,λwr hx hs=>?_⟩;have h2:=h1.step hx;refine(zux hP h2.r.rd Qo (items:=v) Qo).mono ?_;rintro e2 w2 ⟨W,m,bS,iv,hM,hr,hxp,fJ⟩;have hK:=XC.Bm7 hP h2 hs iv hM hr hxp fJ;refine⟨_,_,_,_,_,_,_,_,_,_,bS,OZ h2.r hxp hs,λb1 fI wr hx hs=>?_⟩;refine((hK.put hx fI).pick hP Qo hs).mono ?_;rintro e3 w3 ⟨v3,jM,yX,_,nG⟩;refine⟨_,jM,yX,λ_=>?_,λ_ wr hx=>⟨W,m,rfl,(nG.step hx).fin hP Qo⟩⟩;refine⟨λvs w2=>∃(k:Nat) (W:Q7) (m:MW),vs=I (k:Int)::Qa W m/\k<=12/\XC P rb c L N (0+1+1000+1) [b,b1] w w2 W m,Zk 12 0,λwr hx _=>⟨0,W,m,rfl,Qo,nG.step hx⟩,?_⟩;clear nG hK hM iv fJ hr hxp bS yX jM h2 h1 hs hx;rintro i1 l Sd Sm Sr Sj So Sq Se Sf Sg wv hs ⟨k,W,m,he,hk,hK⟩;simp only[Qa,I6,I7,Iy,true_and,and_true] at he;obtain⟨rfl,rfl,⟨rfl,rfl,rfl⟩,⟨rfl,rfl,rfl⟩,rfl,rfl,rfl⟩:=he;refine⟨λIX wr hx hs=>?_,λRX=>?_⟩
 ·have IX:=Ot IX;refine((hK.step hx).fork hP hs).mono ?_;rintro e7 w7 ⟨W7,m7,a,d,he7,hk7,hC7⟩;exact⟨_,_,_,_,_,_,_,_,_,_,_,_,he7,hk7,⟨Qo,Qo⟩,λwr hx _=>⟨⟨k+1,W7,m7,by simp[Qa],Qo,hC7.step hx⟩,QJ (k:=k) rfl rfl Qo⟩⟩
 refine⟨λvs w2=>∃(k:Nat) (W:Q7) (m:MW),vs=I (k:Int)::Qa W m/\k<=8/\XC P rb c L N (0+1+1000+1) [b,b1] w w2 W m,Zk 8 0,λwr hx _=>⟨0,W,m,rfl,Qo,hK.step hx⟩,?_⟩;clear hK hs;rintro i3 l4 mN jH mM mG oM mF kP nO mO wv hs ⟨k,W,m,he,hk,hK⟩;simp only[Qa,I6,I7,Iy,true_and,and_true] at he;obtain⟨rfl,rfl,⟨rfl,rfl,rfl⟩,⟨rfl,rfl,rfl⟩,rfl,rfl,rfl⟩:=he;refine⟨λIX=>⟨⟨Qo,Qo⟩,⟨by have:=Ot IX;show (0:Int)<=_;omega,by have:=Ot IX;show _<=(255:Int);omega⟩,λb3 wb hxb oA hh hn wr hx hs=>?_⟩,λ_ wr hx=>⟨W,m,rfl,(hK.step hx).fin hP Qo⟩⟩;have IX:=Ot IX;have hK1:=(hK.step hxb).step hx
 have hh2:wr.heap[b3]? = some (Obj.cells ([.int .u8 (48+(k:Int))]:List Va).toArray TQ (0,0)):=by
  rw[hx.block b3 (VV hh) hn];exact hh
 have hc:=run_convert_bytes_arg wr ty_sl_uint8 TQ zwh zwg b3 0 1 1 [48+(k:Int)] rfl (λi hi=>by
  have:i=0:=Qo;subst this;rw[PN hh2];rfl) Zx zwi
 refine⟨_,wr,hc,λ_ _=>rfl,?_,λRg Rt Wg=>?_⟩
 ·have e1:(strOfNums [48+(k:Int)]).size=1:=rfl;rw[e1];decide
 refine((hK1.step Rt).mak hP Wg).mono ?_;rintro e7 w7 ⟨W7,m7,a,d,he7,hk7,hC7⟩;exact⟨_,_,_,_,_,_,_,_,_,_,_,_,he7,hk7,⟨Qo,Qo⟩,λwr hx _=>⟨⟨k+1,W7,m7,by simp[Qa],Qo,hC7.step hx⟩,QJ (k:=k) rfl rfl Qo⟩⟩
structure Cl (W V:Q7):Prop where
 n:V.now=W.now
 c:V.IF=W.IF
 t:V.IK.length=W.IK.length
 g:V.IE.length=W.IE.length
 e:∀i:Int,0<=i->i<8->∃ss:List MK,gi V.IE i={ gi W.IE i with IH:=ss }/\ss.length=(gi W.IE i).IH.length
def Cl.refl(W:Q7):Cl W W:=⟨rfl,rfl,rfl,rfl,λi _ _=>⟨_,rfl,rfl⟩⟩
def Cl.enc{W V:Q7}(h:Cl W V)(m:MW):Qa V m=Qa W m:=by simp[Qa,h.n,h.c,h.t,h.g]
def Cl.len{W V:Q7}(h:Cl W V)(hl:Xk W)(h8:W.IE.length=8):Xk V:=by
 refine⟨by rw[h.c];exact hl.c,by rw[h.t];exact hl.t,by rw[h.g];exact hl.g,λi a b=>?_⟩;rw[h.g] at b;obtain⟨ss,e,l⟩:=h.e i a Qo;have hf:=hl.f i a b;rw[e];exact⟨hf.nm,hf.nx,hf.lo,hf.dr,by show ss.length<=_;rw[l];exact hf.sh⟩
structure Lt (base:Nat) (bs:List Nat) (w0 w:Wo) (W V:Q7) (m:MW):Prop where
 cl:Cl W V
 o:OW 8 base bs w V m
 ext:Q0 (QS 8 m) w0 w
 new:∀x∈bs,w0.heap.size<=x
section
variable {base:Nat}{bs:List Nat}{w0 w w':Wo}{W V V':Q7}{m:MW}
def Lt.step(h:Lt base bs w0 w W V m)(hx:Q0 bs w w'):Lt base bs w0 w' W V m:=⟨h.cl,h.o.step hx,h.ext.fresh hx λx hm=>.inl (h.new x hm),h.new⟩
def Lt.RN(h:Lt base bs w0 w W V m)(hc:Cl W V')(hM:Yn 8 base w' V' m)(hx:Q0 (QS 8 m) w w'):Lt base bs w0 w' W V' m:=⟨hc,⟨hM,h.o.nb⟩,h.ext.trans hx,h.new⟩
def zuv(h:Yn 8 base w W m)(iv:J4 W) :
  Cz O5 #[.agg (Qa W m).toArray] w λe w'=>∃V:Q7,e=.returned (.agg (Qa V m).toArray)/\Xk V/\Yn 8 base w' V m/\Q0 (QS 8 m) w w':=by
 refine(Aa _ _ _ _ _ _ _ _ _ _ (R:=λv w'=>∃V:Q7,v=.agg (Qa V m).toArray/\Xk V/\Yn 8 base w' V m/\Q0 (QS 8 m) w w') ?_).mono λe w' ⟨v,he,V,hv,h3⟩=>⟨V,by rw[he,hv],h3⟩
 intro b hb b1 fI;have cN:=iv.wp.a.gl;have lB:=iv.wp.a.t
 have rU:∀x∈[b,b1],w.heap.size<=x:=by
  intro x hx;simp at hx;omega
 have h0:Lt base [b,b1] w w W W m:=⟨Cl.refl W,⟨h,λx hx hm=>by
  have:=(h.lt x hx).2;have:=rU x hm;omega⟩,Q0.refl _ _,rU⟩
 refine⟨λvs w2=>∃(k:Nat) (V:Q7),vs=[I (k:Int)]/\k<=12/\Lt base [b,b1] w w2 W V m/\V.IE=W.IE/\∀j:Int,(k:Int)<=j->j<12->Q8 V j=Q8 W j,Zk 12 0,λwr hx _=>⟨0,W,rfl,Qo,h0.step hx.of_nil,rfl,λ_ _ _=>rfl⟩,?_⟩;clear h0;rintro t wv hs ⟨k,V,he,hk,hL,hg,ht⟩;simp only[I6,I7,true_and,and_true] at he;subst he;have hVt:V.IK.length=12:=by rw[hL.cl.t];exact lB
 refine⟨λIX=>?_,λRX=>?_⟩
 ·have IX:=Ot IX;have k0:(0:Int)<=(k:Int):=Qo;have k1:(k:Int)<(V.IK.length:Int):=Qo
  have ix:Ix m.tO W.IK.length (k:Int):=by
   have:=hL.o.rd.t.ix QF k0 k1
   rwa[hL.cl.t] at this
  have hv:0<=(Q8 V (k:Int)).v/\(Q8 V (k:Int)).v<=100000000000000000:=by
   rw[ht _ (I4 _) Qo];rcases iv.wp.t (k:Int) k0 Qo with hz|⟨_,hx⟩
   ·rw[hz.2];decide
   ·exact Y2.1 hx.v
  refine⟨ix,_,hL.o.rd.t.f k0 k1 (j:=0) rfl,λ_=>⟨ix,_,hL.o.rd.t.f k0 k1 (j:=5) rfl,⟨by show _<=(Q8 V (k:Int)).v+_;omega,by show (Q8 V (k:Int)).v+_<=_;omega⟩,ix,zfy hL.o.own hL.o.nb k0 k1 (j:=5) Qd,⟨Qo,Qo⟩,λwr hx _=>⟨⟨k+1,I' V (k:Int) { Q8 V (k:Int) with v:=(Q8 V (k:Int)).v+50000000000000001 },Qs,Qo,?_,hg,λj a c=>?_⟩,QJ (k:=k) rfl rfl Qo⟩⟩,λ_=>⟨⟨Qo,Qo⟩,λwr hx _=>⟨⟨k+1,V,Qs,Qo,hL.step hx,hg,λj a c=>ht j Qo c⟩,QJ (k:=k) rfl rfl Qo⟩⟩⟩
  ·refine(hL.RN (V':=I' V (k:Int) { Q8 V (k:Int) with v:=(Q8 V (k:Int)).v+50000000000000001 }) ⟨hL.cl.n,hL.cl.c,by show (List.set _ _ _).length=_;rw[I0];exact hL.cl.t,hL.cl.g,hL.cl.e⟩ (hL.o.own.AC1 k0 k1 (j:=5) (vs:=[I ((Q8 V (k:Int)).v+50000000000000001)]) (x:={ Q8 V (k:Int) with v:=(Q8 V (k:Int)).v+50000000000000001 }) rfl (by show 5+1<=9;decide)) LK).step hx
  ·rw[show Q8 (I' V (k:Int) { Q8 V (k:Int) with v:=(Q8 V (k:Int)).v+50000000000000001 }) j=_ from (QD V.IK { Q8 V (k:Int) with v:=(Q8 V (k:Int)).v+50000000000000001 } k0 k1 (j:=j) Qo),E' Qo];exact ht j Qo c
 have RX:=Ou RX;refine⟨λvs w2=>∃(k:Nat) (V:Q7),vs=[I (k:Int)]/\k<=8/\Lt base [b,b1] w w2 W V m/\∀j:Int,(k:Int)<=j->j<8->gi V.IE j=gi W.IE j,Zk 8 0,λwr hx _=>⟨0,V,rfl,Qo,hL.step hx,λj _ _=>by rw[hg]⟩,?_⟩;clear hL hg ht hs hVt;rintro k' RF gZ ⟨k2,V,he,uB,hL,hg⟩;simp only[I6,I7,true_and,and_true] at he;subst he;refine⟨λIX=>?_,λdA wr hx=>?_⟩
 rotate_left
 ·have hK:=hL.step hx;exact⟨V,by rw[hK.cl.enc];rfl,hK.cl.len iv.len cN,hK.o.own,hK.ext⟩
 have IX:=Ot IX;have k0:(0:Int)<=(k2:Int):=Qo;have k8:(k2:Int)<8:=Qo;have DD0:=(Hx iv.wp.a k0 k8).2.2;refine⟨λvs w2=>∃(c:Nat) (V:Q7),vs=[I (c:Int)]/\c<=(gi W.IE (k2:Int)).IH.length/\Lt base [b,b1] w w2 W V m/\(∀j:Int,(k2:Int)<j->j<8->gi V.IE j=gi W.IE j)/\∀d:Int,(c:Int)<=d->Qb V (k2:Int) d=Qb W (k2:Int) d,Zk 4 0,λwr hx _=>⟨0,V,rfl,Qo,hL.step hx,λj a c=>hg j Qo c,λd _=>by unfold Qb;rw[hg _ (I4 _) k8]⟩,?_⟩;clear hL hg gZ;rintro c' RH Wg ⟨c,V,he,hc,hL,hg,hsh⟩;simp only[I6,I7,true_and,and_true] at he;subst he;have hVg:V.IE.length=8:=by rw[hL.cl.g];exact cN
 have k1:(k2:Int)<(V.IE.length:Int):=Qo;obtain⟨ss,hss,hsl⟩:=hL.cl.e (k2:Int) k0 k8;have hlen:(gi V.IE (k2:Int)).IH.length=(gi W.IE (k2:Int)).IH.length:=by rw[hss];exact hsl
 have ix:∀{V':Q7} {w3:Wo},Lt base [b,b1] w w3 W V' m->Ix m.gO W.IE.length (k2:Int):=λhL'=>by
  have:=hL'.o.rd.g.ix (i:=(k2:Int)) k0 (by rw[hL'.cl.g];omega)
  rwa[hL'.cl.g] at this
 refine⟨ix hL,_,_,_,hL.o.rd.g.RY k0 k1,λrM=>?_,λhgc=>⟨⟨Qo,Qo⟩,λwr hx _=>⟨⟨k2+1,V,Qs,Qo,hL.step hx,λj a d=>hg j Qo d⟩,QJ (k:=k2) rfl rfl Qo⟩⟩⟩;have rM:=Ot rM;have c0:(0:Int)<=(c:Int):=Qo;have hp:=iv.wp.s (k2:Int) (c:Int) k0 k8 c0 Qo;have hsc:=hsh (c:Int) (I4 _);have hf:=Y2.1 hp.f;have hv:=Y2.1 hp.v;rw[<-hsc] at hf hv;have hrs:=hL.o.rd.g.IH _ k0 k1;have hM1:=hL.o.own.BK9 (i:=(k2:Int)) (c:=(c:Int)) k0 Qo c0 rM (j:=0) (vs:=[I ((Qb V (k2:Int) (c:Int)).IL+50000000000000001)]) (x:={ Qb V (k2:Int) (c:Int) with IL:=(Qb V (k2:Int) (c:Int)).IL+50000000000000001 }) rfl (by show 0+1<=5;decide)
 have rL:∀{V1:Q7} (s:MK),Cl W V1->Cl W (RR V1 (k2:Int) (c:Int) s):=λ{V1} s h1=>⟨h1.n,h1.c,h1.t,by show (List.set _ _ _).length=_;rw[I0];exact h1.g,λi a d=>by
  have:=h1.g;obtain⟨s1,e1,l1⟩:=h1.e i a d;have e2:gi (RR V1 (k2:Int) (c:Int) s).IE i=if (k2:Int)=i then { gi V1.IE (k2:Int) with IH:=(gi V1.IE (k2:Int)).IH.set (Int.toNat (c:Int)) s } else gi V1.IE i:=Ym k0 Qo a;rw[e2];split
  ·rename_i e3;subst e3;exact⟨s1.set (Int.toNat (c:Int)) s,by rw[e1],by rw[I0];exact l1⟩
  ·exact⟨s1,e1,l1⟩⟩
 have hL1:=hL.RN (V':=RR V (k2:Int) (c:Int) { Qb V (k2:Int) (c:Int) with IL:=(Qb V (k2:Int) (c:Int)).IL+50000000000000001 }) (rL _ hL.cl) hM1 (N9 Qo)
 have hg1:∀{V1:Q7} (s:MK),V1.IE.length=8->(∀j:Int,(k2:Int)<j->j<8->gi V1.IE j=gi W.IE j)->∀j:Int,(k2:Int)<j->j<8->gi (RR V1 (k2:Int) (c:Int) s).IE j=gi W.IE j:=λ{V1} s hl h1 j a d=>by
  rw[show gi (RR V1 (k2:Int) (c:Int) s).IE j=_ from Ym k0 Qo Qo,E' Qo];exact h1 j a d
 have gZ:∀{V1:Q7} (s:MK),V1.IE.length=8->(c:Int)<((gi V1.IE (k2:Int)).IH.length:Int)->(∀d:Int,(c:Int)+1<=d->Qb V1 (k2:Int) d=Qb W (k2:Int) d)->∀d:Int,(c:Int)+1<=d->Qb (RR V1 (k2:Int) (c:Int) s) (k2:Int) d=Qb W (k2:Int) d:=λ{V1} s hl Ax8 h1 d a=>by
  rw[Jg k0 Qo c0 Ax8 k0 Qo,E' Qo];exact h1 d a
 have hg2:=hg1 { Qb V (k2:Int) (c:Int) with IL:=(Qb V (k2:Int) (c:Int)).IL+50000000000000001 } hVg hg;have BW4:=gZ { Qb V (k2:Int) (c:Int) with IL:=(Qb V (k2:Int) (c:Int)).IL+50000000000000001 } hVg rM λd a=>hsh d Qo
 have yS:(gi (RR V (k2:Int) (c:Int) { Qb V (k2:Int) (c:Int) with IL:=(Qb V (k2:Int) (c:Int)).IL+50000000000000001 }).IE (k2:Int)).IH.length=(gi V.IE (k2:Int)).IH.length:=zc7 k0 k1 k0
 have hv1:Qb (RR V (k2:Int) (c:Int) { Qb V (k2:Int) (c:Int) with IL:=(Qb V (k2:Int) (c:Int)).IL+50000000000000001 }) (k2:Int) (c:Int)={ Qb V (k2:Int) (c:Int) with IL:=(Qb V (k2:Int) (c:Int)).IL+50000000000000001 }:=by
  rw[Jg k0 k1 c0 rM k0 c0,H' ⟨rfl,rfl⟩]
 refine⟨ix hL,_,_,_,hL.o.rd.g.RY k0 k1,ix hL,_,_,_,hL.o.rd.g.RY k0 k1,hrs.ix Zz c0 rM,(Qb V (k2:Int) (c:Int)).IL,hrs.f c0 rM (j:=0) rfl,⟨Qo,Qo⟩,hrs.ix Zz c0 rM,zt0 hL.o.own hL.o.nb k0 Qo c0 rM (j:=0) Qd,λ_=>?_,λ_=>⟨⟨Qo,Qo⟩,λwr hx _=>⟨⟨c+1,_,Qs,Qo,hL1.step hx,hg2,BW4⟩,QJ (k:=c) rfl rfl Qo⟩⟩⟩;generalize RR V (k2:Int) (c:Int) { Qb V (k2:Int) (c:Int) with IL:=(Qb V (k2:Int) (c:Int)).IL+50000000000000001 }=V1 at hL1 hg2 BW4 yS hv1;have CI2:V1.IE.length=8:=by rw[hL1.cl.g];exact cN
 have k11:(k2:Int)<(V1.IE.length:Int):=Qo;have BW0:(c:Int)<((gi V1.IE (k2:Int)).IH.length:Int):=by rw[yS];exact rM
 have B90:=hL1.o.rd.g.IH _ k0 k11;have ev:(Qb V1 (k2:Int) (c:Int)).v=(Qb V (k2:Int) (c:Int)).v:=by rw[hv1]
 have dS:=hL1.o.own.BK9 (i:=(k2:Int)) (c:=(c:Int)) k0 Qo c0 BW0 (j:=2) (vs:=[I ((Qb V1 (k2:Int) (c:Int)).v+50000000000000001)]) (x:={ Qb V1 (k2:Int) (c:Int) with v:=(Qb V1 (k2:Int) (c:Int)).v+50000000000000001 }) rfl (by show 2+1<=5;decide);have hL2:=hL1.RN (V':=RR V1 (k2:Int) (c:Int) { Qb V1 (k2:Int) (c:Int) with v:=(Qb V1 (k2:Int) (c:Int)).v+50000000000000001 }) (rL _ hL1.cl) dS (N9 Qo);exact⟨ix hL1,_,_,_,hL1.o.rd.g.RY k0 k11,ix hL1,_,_,_,hL1.o.rd.g.RY k0 k11,B90.ix Zz c0 BW0,(Qb V1 (k2:Int) (c:Int)).v,B90.f c0 BW0 (j:=2) rfl,⟨Qo,Qo⟩,B90.ix Zz c0 BW0,zt0 hL1.o.own hL1.o.nb k0 Qo c0 BW0 (j:=2) Qd,⟨Qo,Qo⟩,λwr hx _=>⟨⟨c+1,_,Qs,Qo,hL2.step hx,hg1 _ CI2 hg2,gZ _ CI2 BW0 BW4⟩,QJ (k:=c) rfl rfl Qo⟩⟩
end
def zmd{b:Jx}(h:VL b){c:Int}(c0:0<=c)(c1:c<(b.locals.length:Int)):VL (Yo b c):=by
 by_cases hp:0<gi b.locals c
 ·exact(zgl h c0 c1 hp).1
 ·have he:=(h.each c c0 c1).1;have e0:gi b.locals c=0:=Qo;have hs:=KT b.locals c 0 c0 c1 b.locals.length;rw[H' c1] at hs;have hd:=h.dl;refine⟨h.q1,h.q2,?_,?_,?_,?_,?_,h.s1,h.s2,λd d0 d1=>?_,?_⟩
  ·simp only[Yo,I0];exact h.l1
  ·simp only[Yo,I0];exact h.l2
  ·simp only[Yo,I0];split <;> simp[hd]
  ·simp only[Yo];have:=h.p1;omega
  ·simp only[Yo];have:=h.p2;omega
  ·simp only[Yo,I0] at d1 ⊢;have hq:=h.each d d0 d1;have q1:=h.q1;rw[QD _ _ c0 c1 d0,e0]
   by_cases hpp:b.Sy+0>0
   ·rw[H' hpp,O7 _ _ d0 Qo];refine⟨?_,?_,λh=>by cases h⟩
    ·split <;> omega
    ·split <;> omega
   ·rw[E' hpp];refine⟨?_,?_,λhh=>?_⟩
    ·split <;> omega
    ·split <;> omega
    ·have:=hq.2.2 hh
     split <;> omega
  ·simp only[Yo,I0];have:=h.sum;rw[hs,e0];omega
def zn7{b:Jx}(h:VL b)(op:ztr):VL (YM b op).1:=by
 unfold YM;split
 ·exact(zgg h).1
 ·split
  ·exact h
  ·rename_i hi;have hc:Yp op.rJ 0 ((b.locals.length:Int)-1):=by simpa using hi
   have hc:=Qr.1 hc;split
   ·exact(zhz h hc.1 Qo).1
   ·split
    ·exact(zc8 h hc.1 Qo).1
    ·split
     ·exact zmd h hc.1 Qo
     ·exact h
def zpa{q x:Int}{w:Wo}(hq:Yp q 1 10000)(h1:1<=x)(h4:x<=4) :
  Cz QC #[I q,I x] w λe w'=>∃(B:Jx) (p:MG),e=.returned (.tuple #[.agg (Za B p).toArray,.bool true])/\VL B/\Z2 w.heap.size w' B p/\Q0 [] w w':=by
 obtain⟨n,rfl⟩:∃n:Nat,x=(n:Int):=⟨x.toNat,Qo⟩;have hqq:=Qr.1 hq;exact(Kx (n:=n) hq (Qr.2 ⟨Qo,Qo⟩)).mono λe w' ⟨p,he,ho,hx⟩=>⟨_,p,he,zco hqq.1 hqq.2 Qo Qo,ho,hx⟩
def zo9{rb:Nat}{c:OA}{L N:Nat}{w:Wo}(h:JR rb c L N w)(hN:N<=900000000000) :
  Cz Xq #[.pointer (some ⟨rb,0,none⟩)] w λe w'=>∃op:ztr,e=.returned (.agg (zom op).toArray)/\JR rb c L (N+10) w'/\Q0 [rb] w w':=by
 refine(LB (some ⟨rb,0,none⟩) (R:=λv w'=>∃op:ztr,v=.agg (zom op).toArray/\JR rb c L (N+10) w'/\Q0 [rb] w w') ?_).mono λe w' ⟨v,he,op,hv,h1⟩=>⟨op,by rw[he,hv],h1⟩
 intro b hb b1 fI wr hx hs;refine(Dr.pick ((Dr.start h).sJ hx hb fI) Qo hs).mono ?_;rintro e w1 ⟨v1,he,hk,⟨p0,_,p2⟩,h1⟩;have p2:=p2 Qd;refine⟨_,he,hk,⟨Qo,Qo⟩,zuf Qd rfl Qo Qo λx=>?_⟩;refine⟨λvs bs w2=>bs=[]/\(∃x:Int,vs=[I x])/\Dr rb c L N 2 [b,b1] w w2,⟨λ_ wr hx hs=>?_,λ_=>⟨λ_ wr hx _=>⟨rfl,⟨_,rfl⟩,(h1.step hx).more Qd⟩,λ_ wr hx _=>⟨rfl,⟨_,rfl⟩,(h1.step hx).more Qd⟩⟩⟩,?_⟩
 ·refine(Dr.pick (h1.step hx) Qo hs).mono ?_;rintro e w3 ⟨v3,he,hk,_,h3⟩;exact⟨_,he,hk,λ_ wr hx _=>⟨rfl,⟨_,rfl⟩,h3.step hx⟩,λ_ wr hx _=>⟨rfl,⟨_,rfl⟩,h3.step hx⟩⟩
 clear h1;rintro kind w2 Wg ⟨-,-,h2⟩;refine⟨λvs bs w2=>bs=[]/\(∃x:Int,vs=[I x])/\Dr rb c L N 4 [b,b1] w w2,λwr hx hs=>?_,?_⟩
 ·refine(Dr.pick (h2.step hx) Qo hs).mono ?_;rintro e w3 ⟨v3,he,hk,_,h3⟩;refine⟨_,he,hk,λ_ wr hx hs=>?_,λ_ wr hx _=>⟨rfl,⟨_,rfl⟩,(h3.step hx).more Qd⟩⟩;refine(Dr.pick (h3.step hx) Qo hs).mono ?_;rintro e w4 ⟨v4,he,hk,⟨q0,_,q2⟩,h4⟩;have q2:=q2 Qd;exact⟨_,he,hk,⟨Qo,Qo⟩,λwr hx _=>⟨rfl,⟨_,rfl⟩,h4.step hx⟩⟩
 clear h2;rintro Cy4 w5 kM ⟨-,-,h5⟩ wr hx hs;refine(Dr.pick (h5.step hx) Qo hs).mono ?_;rintro e w6 ⟨v6,he,hk,⟨p60,_,p62⟩,h6⟩;have p62:=p62 Qd;refine⟨_,he,hk,λwr hx hs=>?_⟩;refine(Dr.pick (h6.step hx) Qo hs).mono ?_;rintro e w7 ⟨v7,he,hk,⟨p70,_,p72⟩,h7⟩;have p72:=p72 Qd
 have hd:0<=Int.tdiv v7 29/\Int.tdiv v7 29<=1:=by
  rw[Int.tdiv_eq_ediv_of_nonneg p70];omega
 refine⟨_,he,hk,⟨Qd,⟨Qo,Qo⟩⟩,⟨Qo,Qo⟩,λb2 cA wr hx hs=>?_⟩;refine(Dr.pick (h7.put hx cA) Qo hs).mono ?_;rintro e w8 ⟨v8,he,hk,⟨p80,_,p82⟩,h8⟩;have p82:=p82 Qd;exact⟨_,he,hk,⟨Qo,Qo⟩,zuf Qd rfl Qo Qo λx wr hx=>⟨⟨_,_,_⟩,rfl,(h8.step hx).fin Qd⟩⟩
def zb7:List Int:=[1,20,21,50,100,10000]
def zf2{v:Int}(h0:0<=v)(h1:v<6):Yp (gi zb7 v) 1 10000:=by
 have:v=0\/v=1\/v=2\/v=3\/v=4\/v=5:=Qo;rcases this with rfl|rfl|rfl|rfl|rfl|rfl <;> rfl
structure Vw (rb:Nat) (c:OA) (L N n:Nat) (bs:List Nat) (w0 w:Wo) (bt:Nat):Prop where
 d:Dr rb c L N n bs w0 w
 v:Ob Jk 1 Qc 0 (rb::bs) w (some ⟨bt,0,none⟩) 6 zb7
structure Bw (rb:Nat) (c:OA) (L N n:Nat) (bs:List Nat) (w0 w:Wo) (B:Jx) (p:MG):Prop where
 P:VL B
 d:Dr rb c L N n bs w0 w
 o:Z2 w0.heap.size w B p
 nb:∀x∈ZQ p,x∉rb::bs
section
variable {rb b bt:Nat}{c:OA}{L N n k:Nat}{bs cs:List Nat}{w0 w w':Wo}{B B':Jx}{p p':MG}
def Vw.of(h:Dr rb c L N n bs w0 w)(hx:Q0 bs w w')(hb:w.heap.size<=bt)(hh:w'.heap[bt]? = some (Obj.cells ([I 1,I 20,I 21,I 50,I 100,I 10000]:List Va).toArray Qc (0,0)))(hn:bt∉bs):Vw rb c L N n bs w0 w' bt:=
 ⟨h.step hx,.inr ⟨bt,[],rfl,Ig _,by simpa[zb7,Jk] using hh,by simp[zb7,Jk],by simp[zb7]⟩,λx hxx hm=>by
  have:x=bt:=by simpa[QE] using hxx
  subst this;rcases Ik.1 hm with h1|h1
  ·have:=h.r.rd.lt;omega
  ·exact hn h1⟩
def Vw.step(h:Vw rb c L N n bs w0 w bt)(hx:Q0 bs w w'):Vw rb c L N n bs w0 w' bt:=⟨h.d.step hx,h.v.step (hx.mono λ_ hm=>I3 _ hm)⟩
def Vw.put(h:Vw rb c L N n bs w0 w bt)(hx:Q0 bs w w')(hb:w.heap.size<=b):Vw rb c L N n (bs++[b]) w0 w' bt:=⟨h.d.put hx hb,h.v.put (hx.mono λ_ hm=>I3 _ hm) hb⟩
def Vw.RJ(h:Vw rb c L N n bs w0 w bt)(hx:Q0 [] w w'):Vw rb c L N n bs w0 w' bt:=h.step hx.of_nil
def Vw.pick(h:Vw rb c L N n bs w0 w bt)(hN:N+n<=1000000000000)(hs:∀x∈bs,x<w.heap.size){q:Int} :
  Cz Q1 #[.pointer (some ⟨rb,0,none⟩),I q] w λe w'=>∃v,e=.returned (I v)/\Q9 bs w w'/\H8 q v/\Vw rb c L N (n+1) bs w0 w' bt:=
 (GG h.d.r.rd hN).mono λe w' ⟨v,he,hq,hr,hx⟩=>⟨v,he,OZ h.d.r hx hs,hq,⟨h.d.r.upd (by rw[<-Nat.add_assoc];exact hr),h.d.ext.trans hx,h.d.new⟩,h.v.step (hx.mono λx hm=>by
  have:x=rb:=by simpa using hm
  subst this;exact Ib)⟩
def Vw.ix(h:Vw rb c L N n bs w0 w bt){v:Int}(h0:0<=v)(h1:v<6):Ix (some (Addr.mk bt 0 none)) 6 v:=h.v.own.ix h0 h1
def Vw.cell(h:Vw rb c L N n bs w0 w bt){v:Int}(h0:0<=v)(h1:v<6):Q2 bs w (some (Addr.mk bt 0 none)) (Int.toNat v*1) [I (gi zb7 v)]:=((h.v.rd Yr.len).less λ_ hm=>I3 _ hm) v h0 h1
def zrm(h:Z2 w.heap.size w' B p)(d:Dr rb c L N n bs w0 w)(hs:∀x∈bs,x<w.heap.size):∀x∈ZQ p,x∉rb::bs:=λx hx hm=>by
 have:=(h.lt x hx).1;rcases Ik.1 hm with h1|h1
 ·have:=d.r.rd.lt;omega
 ·have:=hs x h1;omega
def Z2.wid{base:Nat}(h:Z2 base w B p)(hx:Q0 bs w w')(hd:∀x∈ZQ p,x∉bs):Z2 base w' B p:=⟨h.loc.ext hx λx hm=>hd x (Ic _ hm),h.RW.ext hx λx hm=>hd x (Iz _ hm)⟩
def Bw.new(d:Dr rb c L N n bs w0 w)(hs:∀x∈bs,x<w.heap.size)(hP:VL B)(ho:Z2 w.heap.size w' B p)(hx:Q0 [] w w'):Bw rb c L N n bs w0 w' B p:=
 ⟨hP,d.step hx.of_nil,⟨ho.loc.mono d.ext.size,ho.RW.mono d.ext.size⟩,zrm ho d hs⟩
def Bw.step(h:Bw rb c L N n bs w0 w B p)(hx:Q0 bs w w'):Bw rb c L N n bs w0 w' B p:=⟨h.P,h.d.step hx,h.o.wid hx λx hm nZ=>h.nb x hm (I3 _ nZ),h.nb⟩
def Bw.put(h:Bw rb c L N n bs w0 w B p)(hx:Q0 bs w w')(hb:w.heap.size<=b):Bw rb c L N n (bs++[b]) w0 w' B p:=
 ⟨h.P,h.d.put hx hb,h.o.wid hx λx hm nZ=>h.nb x hm (I3 _ nZ),λx SD hm=>by
  have IX:=(h.o.lt x SD).2;rcases Ik.1 hm with h1|h1
  ·exact h.nb x SD (by rw[h1];exact Ib)
  ·rcases Ip.1 h1 with h2|h2
   ·exact h.nb x SD (I3 _ h2)
   ·have:x=b:=by simpa using h2
    omega⟩
def Bw.drawn(h:Bw rb c L N n bs w0 w B p)(hr:JR rb c L (N+n+k) w')(hx:Q0 [rb] w w'):Bw rb c L N (n+k) bs w0 w' B p:=
 ⟨h.P,⟨h.d.r.upd (by rw[<-Nat.add_assoc];exact hr),h.d.ext.trans hx,h.d.new⟩,h.o.wid hx λx hm nZ=>h.nb x hm (by
  have:x=rb:=by simpa using nZ
  rw[this];exact Ib),h.nb⟩
def Bw.pick(h:Bw rb c L N n bs w0 w B p)(hN:N+n<=1000000000000)(hs:∀x∈bs,x<w.heap.size){q:Int} :
  Cz Q1 #[.pointer (some ⟨rb,0,none⟩),I q] w λe w'=>∃v,e=.returned (I v)/\Q9 bs w w'/\H8 q v/\Bw rb c L N (n+1) bs w0 w' B p:=
 (GG h.d.r.rd hN).mono λe w' ⟨v,he,hq,hr,hx⟩=>⟨v,he,OZ h.d.r hx hs,hq,h.drawn hr hx⟩
def Bw.op(h:Bw rb c L N n bs w0 w B p)(hN:N+n<=900000000000)(hs:∀x∈bs,x<w.heap.size) :
  Cz Xq #[.pointer (some ⟨rb,0,none⟩)] w λe w'=>∃op:ztr,e=.returned (.agg (zom op).toArray)/\Q9 bs w w'/\Bw rb c L N (n+10) bs w0 w' B p:=
 (zo9 h.d.r.rd hN).mono λe w' ⟨op,he,hr,hx⟩=>⟨op,he,OZ h.d.r hx hs,h.drawn hr hx⟩
def Bw.do(h:Bw rb c L N n bs w0 w B p)(hs:∀x∈bs,x<w.heap.size){op:ztr} :
  Cz Y6 #[.agg (Za B p).toArray,.agg (zom op).toArray] w λe w'=>∃(B':Jx) (p':MG) (d:Int),e=.returned (.tuple #[.agg (Za B' p').toArray,I d])/\Q9 bs w w'/\Bw rb c L N n bs w0 w' B' p':=
 (Jd (op:=op) h.P (h.o.loc.rd Yr.len Qs) (h.o.RW.rd Xm.len Qs)).mono λe w' ⟨p',he,ho,hx⟩=>⟨_,p',_,he,Qf hx hs,Bw.new h.d hs (zn7 h.P op) ho hx⟩
structure zvh (w w':Wo) (B:Jx) (p:MG):Prop where
 ll:B.locals.length<=5
 dl:B.RW.length<=4
 rl:∀bs:List Nat,(∀x∈bs,x<w.heap.size)->znn bs w' p.lO B.locals
 rd:∀bs:List Nat,(∀x∈bs,x<w.heap.size)->zre bs w' p.dO B.RW
def Z2.bdv(h:Z2 w.heap.size w' B p)(hl:B.locals.length<=5)(hd:B.RW.length<=4):zvh w w' B p:=
 ⟨hl,hd,λbs hs=>h.loc.rd Yr.len λx hx hm=>by have:=(h.loc.lt x hx).1;have:=hs x hm;omega,λbs hs=>h.RW.rd Xm.len λx hx hm=>by have:=(h.RW.lt x hx).1;have:=hs x hm;omega⟩
def Bw.bdv(h:Bw rb c L N n bs w0 w B p):zvh w0 w B p:=h.o.bdv (by have:=h.P.l2;omega) (by have:=h.P.l2;have:=h.P.dl;omega)
def zta{o:OA}{l:List Bool}{C:Nat}(h:zre bs w o l)(h1:1<=l.length)(hC:l.length<=C):zre bs w (if C=Int.toNat 1 then o else o.map (·.add (Int.toNat 1*1))) l.tail:=λi i0 i1=>by
 have hl:l.tail.length=l.length-1:=Qs;rw[hl] at i1;have hc:=h (i+1) Qo Qo
 have e:gi l.tail i=gi l (i+1):=by
  obtain⟨k,rfl⟩:=Int.eq_ofNat_of_zero_le i0;rw[XT (by rw[hl];omega),show ((k:Int)+1)=((k+1:Nat):Int) by omega,XT Qo];simp
 rw[e,E' (by show ¬C=1;omega)];refine JS λj v hj=>?_
 obtain⟨a,ha,hb,Wn⟩:=hc.get j v hj;refine⟨a.add (Int.toNat 1*1),by rw[ha];rfl,by rw[Zv];exact hb,?_⟩;rw[JE]
 have:Int.toNat 1*1+(Int.toNat i*1+j)=Int.toNat (i+1)*1+j:=by
  have:Int.toNat (i+1)=Int.toNat i+1:=Qo;rw[this];show 1*1+_=_;omega
 rw[this];exact Wn
end
def zus{rb:Nat}{c:OA}{L N:Nat}{w:Wo}(h:JR rb c L N w)(hN:N<=800000000000) :
  Cz UQ #[.pointer (some ⟨rb,0,none⟩)] w λe w'=>∃(B:Jx) (p:MG),e=.returned (.agg (Za B p).toArray)/\zvh w w' B p/\JR rb c L (N+300) w'/\Q0 [rb] w w':=by
 refine(HD (some ⟨rb,0,none⟩) (R:=λv w'=>∃(B:Jx) (p:MG),v=.agg (Za B p).toArray/\zvh w w' B p/\JR rb c L (N+300) w'/\Q0 [rb] w w') ?_).mono λe w' ⟨v,he,B,p,hv,h1⟩=>⟨B,p,by rw[he,hv],h1⟩
 intro b hbA;have h0:=Dr.start h;refine⟨λvs bs w2=>∃(bt:Nat) (B:Jx) (p:MG),bs=[bt]/\vs=Za B p/\Bw rb c L N 2 [b,bt] w w2 B p,?_,?_⟩
 ·repeat' first
   |exact rfl
   |(refine And.intro ?_ ?_)
   |(intro (bt:Nat) (wb:Wo) hx oA hh hn;have hV:=Vw.of (by assumption) hx oA hh hn)
   |(intro (bt:Nat) (wb:Wo) hx oA hh hn;have hV:=Vw.of (Dr.add h0 hbA) hx.of_nil oA hh hn)
   |(intro (bt:Nat) (wb:Wo) hx oA hh hn;have hV:=Vw.of (Dr.add (Dr.add h0 hbA) (by assumption)) hx.of_nil oA hh hn)
   |(intro (bt:Nat) (wb:Wo) hx oA hh hn;have hV:=Vw.of (Dr.add (by assumption) (by assumption)) (hx.mono λ_ hm=>Ic _ hm) oA hh hn)
   |(intro (b:Nat) hb)
   |(refine⟨_,Vw.cell (by assumption) Qo Qo,?_⟩)
   |exact Vw.cell (by assumption) Qo Qo
   |exact Vw.ix (by assumption) Qo Qo
   |(intro (wr:Wo) hx hs;refine(Vw.pick (Vw.step (by assumption) hx) ?_ hs).mono ?_;rotate_left;rintro e w2 ⟨v,he,hk,⟨hp0,_,n'⟩,hC⟩;have n':=n' Qd;refine⟨_,he,hk,?_⟩)
   |(intro (wr:Wo) hx hs;refine(Vw.pick (Vw.put (by assumption) hx (by assumption)) ?_ hs).mono ?_;rotate_left;rintro e w2 ⟨v,he,hk,⟨hp0,_,n'⟩,hC⟩;have n':=n' Qd;refine⟨_,he,hk,?_⟩)
   |(intro (wr:Wo) hx hs;refine(Dr.pick (Dr.step (by assumption) hx) ?_ hs).mono ?_;rotate_left;rintro e w2 ⟨v,he,hk,⟨hp0,_,n'⟩,hC⟩;have n':=n' Qd;refine⟨_,he,hk,?_⟩)
   |(intro (wr:Wo) hx hs;refine(Dr.pick (Dr.put (by assumption) hx (by assumption)) ?_ hs).mono ?_;rotate_left;rintro e w2 ⟨v,he,hk,⟨hp0,_,n'⟩,hC⟩;have n':=n' Qd;refine⟨_,he,hk,?_⟩)
   |(intro (wr:Wo) hx hs;refine(Dr.pick (Dr.sJ h0 hx hbA (by assumption)) ?_ hs).mono ?_;rotate_left;rintro e w2 ⟨v,he,hk,⟨hp0,_,n'⟩,hC⟩;have n':=n' Qd;refine⟨_,he,hk,?_⟩)
   |(intro (wr:Wo) hx hs;have hV:=Vw.step (by assumption) hx;refine(zpa (zf2 Qo Qo) Qo Qo).mono ?_;rintro e w2 ⟨B,p,he,hP,ho,hy⟩;have hB:=Bw.new hV.d hs hP ho hy;have hV2:=hV.RJ hy;refine⟨_,_,_,_,_,_,_,_,_,_,he,Qf hy hs,?_⟩)
   |(intro (wr:Wo) hx hs;have hV:=Vw.put (by assumption) hx (by assumption);refine(zpa (zf2 Qo Qo) Qo Qo).mono ?_;rintro e w2 ⟨B,p,he,hP,ho,hy⟩;have hB:=Bw.new hV.d hs hP ho hy;have hV2:=hV.RJ hy;refine⟨_,_,_,_,_,_,_,_,_,_,he,Qf hy hs,?_⟩)
   |(intro (wr:Wo) hx hs;exact⟨_,_,_,rfl,rfl,Bw.put (by assumption) hx (by assumption)⟩)
   |(intro (wr:Wo) hx hs;exact⟨_,_,_,rfl,rfl,Bw.step (by assumption) hx⟩)
   |omega
 clear h0;rintro l l1 l2 Se Sf Sg l4O l4L l4C eO w31 Cl5 ⟨bt,B,p,hbt,hv,hB⟩ wr hx hs;have:eO=bt:=by simpa using hbt
 subst this;simp only[Za,I6,I7,Iy,true_and,and_true] at hv;obtain⟨rfl,rfl,rfl,⟨rfl,rfl,rfl⟩,rfl,rfl,rfl⟩:=hv;refine(Bw.pick (hB.step hx) Qo hs).mono ?_;rintro e1 w1 ⟨v1,mJ,hk1,⟨p10,_,p12⟩,hB1⟩;have p12:=p12 Qd;refine⟨_,mJ,hk1,?_⟩;refine⟨λvs w2=>∃(k n:Nat) (B:Jx) (p:MG),vs=I (k:Int)::Za B p/\(k:Int)<=v1/\n<=3+10*k/\Bw rb c L N n [b,eO] w w2 B p,Zk v1.toNat 0,λwr hx _=>⟨0,2+1,B,p,rfl,p10,Qo,hB1.step hx⟩,?_⟩;clear hB1 hk1 mJ hs hx hB Cl5;clear B p;rintro i1 l5 l6 l7 l8O l8L l8C yT l9L l9C w36 hs ⟨k,n,B,p,he,hk,hn,hK⟩;simp only[Za,I6,I7,Iy,true_and,and_true] at he;obtain⟨rfl,rfl,rfl,rfl,⟨rfl,rfl,rfl⟩,rfl,rfl,rfl⟩:=he;refine⟨λIX wr hx hs=>?_,λRX wr hx hs=>?_⟩
 ·have IX:=Ot IX;refine(Bw.op (hK.step hx) Qo hs).mono ?_;rintro e2 w2 ⟨op,bS,uB,hB2⟩;refine⟨_,_,_,bS,uB,rfl,λwr hx hs=>?_⟩;refine(Bw.do (hB2.step hx) hs (op:=op)).mono ?_;rintro e3 w3 ⟨B3,p3,d,jM,yX,hB3⟩;exact⟨_,_,_,_,_,_,_,_,_,_,jM,yX,⟨Qo,Qo⟩,λwr hx _=>⟨⟨k+1,n+10,B3,p3,by simp[Za],Qo,Qo,hB3.step hx⟩,QJ (k:=k) rfl rfl Qo⟩⟩
 have RX:=Ou RX;refine(Bw.pick (hK.step hx) Qo hs).mono ?_;rintro e4 w4 ⟨v4,he4,hk4,_,hB4⟩;refine⟨_,he4,hk4,λ_ wr hx=>⟨B,p,rfl,(hB4.step hx).bdv,(hB4.step hx).d.fin Qo⟩,λ_ wr hx hs=>?_⟩;have l1:=hK.P.l1;have l2:=hK.P.l2;have hdl:=hK.P.dl;have hP:=hK.P;have q2:=hP.q2;have p1:=hP.p1;have p2:=hP.p2;have s1:=hP.s1;have s2:=hP.s2;refine(Bw.pick (hB4.step hx) Qo hs).mono ?_;rintro e5 w5 ⟨v5,he5,hk5,⟨p50,_,p52⟩,hB5⟩;have p52:=p52 Qo;refine⟨_,he5,hk5,λwr hx hs=>?_⟩;refine(Bw.pick (hB5.step hx) Qo hs).mono ?_;rintro e6 w6 ⟨v6,he6,hk6,_,hB⟩;have hnb:∀x∈ZQ p,x∉[b,eO]:=λx hx hm=>hB.nb x hx (I3 _ hm)
 have rU:∀x∈ZQ p,w.heap.size<=x:=λx hx=>(hB.o.lt x hx).1
 have fin:∀{w7 wr:Wo} {B':Jx},Z2 w.heap.size w7 B' p->Q0 (ZQ p) w6 w7->Q0 [b,eO] w7 wr->B'.locals.length<=5->B'.RW.length<=4->zvh w wr B' p/\JR rb c L (N+300) wr/\Q0 [rb] w wr:=λ{w7 wr B'} ho SD Rt hl hd=>by
  have hd2:Dr rb c L N (n+1+1+1) [b,eO] w w7:=⟨hB.d.r.call SD (λhm=>hB.nb rb hm Ib) λa ha=>by
   rcases h.ltc a ha with h3|h3
   ·exact .inl λhm=>by have:=rU _ hm;omega
   ·exact .inr h3,hB.d.ext.fresh SD λx hm=>.inl (rU x hm),hB.d.new⟩
  have hd3:=hd2.step Rt;exact⟨(ho.wid Rt hnb).bdv hl hd,hd3.fin Qo⟩
 have Br9:∀{wr:Wo} {B':Jx},B'.locals=B.locals->B'.RW=B.RW->Q0 [b,eO] w6 wr->zvh w wr B' p/\JR rb c L (N+300) wr/\Q0 [rb] w wr:=λ{wr B'} el ed Rt=>by
  have k:=hB.step Rt;have hb:=k.bdv;exact⟨⟨by rw[el];exact hb.ll,by rw[ed];exact hb.dl,by rw[el];exact hb.rl,by rw[ed];exact hb.rd⟩,k.d.fin Qo⟩
 have WJ:Ix p.dO B.RW.length v5:=hB.o.RW.ix p50 Qo;have Cj0:Ix p.lO B.locals.length v5:=hB.o.loc.ix p50 Qo;refine⟨_,he6,hk6,λ_=>⟨⟨Qo,Qo⟩,λwr hx=>⟨{ B with Sy:=B.Sy+1 },p,rfl,Br9 rfl rfl hx⟩⟩,λ_=>⟨λ_=>⟨WJ,_,(hB.o.RW.rd Xm.len λx hx=>hnb x (Iz _ hx)) v5 p50 Qo,WJ,hB.o.RW.wr Xm.len (λx hx=>hnb x (Iz _ hx)) p50 Qo (j:=0) (n:=1) Qd,λwr hx=>?_⟩,λ_=>⟨λ_=>⟨Cj0,hB.o.loc.wr Yr.len (λx hx=>hnb x (Ic _ hx)) p50 Qo (j:=0) (n:=1) Qd,λwr hx=>?_⟩,λ_=>⟨λ_ wr hx=>⟨{ B with R4:=0 },p,rfl,Br9 rfl rfl hx⟩,λ_=>⟨λ_=>⟨⟨Qo,Qo,?_⟩,λwr hx=>?_⟩,λ_=>⟨λ_ ba hba wr hx hs hh=>?_,λ_=>⟨λ_=>⟨⟨Qo,Qo⟩,⟨Qo,Qo⟩,λwr hx=>⟨{ B with Sy:=B.Sy-1,WI:=B.WI+1 },p,rfl,Br9 rfl rfl hx⟩⟩,λ_ wr hx=>⟨B,p,rfl,Br9 rfl rfl hx⟩⟩⟩⟩⟩⟩⟩⟩
 ·exact⟨{ B with RW:=B.RW.set v5.toNat (!gi B.RW v5) },p,by simp[Za],fin (hB.o.CA8 p50 Qo _) (hB.o.xD _ _) hx (by show B.locals.length<=5;omega) (by show (B.RW.set _ _).length<=4;rw[I0];omega)⟩
 ·exact⟨{ B with locals:=B.locals.set v5.toNat (-1) },p,by simp[Za],fin (hB.o.eY p50 Qo _) (hB.o.xL _ _) hx (by show (B.locals.set _ _).length<=5;rw[I0];omega) (by show B.RW.length<=4;omega)⟩
 ·have:=hB.o.RW.le;omega
 ·have k:=hB.step hx;have hb:=k.bdv;have hle:=hB.o.RW.le;refine⟨{ B with RW:=B.RW.tail },{ p with dO:=if p.dC=Int.toNat 1 then p.dO else p.dO.map (·.add (Int.toNat 1*1)),dC:=p.dC-Int.toNat 1 },?_,⟨hb.ll,by show B.RW.tail.length<=4;simp;omega,hb.rl,λbs hs=>zta (hb.rd bs hs) Qo hle⟩,k.d.fin Qo⟩;simp[Za]
 ·have hB2:=hB.put hx hba;have B82:∀x∈ZQ p,x∉[b,eO,ba]:=λx hx hm=>hB2.nb x hx (I3 _ hm)
  obtain⟨o',mH,w9,Wa,Ck6,hxa,hor⟩:=zhl Yr Mc hB2.o.loc (x:=0) (fz:=(0,0)) hh (by rfl) Qo Qo Yc #[false,false] (by have:=hB2.d.ext.size;omega);have hk9:Q9 [b,eO,ba] wr w9:=hxa.kept λx hm=>⟨hs x hm,λhm2=>B82 x (Ic _ hm2) hm⟩
  refine⟨_,_,_,w9,Wa,hk9,λRg Rt=>?_⟩
  have Cj9:∀x∈QE o',x∉[b,eO,ba]:=λx hxo hm=>by
   rcases hor with e|e
   ·rw[e] at hxo;exact B82 x (Ic _ hxo) hm
   ·rw[e] at hxo;have:x=wr.heap.size:=by simpa[QE] using hxo
    have:=hs x hm;omega
  have hrb:rb∉QE p.lO:=λhm=>hB2.nb rb (Ic _ hm) Ib
  have hd2:Dr rb c L N (n+1+1+1) [b,eO,ba] w w9:=⟨hB2.d.r.call hxa hrb λa ha=>by
   rcases h.ltc a ha with h3|h3
   ·exact .inl λhm=>by have:=rU _ (Ic _ hm);omega
   ·exact .inr h3,hB2.d.ext.fresh hxa λx hm=>.inl (rU x (Ic _ hm)),hB2.d.new⟩
  have Bt5:Jy K4 1 YT w.heap.size Rg p.dO p.dC B.RW:=(hB2.o.RW.ext hxa (hB2.o.RW.WX hB2.o.loc Qd)).ext Rt λx hm=>B82 x (Iz _ hm)
  have nI:Jy Jk 1 Qc w.heap.size Rg o' mH (B.locals++[0]):=Ck6.ext Rt Cj9;exact⟨{ B with locals:=B.locals++[0] },{ p with lO:=o',lC:=mH },by simp[Za],Z2.bdv ⟨nI,Bt5⟩ (by simp;omega) (by show B.RW.length<=4;omega),(hd2.step Rt).fin Qo⟩
def zqd{α:Type}[Inhabited α]{enc:α->List Va}{z:Nat}{bs:List Nat}{w:Wo}{o:OA}{l:List α}{C:Nat}(h:Rd enc z bs w o l)(h1:1<=l.length)(hC:l.length<=C):Rd enc z bs w (if C=Int.toNat 1 then o else o.map (·.add (Int.toNat 1*z))) l.tail:=λi i0 i1=>by
 have hl:l.tail.length=l.length-1:=Qs;rw[hl] at i1;have hc:=h (i+1) Qo Qo
 have e:gi l.tail i=gi l (i+1):=by
  obtain⟨k,rfl⟩:=Int.eq_ofNat_of_zero_le i0;rw[XT (by rw[hl];omega),show ((k:Int)+1)=((k+1:Nat):Int) by omega,XT Qo];simp
 rw[e,E' (by show ¬C=1;omega)];refine JS λj v hj=>?_
 obtain⟨a,ha,hb,Wn⟩:=hc.get j v hj;refine⟨a.add (Int.toNat 1*z),by rw[ha];rfl,by rw[Zv];exact hb,?_⟩;rw[JE]
 have:Int.toNat 1*z+(Int.toNat i*z+j)=Int.toNat (i+1)*z+j:=by
  have:Int.toNat (i+1)=Int.toNat i+1:=Qo;rw[this,Nat.succ_mul];show 1*z+_=_;omega
 rw[this];exact Wn
def zt1(rb:Nat)(c:OA)(L N:Nat)(w0:Wo)(v:Va)(w:Wo):Prop:=∃(W:Q7) (m:MW),v=.agg (Qa W m).toArray/\Xk W/\(∀ds:List Nat,(∀x∈ds,x<w0.heap.size)->X0 ds w W m)/\JR rb c L (N+1500) w/\Q0 [rb] w0 w
section
variable {rb:Nat}{c:OA}{L N n q:Nat}{bs:List Nat}{w0 w w1 wr:Wo}{W W':Q7}{m:MW}
def XC.aft(h:XC Dz rb c L N n bs w0 w W m)(ltc:∀a,c=some a->a.block<w0.heap.size\/L=0)(SD:Q0 (QS 8 m) w w1)(Rt:Q0 bs w1 wr)(hq:n<=q):JR rb c L (N+q) wr/\Q0 [rb] w0 wr:=by
 have rU:∀x∈QS 8 m,w0.heap.size<=x:=λx hx=>(h.o.own.lt x hx).1
 have d2:Dr rb c L N n bs w0 w1:=⟨h.d.r.call SD (λhm=>h.o.nb rb hm Ib) λa ha=>by
  rcases ltc a ha with h3|h3
  ·exact .inl λhm=>by have:=rU _ hm;omega
  ·exact .inr h3,h.d.ext.fresh SD λx hm=>.inl (rU x hm),h.d.new⟩
 exact(d2.step Rt).fin hq
def XC.btv(h:XC Dz rb c L N n bs w0 w W m)(ltc:∀a,c=some a->a.block<w0.heap.size\/L=0)(hl:Xk W')(hM:Yn 8 w0.heap.size w1 W' m)(SD:Q0 (QS 8 m) w w1)(Rt:Q0 bs w1 wr)(hq:n<=1500):zt1 rb c L N w0 (.agg (Qa W' m).toArray) wr:=
 ⟨W',m,rfl,hl,λds hd=>(hM.ext Rt λx hx hm=>h.o.nb x hx (I3 _ hm)).rd λx hx hm=>by
  have:=(h.o.own.lt x hx).1;have:=hd x hm;omega,h.aft ltc SD Rt hq⟩
def XC.rdn(h:XC Dz rb c L N n bs w0 w W m)(ds:List Nat)(hd:∀x∈ds,x<w0.heap.size):X0 ds w W m:=h.o.own.rd λx hx hm=>by
 have:=(h.o.own.lt x hx).1;have:=hd x hm;omega
def XC.Br1(h:XC Dz rb c L N n bs w0 w W m)(hx:Q0 bs w wr)(hq:n<=1500):zt1 rb c L N w0 (.agg (Qa W m).toArray) wr:=
 ⟨W,m,rfl,h.iv.len,(h.step hx).rdn,((h.step hx).d.fin hq)⟩
def zso(h:Xk W)(i:Int)(x:Pe):Xk (S8 W i x):=⟨by show (List.set _ _ _).length<=_;rw[I0];exact h.c,h.t,h.g,h.f⟩
def zsp(h:Xk W)(i:Int)(x:Pv):Xk (I' W i x):=⟨h.c,by show (List.set _ _ _).length<=_;rw[I0];exact h.t,h.g,h.f⟩
def Nk(h:Xk W){i:Int}(i0:0<=i)(i1:i<(W.IE.length:Int)){G:ZL}(hG:zdk G):Xk (Rw W i G):=by
 have hl:(Rw W i G).IE.length=W.IE.length:=I0;refine⟨h.c,h.t,by rw[hl];exact h.g,λj a b=>?_⟩;rw[hl] at b;rw[Ym i0 i1 a];split
 ·exact hG
 ·exact h.f j a b
def zs9{base:Nat}(hM:Yn 8 base w W m)(hn:∀x∈QS 8 m,x∉bs){g:Int}(g0:0<=g)(g8:g<8){B:Jx}{p:MG}(hl:znn bs (RN w m.gO (Int.toNat g*14+8) (Za B p)) p.lO B.locals)(hd:zre bs (RN w m.gO (Int.toNat g*14+8) (Za B p)) p.dO B.RW) :
  X0 bs (RN w m.gO (Int.toNat g*14+8) (Za B p)) (WW W g B) (Oo m g.toNat (P5 (m.ms g.toNat) p)):=by
 have cN:=hM.len;have hx:Q0 (QE m.gO) w (RN w m.gO (Int.toNat g*14+8) (Za B p)):=hM.g.row.tN _ _;have AG4:=hM.g.row.RN X4.len g0 (by rw[Xt];omega) (j:=8) (vs:=Za B p) (x:=({ gi W.IE g with IY:=B },P5 (m.ms g.toNat) p)) (by rw[VF g0 Qo];rfl) (by show 8+5<=14;decide);rw[<-zff g0 Qo] at AG4;have AG4:Jy OG 14 QT base (RN w m.gO (Int.toNat g*14+8) (Za B p)) m.gO m.gC (zm7 (WW W g B) (Oo m g.toNat (P5 (m.ms g.toNat) p))):=AG4;have hps:(WW W g B).IE.length=8:=by show (List.set _ _ _).length=_;rw[I0];exact cN
 have e1:∀i:Int,0<=i->gi (WW W g B).IE i=if g=i then { gi W.IE g with IY:=B } else gi W.IE i:=λi a=>Ym g0 Qo a
 have e2:∀i:Int,0<=i->(Oo m g.toNat (P5 (m.ms g.toNat) p)).ms i.toNat=if g=i then P5 (m.ms g.toNat) p else m.ms i.toNat:=λi a=>by
  show (if g.toNat=i.toNat then _ else _)=_
  by_cases e:g=i
  ·rw[H' e,H' Qo]
  ·rw[E' e,E' Qo]
 refine⟨(hM.c.ext hx (hM.c.WX hM.g.row Qd)).rd Lb.len λx hx=>hn x (ED hx),(hM.t.ext hx (hM.t.WX hM.g.row Qd)).rd OF.len λx hx=>hn x (EF hx),⟨λi i0 i1=>?_,λi i0 i1=>?_,λi i0 i1=>?_,λi i0 i1=>?_⟩⟩
 ·have:=AG4.rd X4.len (bs:=bs) (λx hx=>hn x (EE hx)) i i0 (by rw[Xt];exact i1)
  rwa[VF i0 i1] at this
 all_goals
  rw[hps] at i1;rw[e1 i i0,e2 i i0]
  have hi:=(hM.each i0 Qo).ext hx (by
   have:=XU hM.g.row (hM.g.each i i0 (by rw[Xt];omega))
   rwa[VF i0 Qo] at this)
  split
 ·exact hl
 ·exact hi.loc.rd Yr.len λx hx=>hn x (JN (k:=i.toNat) Qo (by simp[Qw,hx]))
 ·exact hd
 ·exact hi.RW.rd Xm.len λx hx=>hn x (JN (k:=i.toNat) Qo (by simp[Qw,hx]))
 ·rename_i e;subst e;exact hi.shl.rd VX.len λx hx=>hn x (JN (k:=g.toNat) Qo (by simp[Qw,hx]))
 ·exact hi.shl.rd VX.len λx hx=>hn x (JN (k:=i.toNat) Qo (by simp[Qw,hx]))
end
def zw2{v:Int}{k:Nat}{ls:List Va}{P:ByteArray->Prop}(ha:ls.all (λ| .string s=>decide (s.size<=1000)|_=>false)=true)(hl:ls.length=k)(h0:0<=v)(h1:v<(k:Int))(h:∀x,x.size<=1000->P x):∃x:ByteArray,(0<=v/\ls[Int.toNat v+0]? = some (.string x))/\P x:=by
 have IX:Int.toNat v+0<ls.length:=Qo;have:=List.all_eq_true.1 ha _ (List.getElem_mem IX);have e:=Io IX;generalize ls[Int.toNat v+0]=y at this e
 split at this
 ·exact⟨_,⟨h0,e⟩,h _ (Ot this)⟩
 ·cases this
def zut{rb:Nat}{c:OA}{L N:Nat}{w:Wo}(h:JR rb c L N w)(hN:N<=500000000000) :
  Cz XZ #[.pointer (some ⟨rb,0,none⟩)] w λe w'=>∃v,e=.returned v/\zt1 rb c L N w v w':=by
 refine HE (some ⟨rb,0,none⟩) (R:=λv w'=>zt1 rb c L N w v w') ?_;intro b hb wr hx hs;have h1:=(Dr.start h).put hx hb;refine(zsk Mo h1.r.rd Qo).mono ?_;rintro e2 w2 ⟨W,m,bS,iv,hM,hr,hxp,fJ⟩;have hK:=XC.Bm7 Mo h1 hs iv hM hr hxp fJ;have iv:=iv.1;refine⟨_,_,_,_,_,_,_,_,_,_,bS,OZ h1.r hxp hs,λb1 fI Ra SD gZ=>?_⟩;refine((hK.put SD fI).pick Mo Qo gZ).mono ?_;rintro e3 w3 ⟨v3,jM,yX,_,nG⟩;refine⟨_,jM,yX,λ_ wr hx=>nG.Br1 hx Qd,λ_ RL Ru kO=>?_⟩;refine((nG.step Ru).pick Mo Qo kO).mono ?_;rintro e4 w4 ⟨c1,he4,hk4,⟨c10,_,c12⟩,dT⟩;have ha:=iv.wp.a;have yQ:=ha.c1;have hc4:=ha.c2;have lB:=ha.t;have cN:=ha.gl;have c12:=c12 Qo;refine⟨_,he4,hk4,λRO X' gX=>?_⟩;refine((dT.step X').pick Mo Qo gX).mono ?_;rintro e5 w5 ⟨t,he5,hk5,⟨t0,_,t2⟩,dE⟩;have t2:=t2 Qd;refine⟨_,he5,hk5,λS5 Wb kM=>?_⟩;refine((dE.step Wb).pick Mo Qo kM).mono ?_;rintro e6 w6 ⟨g,he6,hk6,⟨g0,_,g2⟩,rK⟩;have g2:=g2 Qd;refine⟨_,he6,hk6,λSw eM hs6=>?_⟩;refine((rK.step eM).pick Mo Qo hs6).mono ?_;rintro e7 w7 ⟨k,he7,hk7,_,hS⟩;clear nG dT dE rK hK hM hr hxp bS jM he4 he5 he6 yX hk4 hk5 hk6 SD Ru X' Wb eM gZ kO gX kM hs6 h1 fJ;refine⟨_,he7,hk7,?_⟩;have lc:=h.ltc;have ltc:∀a,c=some a->a.block<w.heap.size\/L=0:=lc;have hl:=iv.len;have t1:t<(W.IK.length:Int):=Qo;have g1:g<(W.IE.length:Int):=Qo;have g8:g<((8:Nat):Int):=Qo;have WJ:∀{n:Nat} {w':Wo},XC Dz rb c L N n [b,b1] w w' W m->Ix m.cO W.IF.length c1:=λh=>h.rd.c.ix Zy c10 c12
 have hit:∀{n:Nat} {w':Wo},XC Dz rb c L N n [b,b1] w w' W m->Ix m.tO W.IK.length t:=λh=>h.rd.t.ix QF t0 t1
 have hig:∀{n:Nat} {bs:List Nat} {w':Wo},XC Dz rb c L N n bs w w' W m->Ix m.gO W.IE.length g:=λh=>h.rd.g.ix g0 g1
 have nb:∀{n:Nat} {bs:List Nat} {w':Wo},XC Dz rb c L N n bs w w' W m->∀x∈QS 8 m,x∉bs:=λh x hx hm=>h.o.nb x hx (I3 _ hm)
 have sV:∀{w':Wo},XC Dz rb c L N (0+1100+1+1+1+1+1) [b,b1] w w' W m->X0 [b,b1] w' W m:=λh=>h.o.own.rd (nb h)
 have fC:∀{n:Nat} {bs:List Nat} {w' wr:Wo} {j:Nat} {vs:List Va} (x:Pe),XC Dz rb c L N n bs w w' W m->n<=1500->K5 x=(K5 (gi W.IF c1)).take j++vs++(K5 (gi W.IF c1)).drop (j+vs.length)->j+vs.length<=5->Q0 bs (RN w' m.cO (Int.toNat c1*5+j) vs) wr->zt1 rb c L N w (.agg (Qa (S8 W c1 x) m).toArray) wr:=λx h hn he hj hx=>h.btv ltc (zso hl c1 x) (h.o.own.Aa5 c10 c12 he hj) zby hx hn
 have fT:∀{n:Nat} {bs:List Nat} {w' wr:Wo} {j:Nat} {vs:List Va} (x:Pv),XC Dz rb c L N n bs w w' W m->n<=1500->Ys x=(Ys (gi W.IK t)).take j++vs++(Ys (gi W.IK t)).drop (j+vs.length)->j+vs.length<=9->Q0 bs (RN w' m.tO (Int.toNat t*9+j) vs) wr->zt1 rb c L N w (.agg (Qa (I' W t x) m).toArray) wr:=λx h hn he hj hx=>h.btv ltc (zsp hl t x) (h.o.own.AC1 t0 t1 he hj) LK hx hn
 have fG:∀{n:Nat} {bs:List Nat} {w' wr:Wo} {j:Nat} {vs:List Va} (G:ZL),XC Dz rb c L N n bs w w' W m->n<=1500->zdk G->G.IY=(gi W.IE g).IY->G.IH=(gi W.IE g).IH->YC G (m.ms g.toNat)=(YC (gi W.IE g) (m.ms g.toNat)).take j++vs++(YC (gi W.IE g) (m.ms g.toNat)).drop (j+vs.length)->j+vs.length<=14->Q0 bs (RN w' m.gO (Int.toNat g*14+j) vs) wr->zt1 rb c L N w (.agg (Qa (Rw W g G) m).toArray) wr:=λG h hn hf hb hsh he hj hx=>h.btv ltc (Nk hl g0 g1 hf) (h.o.own.A84 g0 g8 (by rw[hb]) (by rw[hb]) hsh he hj) F3 hx hn
 have eC:∀x:Pe,Qa (S8 W c1 x) m=Qa W m:=λx=>by simp[Qa,S8]
 have eT:∀x:Pv,Qa (I' W t x) m=Qa W m:=λx=>by simp[Qa,I']
 have eG:∀x:ZL,Qa (Rw W g x) m=Qa W m:=λx=>by simp[Qa,Rw]
 have mK:=hl.f g g0 g1
 have hv:0<=(Q8 W t).v/\(Q8 W t).v<=100000000000000000:=by
  rcases iv.wp.t t t0 Qo with hz|⟨_,hx⟩
  ·rw[hz.2];decide
  ·exact Y2.1 hx.v
 have hlm:=ZV 1;refine⟨λ_=>⟨WJ hS,_,(sV hS).c.f c10 c12 (j:=0) rfl,WJ hS,znq hS.o.own (nb hS) c10 c12 (j:=0) Qd,λwr hx=>?_⟩,λ_=>⟨λ_ wr hx hs=>?_,λ_=>⟨λ_ wr hx hs=>?_,λ_=>⟨λ_ wr hx hs=>?_,λ_=>⟨λ_ wr hx hs=>?_,λ_=>⟨λ_ wr hx hs=>?_,λ_=>⟨λ_=>⟨hit hS,_,(sV hS).t.f t0 t1 (j:=5) rfl,_,OV,⟨by show _<=(Q8 W t).v+_;omega,by show (Q8 W t).v+_<=_;omega⟩,hit hS,zfy hS.o.own (nb hS) t0 t1 (j:=5) Qd,λwr hx=>?_⟩,λ_=>⟨λ_=>⟨hit hS,zfy hS.o.own (nb hS) t0 t1 (j:=3) Qd,λwr hx=>?_⟩,λ_=>⟨λ_=>⟨hit hS,zfy hS.o.own (nb hS) t0 t1 (j:=4) Qd,λwr hx=>?_⟩,λ_=>⟨λ_=>⟨⟨Qo,Qo,by have:=hS.o.own.t.le;omega⟩,λwr hx=>?_⟩,λ_=>⟨λ_=>⟨hig hS,_,(sV hS).g.IW g0 g1,hig hS,zb1 hS.o.own (nb hS) g0 g8 (j:=0) Qd,λwr hx=>?_⟩,λ_=>⟨λ_ wr hx hs=>?_,λ_=>⟨λ_=>⟨λb2 cA=>⟨rfl,λwr hx hs=>?_⟩,λwr hx hs=>?_⟩,λ_=>⟨λ_ wr hx hs=>?_,λ_=>⟨λ_ wr hx hs=>?_,λ_=>⟨λ_ wr hx hs=>?_,λ_=>⟨λ_ wr hx hs=>?_,λ_=>⟨λ_=>⟨hig hS,_,_,_,(sV hS).g.RY g0 g1,λrM=>?_,λ_ wr hx=>hS.Br1 hx Qd⟩,λ_=>⟨λ_=>⟨hig hS,_,_,_,(sV hS).g.RY g0 g1,λrM=>?_,λ_ wr hx=>hS.Br1 hx Qd⟩,λ_=>⟨λ_ wr hx hs=>?_,λ_ wr hx=>hS.Br1 hx Qd⟩⟩⟩⟩⟩⟩⟩⟩⟩⟩⟩⟩⟩⟩⟩⟩⟩⟩⟩⟩
 case refine_1=>
  have:=fC { gi W.IF c1 with up := !(gi W.IF c1).up } hS Qd rfl (by show 0+1<=5;decide) hx
  rwa[eC] at this
 case refine_2=>
  refine((hS.step hx).pick Mo Qo hs).mono ?_;rintro e w8 ⟨v,he,hk,⟨p0,_,p2⟩,hP⟩;have p2:=p2 Qd;refine⟨_,he,hk,rfl,⟨Qo,Qo⟩,WJ hP,znq hP.o.own (nb hP) c10 c12 (j:=1) Qd,λwr hx=>?_⟩;have:=fC { gi W.IF c1 with cur:=v-2 } hP Qd rfl (by show 1+1<=5;decide) hx
  rwa[eC] at this
 case refine_3=>
  refine((hS.step hx).pick Mo Qo hs).mono ?_;rintro e w8 ⟨v,he,hk,_,hP⟩;refine⟨_,he,hk,rfl,WJ hP,znq hP.o.own (nb hP) c10 c12 (j:=2) Qd,λwr hx=>?_⟩;have:=fC { gi W.IF c1 with WC:=v } hP Qd rfl (by show 2+1<=5;decide) hx
  rwa[eC] at this
 case refine_4=>
  refine((hS.step hx).pick Mo Qo hs).mono ?_;rintro e w8 ⟨v,he,hk,_,hP⟩;refine⟨_,he,hk,rfl,hit hP,zfy hP.o.own (nb hP) t0 t1 (j:=0) Qd,λwr hx=>?_⟩;have:=fT { gi W.IK t with state:=v } hP Qd rfl (by show 0+1<=9;decide) hx
  rwa[eT] at this
 case refine_5=>
  refine((hS.step hx).pick Mo Qo hs).mono ?_;rintro e w8 ⟨v,he,hk,⟨p0,_,p2⟩,hP⟩;have p2:=p2 Qd;refine⟨_,he,hk,rfl,⟨Qo,Qo⟩,hit hP,zfy hP.o.own (nb hP) t0 t1 (j:=1) Qd,λwr hx=>?_⟩;have:=fT { gi W.IK t with II:=v-1 } hP Qd rfl (by show 1+1<=9;decide) hx
  rwa[eT] at this
 case refine_6=>
  refine((hS.step hx).pick Mo Qo hs).mono ?_;rintro e w8 ⟨v,he,hk,⟨p0,_,p2⟩,hP⟩;have p2:=p2 Qd;refine⟨_,he,hk,rfl,⟨Qo,Qo⟩,hit hP,zfy hP.o.own (nb hP) t0 t1 (j:=2) Qd,λwr hx=>?_⟩;have:=fT { gi W.IK t with R8:=v-1 } hP Qd rfl (by show 2+1<=9;decide) hx
  rwa[eT] at this
 case refine_7=>
  have:=fT { gi W.IK t with v:=(gi W.IK t).v+Zs 1 } hS Qd rfl (by show 5+1<=9;decide) hx
  rwa[eT] at this
 case refine_8=>
  have:=fT { gi W.IK t with nice:=10 } hS Qd rfl (by show 3+1<=9;decide) hx
  rwa[eT] at this
 case refine_9=>
  have:=fT { gi W.IK t with mask:=0 } hS Qd rfl (by show 4+1<=9;decide) hx
  rwa[eT] at this
 case refine_10=>
  have hK:=hS.step hx;have hr:=hK.rdn;have hle:=hS.o.own.t.le;refine⟨{ W with IK:=W.IK.tail },{ m with tO:=if m.tC=Int.toNat 1 then m.tO else m.tO.map (·.add (Int.toNat 1*9)),tC:=m.tC-Int.toNat 1 },?_,⟨hl.c,by show W.IK.tail.length<=_;have:=hl.t;simp;omega,hl.g,hl.f⟩,λds hd=>⟨(hr ds hd).c,zqd (hr ds hd).t Qo hle,(hr ds hd).g⟩,hK.d.fin Qd⟩;simp[Qa]
 case refine_11=>
  have:=fG { gi W.IE g with IW := !(gi W.IE g).IW } hS Qd ⟨mK.nm,mK.nx,mK.lo,mK.dr,mK.sh⟩ rfl rfl rfl (by show 0+1<=14;decide) hx
  rwa[eG] at this
 case refine_12=>
  refine((hS.step hx).pick Mo Qo hs).mono ?_;rintro e w8 ⟨v,he,hk,⟨p0,_,p2⟩,hP⟩;have p2:=p2 Qd;refine⟨_,he,hk,rfl,⟨Qo,Qo⟩,hig hP,zb1 hP.o.own (nb hP) g0 g8 (j:=1) Qd,λwr hx=>?_⟩;have:=fG { gi W.IE g with IG:=v-1 } hP Qd ⟨mK.nm,mK.nx,mK.lo,mK.dr,mK.sh⟩ rfl rfl rfl (by show 1+1<=14;decide) hx
  rwa[eG] at this
 case refine_13=>
  refine((hS.put hx cA).pick Mo Qo hs).mono ?_;rintro e w8 ⟨v,he,hk,⟨p0,_,p2⟩,hP⟩;have p2:=p2 Qd;refine⟨_,he,hk,rfl,⟨Qo,Qo⟩,zw2 Qd rfl Qo Qo λx hxs=>⟨hig hP,zb1 hP.o.own (nb hP) g0 g8 (j:=2) Qd,λwr hx=>?_⟩⟩;have hm:=Zp;have:=fG { gi W.IE g with name:=x } hP Qd ⟨by show x.size<=_;omega,mK.nx,mK.lo,mK.dr,mK.sh⟩ rfl rfl rfl (by show 2+1<=14;decide) hx
  rwa[eG] at this
 case refine_14=>
  refine((hS.step hx).pick Mo Qo hs).mono ?_;rintro e w8 ⟨v,he,hk,⟨p0,_,p2⟩,hP⟩;have p2:=p2 Qd;refine⟨_,he,hk,rfl,λb3 hb3=>⟨rfl,⟨Qo,Qo⟩,zw2 Qd rfl Qo Qo λx hxs=>⟨hig hP,zb1 hP.o.own (nb hP) g0 g8 (j:=2) Qd,λwr hx=>?_⟩⟩⟩;have hm:=Zp;have:=fG { gi W.IE g with name:=x } hP Qd ⟨by show x.size<=_;omega,mK.nx,mK.lo,mK.dr,mK.sh⟩ rfl rfl rfl (by show 2+1<=14;decide) hx
  rwa[eG] at this
 case refine_15=>
  refine((hS.step hx).pick Mo Qo hs).mono ?_;rintro e w8 ⟨v,he,hk,_,hP⟩;refine⟨_,he,hk,rfl,hig hP,zb1 hP.o.own (nb hP) g0 g8 (j:=3) Qd,λwr hx=>?_⟩;have:=fG { gi W.IE g with R2:=v } hP Qd ⟨mK.nm,mK.nx,mK.lo,mK.dr,mK.sh⟩ rfl rfl rfl (by show 3+1<=14;decide) hx
  rwa[eG] at this
 case refine_16=>
  refine((hS.step hx).pick Mo Qo hs).mono ?_;rintro e w8 ⟨v,he,hk,⟨p0,_,p2⟩,hP⟩;have p2:=p2 Qd;refine⟨_,he,hk,rfl,⟨Qo,Qo⟩,hig hP,zb1 hP.o.own (nb hP) g0 g8 (j:=4) Qd,λwr hx=>?_⟩;have:=fG { gi W.IE g with IF:=v-1 } hP Qd ⟨mK.nm,mK.nx,mK.lo,mK.dr,mK.sh⟩ rfl rfl rfl (by show 4+1<=14;decide) hx
  rwa[eG] at this
 case refine_17=>
  refine((hS.step hx).pick Mo Qo hs).mono ?_;rintro e w8 ⟨v,he,hk,⟨p0,_,p2⟩,hP⟩;have p2:=p2 Qd;refine⟨_,he,hk,rfl,hig hP,zb1 hP.o.own (nb hP) g0 g8 (j:=6) Qd,λwr hx=>?_⟩;have:=fG { gi W.IE g with next:=v } hP Qd ⟨mK.nm,⟨by show _<=v;omega,by show v<=_;omega⟩,mK.lo,mK.dr,mK.sh⟩ rfl rfl rfl (by show 6+1<=14;decide) hx
  rwa[eG] at this
 case refine_18=>
  have hQ:=hS.step hx;refine(zus hQ.d.r.rd Qo).mono ?_;rintro e w8 ⟨B,p,he,hB,hr,hy⟩;have hP:=hQ.drawn Mo hr hy;refine⟨_,_,_,_,_,_,_,_,_,he,OZ hQ.d.r hy hs,rfl,hig hP,zb1 hP.o.own (nb hP) g0 g8 (j:=8) Qd,λRg Rt=>?_⟩;have hsx:Q0 (QS 8 m) w8 (RN w8 m.gO (Int.toNat g*14+8) (Za B p)):=F3
  have hR2:∀ds:List Nat,(∀x∈ds,x<w.heap.size)->X0 ds Rg (WW W g B) (Oo m g.toNat (P5 (m.ms g.toNat) p)):=λds hd=>by
   have hz:=hQ.d.ext.size
   have cA:∀x∈QS 8 m++([b,b1]++ds),x<wr.heap.size:=λx hm=>by
    rcases Ip.1 hm with h1|h1
    ·exact(hQ.o.own.lt x h1).2
    ·rcases Ip.1 h1 with h2|h2
     ·exact hs x h2
     ·have:=hd x h2;omega
   have hsm:∀x∈[b,b1]++ds,x∈QS 8 m++([b,b1]++ds):=λx hm=>Iz _ hm
   have CN0:Q0 (QS 8 m++([b,b1]++ds)) w8 (RN w8 m.gO (Int.toNat g*14+8) (Za B p)):=hsx.mono λx hm=>Ic _ hm
   have hnb:∀x∈QS 8 m,x∉[b,b1]++ds:=λx hx hm=>by
    rcases Ip.1 hm with h2|h2
    ·exact nb hP x hx h2
    ·have:=(hP.o.own.lt x hx).1;have:=hd x h2;omega
   have hR:=zs9 hP.o.own hnb g0 g8 (B:=B) (p:=p) (((hB.rl _ cA).ext CN0).less hsm) (((hB.rd _ cA).ext CN0).less hsm);exact(hR.ext (Rt.mono λx hm=>Ic _ hm)).less λx hm=>Iz _ hm
  have hm:=Zp;have hl5:=hB.ll;have hl4:=hB.dl;refine⟨WW W g B,Oo m g.toNat (P5 (m.ms g.toNat) p),?_,Nk hl g0 g1 ⟨mK.nm,mK.nx,by show B.locals.length<=_;omega,by show B.RW.length<=_;omega,mK.sh⟩,hR2,hP.aft ltc hsx Rt Qd⟩;simp[Qa,WW,Rw,Oo]
 case refine_19=>
  have rM:=Ot rM;have hrs:=(sV hS).g.IH g g0 g1;refine⟨hig hS,_,_,_,(sV hS).g.RY g0 g1,hig hS,_,_,_,(sV hS).g.RY g0 g1,hrs.ix Zz c10 rM,_,hrs.f c10 rM (j:=1) rfl,hrs.ix Zz c10 rM,zt0 hS.o.own (nb hS) g0 g8 c10 rM (j:=1) Qd,λwr hx=>?_⟩;have hM:=hS.o.own.BK9 (i:=g) (c:=c1) g0 g8 c10 rM (j:=1) (vs:=[.bool (!(Qb W g c1).on)]) (x:={ Qb W g c1 with on := !(Qb W g c1).on }) rfl (by show 1+1<=5;decide);have:=hS.btv (W':=RR W g c1 { Qb W g c1 with on := !(Qb W g c1).on }) ltc (Nk hl g0 g1 ⟨mK.nm,mK.nx,mK.lo,mK.dr,by show (List.set _ _ _).length<=_;rw[I0];exact mK.sh⟩) hM (N9 Qo) hx Qd
  rwa[show Qa (RR W g c1 { Qb W g c1 with on := !(Qb W g c1).on }) m=Qa W m from eG _] at this
 case refine_20=>
  have rM:=Ot rM;have hrs:=(sV hS).g.IH g g0 g1;have hp:=Y2.1 (iv.wp.s g c1 g0 Qo c10 rM).f;refine⟨hig hS,_,_,_,(sV hS).g.RY g0 g1,hig hS,_,_,_,(sV hS).g.RY g0 g1,hrs.ix Zz c10 rM,(Qb W g c1).IL,hrs.f c10 rM (j:=0) rfl,⟨Qo,Qo⟩,hrs.ix Zz c10 rM,zt0 hS.o.own (nb hS) g0 g8 c10 rM (j:=0) Qd,λwr hx=>?_⟩;have hM:=hS.o.own.BK9 (i:=g) (c:=c1) g0 g8 c10 rM (j:=0) (vs:=[I ((Qb W g c1).IL+1)]) (x:={ Qb W g c1 with IL:=(Qb W g c1).IL+1 }) rfl (by show 0+1<=5;decide);have:=hS.btv (W':=RR W g c1 { Qb W g c1 with IL:=(Qb W g c1).IL+1 }) ltc (Nk hl g0 g1 ⟨mK.nm,mK.nx,mK.lo,mK.dr,by show (List.set _ _ _).length<=_;rw[I0];exact mK.sh⟩) hM (N9 Qo) hx Qd
  rwa[show Qa (RR W g c1 { Qb W g c1 with IL:=(Qb W g c1).IL+1 }) m=Qa W m from eG _] at this
 case refine_21=>
  have hQ:=hS.step hx;refine(zuv hQ.o.own iv).mono ?_;rintro e w8 ⟨V,he,hlV,hMV,hxV⟩;refine⟨_,_,_,_,_,_,_,_,_,_,he,hxV.kept λx hm=>⟨hs x hm,λhm2=>nb hQ x hm2 hm⟩,λRg Rt=>hQ.btv ltc hlV hMV hxV Rt Qd⟩
structure Bx (rb:Nat) (c:OA) (L N:Nat) (bs:List Nat) (w0 w:Wo) (W:Q7) (m:MW):Prop where
 ln:Xk W
 rd:X0 (rb::bs) w W m
 r:RS rb c L N bs w
 s:Sc w0 (rb::bs) w
section
variable {rb b b2:Nat}{c:OA}{L C N:Nat}{bs:List Nat}{w0 w w':Wo}{W W':Q7}{m m':MW}
def Bx.step(h:Bx rb c L N bs w0 w W m)(hx:Q0 bs w w'):Bx rb c L N bs w0 w' W m:=⟨h.ln,h.rd.ext (hx.mono λ_ hm=>I3 _ hm),h.r.step hx,h.s.B18 hx⟩
def Bx.call{f:FuncId}{args:Array Va}{k:Nat}{Q:Int->Prop}(h:Bx rb c L N bs w0 w W m)(hs:∀x∈bs,x<w.heap.size)(hc:Cz f args w λe w'=>∃v,e=.returned (I v)/\Q v/\JR rb c L (N+k) w'/\Q0 [rb] w w') :
  Cz f args w λe w'=>∃v,e=.returned (I v)/\Q9 bs w w'/\Q v/\Bx rb c L (N+k) bs w0 w' W m:=
 hc.mono λe w' ⟨v,he,hq,hr,hx⟩=>⟨v,he,OZ h.r hx hs,hq,h.ln,h.rd.ext (hx.mono λx hm=>by
  have:x=rb:=by simpa using hm
  rw[this];exact Ib),h.r.upd hr,h.s.B19 hx⟩
def Bx.rd0(h:Bx rb c L N bs w0 w W m):X0 [] w W m:=h.rd.less Qs
def zsi(h:Fc c L w0)(hC:L<=C)(hx:Q0 [] w0 w)(hn:∀x∈bs,w0.heap.size<=x)(hs:∀x∈bs,x<w.heap.size) :
  Cz Us #[.slice c L C] w λe wv=>∃rb c' L',e=.returned (.pointer (some ⟨rb,0,none⟩))/\Q9 bs w wv/\RS rb c' L' 0 bs wv/\Sc w0 (rb::bs) wv:=by
 refine(zi1 (h.ext hx) hC).mono ?_;rintro e wv ⟨rb,c',L',he,hrb,hR,SD,Cg8⟩
 refine⟨rb,c',L',he,Qf SD hs,⟨hR,λhm=>by
  have:=hs rb hm;omega,λa' ha'=>?_⟩,⟨hx.trans SD,λx hm=>?_⟩⟩
 ·rcases Cg8 a' ha' with h0|⟨h0,a,ha,hab⟩
  ·exact .inr h0
  ·refine .inl λhm=>?_
   obtain⟨a0,x0,ha0,_,_,h30⟩:=h 0 h0;have Si:=World.block_lt_of_cell? w0 _ h30;rw[Zv] at Si;rw[ha] at ha0;cases ha0;have:=hn _ hm;omega
 ·rcases Ik.1 hm with h1|h1
  ·have:=hx.size;omega
  ·exact hn x h1
def zsf(h:RS rb c L 0 bs w)(s:Sc w0 (rb::bs) w)(hs:∀x∈bs,x<w.heap.size) :
  Cz XZ #[.pointer (some ⟨rb,0,none⟩)] w λe w'=>∃(W:Q7) (m:MW),e=.returned (.agg (Qa W m).toArray)/\Q9 bs w w'/\Bx rb c L 1500 bs w0 w' W m:=
 (zut h.rd Qd).mono λe w' ⟨v,he,W,m,hv,hl,hr,hR,hx⟩=>⟨W,m,by rw[he,hv],OZ h hx hs,hl,hr _ λx hm=>by
  rcases Ik.1 hm with h1|h1
  ·rw[h1];exact h.rd.lt
  ·exact hs x h1,h.upd (hR.mono Qd),s.B19 hx⟩
structure zwq (w0 w:Wo) (W:Q7) (m:MW):Prop where
 ln:Xk W
 rd:X0 [] w W m
 ext:Q0 [] w0 w
def Bx.dn(h:Bx rb c L N bs w0 w W m)(hx:Q0 bs w w'):zwq w0 w' W m:=⟨h.ln,(h.step hx).rd0,(h.step hx).s.ext⟩
end
section
variable {c:OA}{L C:Nat}{w:Wo}
def Ky(h:Fc c L w)(hC:L<=C) :
  Cz Jm #[.slice c L C] w λe w'=>∃(W:Q7) (m:MW) (k:Int),e=.returned (.tuple #[.agg (Qa W m).toArray,I k])/\zwq w w' W m:=by
 refine(Kp c L C (R:=λv w'=>∃(W:Q7) (m:MW) (k:Int),v=.tuple #[.agg (Qa W m).toArray,I k]/\zwq w w' W m) ?_).mono λe w' ⟨v,he,W,m,k,hv,h1⟩=>⟨W,m,k,by rw[he,hv],h1⟩
 intro b hb wr hx hs;refine(zsi (bs:=[b]) h hC hx (by simpa using hb) hs).mono ?_;rintro e wv ⟨rb,c',L',he,hk,hR,hS⟩;refine⟨_,he,hk,λRa SD gZ=>?_⟩;refine(zsf (hR.step SD) (hS.B18 SD) gZ).mono ?_;rintro e1 RF ⟨W,m,mJ,hk1,hB⟩;refine⟨_,_,_,_,_,_,_,_,_,_,mJ,hk1,λRg Rt Wg=>?_⟩;refine((hB.step Rt).call Wg (zv1 (hB.step Rt).r.rd Qd)).mono ?_;rintro e2 RH ⟨t,bS,uB,_,hB2⟩;exact⟨_,bS,uB,λRL Ru=>⟨W,m,t,rfl,hB2.dn Ru⟩⟩
end
section
open Go.RowKit Go.ChangeShapes
def ztj:Tryz.prog.underlying TQ=some (.int .u8):=Qk
def u_sl_uint8:Tryz.prog.underlying ty_sl_uint8=some (.slice TQ):=Qk
def zro:Tryz.prog.cellsOf TQ=1:=Qk
def op_bytes{H:Type}{en:TypeId×Va->H}{w:Wo}{base:Nat}{spare:Nat->Bool}{held:Bool}{fuel:Nat}{cs:List Va}{x:DataW H×List MemPlace}(h:DataW.trod en Tryz.prog w base spare held fuel ty_sl_uint8 cs=some x) :
  ∃(o:OA) (cap L:Nat),cs=[.slice o L cap]/\Fc o L w/\L<=cap:=by
 obtain⟨o,len,cap,rfl,h1,_,h3⟩:=zq0 u_sl_uint8 h;refine⟨o,cap,len,rfl,λi hi=>?_,h1⟩;obtain⟨a,n,y,ec,ho,hc,ht⟩:=h3 i hi;rw[zro,Nat.mul_one] at hc;obtain⟨v,rfl,_,hw⟩:=DataW.trod_int ztj ht;have hv:0<=v/\v<=255:=by simpa[Lit.wf,IntKind.min,IntKind.max,IntKind.signed,IntKind.bits] using hw
 obtain⟨_,_,Wn⟩:=World.cells?_some hc;have:=Wn 0 Qd;rw[JE,Nat.add_zero] at this;exact⟨a,v,ho,hv.1,hv.2,this⟩
end
def X0.sc{bs:List Nat}{w0 w1:Wo}{W:Q7}{m:MW}(h:X0 [] w0 W m)(s:Sc w0 bs w1):X0 bs w1 W m:=(h.wide (cs:=bs) λx hm=>.inr (s.new x hm)).ext s.ext.of_nil
def X0.sc0{bs:List Nat}{w0 w1:Wo}{W:Q7}{m:MW}(h:X0 [] w0 W m)(s:Sc w0 bs w1):X0 [] w1 W m:=(h.sc s).less Qs
section
variable {W:Q7}{c:Int}
def zcb{g:Int}(h:¬Qi W g c<0):QX W g c (Qi W g c).toNat/\Qi W g c<20/\∀j:Nat,j<20->QX W g c j->QZ W c (Qi W g c).toNat<=QZ W c j:=by
 rcases Z9 (QX W g c) (QZ W c) 20 with ⟨a,_⟩|⟨_,b,a,d,_⟩
 ·unfold Qi at h;omega
 ·exact⟨a,b,d⟩
def ziu{g:Int}(h:Qi W g c<0):∀j:Nat,j<20->QX W g c j=false:=by
 rcases Z9 (QX W g c) (QZ W c) 20 with ⟨_,b⟩|⟨a,_⟩
 ·exact b
 ·unfold Qi at h;omega
def zku{g:Int}(ha:WA W)(hu:Q6 W.IE g)(h1:¬Qi W g c<0)(h2:¬Qi W g c<12):Q6 W.IE (Qi W g c-12)/\Qi W g c-12≠0/\(gi W.IE (Qi W g c-12)).IG=g/\(Qb W (Qi W g c-12) c).on:=by
 obtain⟨k1,k2,k3,k4⟩:=Oq ha hu (g:=g) (c:=c) Qo;have hm:=(zcb h1).1;rw[show (Qi W g c).toNat=12+(Qi W g c-12).toNat by omega,YZ] at hm;unfold Xy at hm;rw[show (((Qi W g c-12).toNat:Nat):Int)=Qi W g c-12 by omega] at hm;simp only[A',Iu] at hm;exact⟨k1,k2,hm.1.2.2,hm.2⟩
def zrh(ha:WA W){g:Int}(h:QA W g c):∃j:Nat,j<20/\QX W g c j:=by
 have hl:=ha.t;have hg:=ha.gl;unfold QA at h;rcases Iw _ _ |>.mp h with h|h
 ·obtain⟨j,hj,hp⟩:=Oz.1 h;exact⟨j,Qo,by rw[XN Qo];exact hp⟩
 ·obtain⟨j,hj,hp⟩:=Oz.1 h;exact⟨12+j,Qo,by rw[YZ];exact hp⟩
def zmy(ha:WA W)(hd:∀k:Int,Q6 W.IE k->k≠0->Uk W c k)(n:Nat):∀g:Int,Q6 W.IE g->(4-dep 3 W.IE g).toNat=n->QA W g c->0<=U5 W g c:=by
 induction n with
 |zero=>
  intro g hu hf;have:=OD ha hu;omega
 |succ n ih=>
  intro g hu hf AZ7;rw[Ox ha hu]
  by_cases h1:Qi W g c<0
  ·obtain⟨j,hj,hp⟩:=zrh ha AZ7;rw[ziu h1 j hj] at hp;cases hp
  ·rw[E' h1]
   by_cases h2:Qi W g c<12
   ·rw[H' h2];omega
   ·rw[E' h2];obtain⟨k1,k2,k3,k4⟩:=zku ha hu h1 h2;obtain⟨_,_,_,d,e1,e2,_⟩:=ZR ha.tree k1 k2;rw[k3] at e2;refine ih _ k1 Qo ?_;have:=hd _ k1 k2;unfold Uk at this;rw[k4] at this;have:=this.symm;simp only[A'] at this;exact this.1
def zt6(ha:WA W){g:Int}(hu:Q6 W.IE g):(∀x∈QV W.IE g,(Qb W x c).on)->QA W g c->QA W 0 c:=by
 refine TP ha.tree (Q:=λg=>(∀x∈QV W.IE g,(Qb W x c).on)->QA W g c->QA W 0 c) (λ_ h=>h) (λh hu hz ih hp AZ7=>?_) g hu;rw[Yb ha.tree hu hz] at hp;refine ih (λx hx=>hp x (I3 _ hx)) ?_;obtain⟨u0,u1,u2⟩:=Q5.1 hu;unfold QA;rw[Iw];refine .inr (Oz.2 ⟨h.toNat,Qo,?_⟩);unfold Xy;rw[show ((h.toNat:Nat):Int)=h by omega,u2,hp h Ib,Ij (show 1<=h.toNat by omega)];simp
def zdc{f:Nat->Int}:∀k:Nat,(∀j,j<k->f j=0)->XD f k=0
 |0,_=>rfl
 |k+1,h=>by
  simp only[XD];rw[zdc k (λj hj=>h j Qo),h k Qo];rfl
def zmp(wp:TU W)(dm:Dm W c)(h:Qj W c<0):Pm W c=0:=by
 have ha:=wp.a;have hl:=ha.t;have bH:Q6 W.IE 0:=ha.root
 have hn:U5 W 0 c<0:=by
  unfold Qj at h
  split at h
  ·rename_i q;omega
  ·exact h
 have hna:QA W 0 c=false:=by
  cases hh:QA W 0 c with
  |false=>rfl
  |true=>
   have:=zmy ha dm.on _ 0 bH rfl hh;omega
 unfold Pm;refine zdc _ λj hj=>zsr ?_
 cases hh:(((Q8 W (j:Int)).R8==c)&&Zi W (j:Int)) with
 |false=>rfl
 |true=>
  simp only[A',Iu] at hh;obtain⟨hc,hln⟩:=hh;unfold Zi at hln;simp only[A',Iu] at hln;obtain⟨hs,hln⟩:=hln;obtain⟨hu,_,_⟩:=wp.li Qo Qo hs
  have hp:∀x∈QV W.IE (Q8 W (j:Int)).II,(Qb W x c).on:=λx hx=>by
   unfold JM at hln;rw[hc] at hln;exact List.all_eq_true.1 hln x hx
  have AZ7:QA W (Q8 W (j:Int)).II c:=by
   unfold QA;rw[Iw];refine .inl (Oz.2 ⟨j,hj,?_⟩);unfold VT;rw[show (gi W.IK (j:Int)).state=1 from hs,show (gi W.IK (j:Int)).R8=c from hc];simp[Q8]
  rw[zt6 ha hu hp AZ7] at hna;cases hna
def zko(W:Q7)(c:Int):Nat->Int->Int->Prop
 |0,_,_=>True
 |f+1,v,g=>(∀i:Nat,i<20->QX W g c i->v<=QZ W c i)/\(g≠0->zko W c f (Qb W g c).v (gi W.IE g).IG)
def zmw(ha:WA W)(n:Nat):∀g:Int,Q6 W.IE g->(4-dep 3 W.IE g).toNat=n->(g≠0->∀f,zko W c f (Qb W g c).v (gi W.IE g).IG)->0<=U5 W g c->∀f,zko W c f (Q8 W (U5 W g c)).v (Q8 W (U5 W g c)).II:=by
 induction n with
 |zero=>
  intro g hu hf;have:=OD ha hu;omega
 |succ n ih=>
  intro g hu hf CL6 h;rw[Ox ha hu] at h ⊢
  by_cases h1:Qi W g c<0
  ·rw[H' h1] at h;omega
  ·rw[E' h1] at h ⊢;obtain⟨m1,m2,m3⟩:=zcb h1
   by_cases h2:Qi W g c<12
   ·rw[H' h2] at h ⊢;rw[XN Qo] at m1;unfold VT at m1;rw[show (((Qi W g c).toNat:Nat):Int)=Qi W g c by omega] at m1;simp only[A',Iu] at m1;have hg:(Q8 W (Qi W g c)).II=g:=m1.1.2;rw[Mx Qo,show (((Qi W g c).toNat:Nat):Int)=Qi W g c by omega] at m3;rw[hg];intro f
    cases f with
    |zero=>trivial
    |succ f=>exact⟨m3,λhz=>CL6 hz f⟩
   ·rw[E' h2] at h ⊢;obtain⟨k1,k2,k3,k4⟩:=zku ha hu h1 h2;obtain⟨_,_,_,d,e1,e2,_⟩:=ZR ha.tree k1 k2;rw[k3] at e2;rw[show (Qi W g c).toNat=12+(Qi W g c-12).toNat by omega,Mw,show (((Qi W g c-12).toNat:Nat):Int)=Qi W g c-12 by omega] at m3;refine ih _ k1 Qo (λ_ f=>?_) h;rw[k3]
    cases f with
    |zero=>trivial
    |succ f=>exact⟨m3,λhz=>CL6 hz f⟩
end
structure zt5 where
 t:Bool
 a:Int
 deriving DecidableEq,Inhabited
def Ec(x:zt5):List Va:=[.bool x.t,I x.a]
def zek:zj2 Tryz.prog Ec 2 YB 16 (⟨false,0⟩:zt5):=Mr Qk λ_=>rfl
def zh2:Tryz.prog.underlying ZK=some (.slice YB):=Qk
structure zwm (W:Q7) (g c:Int) (x:zt5):Prop where
 a0:0<=x.a
 t:x.t->x.a<12/\QX W g c x.a.toNat=true
 g:x.t=false->x.a<8/\QX W g c (12+x.a.toNat)=true
section
variable {W:Q7}{m:MW}{w:Wo}{bs:List Nat}
def Ej{t:Int}(h:X0 [] w W m)(hl:Xk W)(hW:QH W)(t0:0<=t)(t1:t<(W.IK.length:Int))(hs:(Q8 W t).state=1) :
  Cz Vf #[.agg (Qa W m).toArray,I t] w λe w'=>e=.returned (.bool (Zi W t))/\Q0 [] w w':=by
 refine(E3 _ _ _ _ _ _ _ _ _ _ t (R:=λv w'=>v=.bool (Zi W t)/\Q0 [] w w') ?_).mono λe w' ⟨v,he,hv,h3⟩=>⟨by rw[he,hv],h3⟩
 intro b wb hxb hb Wn _;have sV:=h.ext hxb;have hp:=zq7 (bs:=[]) Wn sV (Q0.refl _ _) Qs;have wp:=Qm.1 hW;obtain⟨hu,c0,c1⟩:=wp.li t0 t1 hs
 have hth:ZI W t:=by
  unfold ZI;rw[hs,Qr.2 Qo];rfl
 refine⟨_,_,_,_,_,_,_,_,_,_,hp.cs,_,Kv sV hl.c hl.g hl.f,ZI W t,λ_=>by exact PV hp hl.t,_,_,_,λ_=>hp.IK,λ_=>sV.t.ix QF t0 t1,_,λ_=>sV.t.f t0 t1 (j:=2) rfl,_,_,λ_=>TK,_,λ_=>by exact LZ hp wp.a t0 t1 c0 c1 λ_=>hu,λwr hx=>⟨?_,hxb.trans hx⟩⟩;have e:((Q8 W t).R8==(gi W.IK t).R8):=beq_self_eq_true (Q8 W t).R8;rw[hW,hth,e];rfl
def Bz{g c:Int}(h:X0 [] w W m)(ha:WA W)(c0:0<=c)(c1:c<(W.IF.length:Int)) :
  Cz T1 #[.agg (Qa W m).toArray,I g,I c] w λe w'=>∃(o:OA) (C:Nat) (l:List zt5),e=.returned (.slice o l.length C)/\Jy Ec 2 YB w.heap.size w' o C l/\(∀x∈l,zwm W g c x)/\l.length<=20/\Q0 [] w w':=by
 have lB:=ha.t;have cN:=ha.gl;refine(Bc _ _ _ _ _ _ _ _ _ _ g c (R:=λv w'=>∃(o:OA) (C:Nat) (l:List zt5),v=.slice o l.length C/\Jy Ec 2 YB w.heap.size w' o C l/\(∀x∈l,zwm W g c x)/\l.length<=20/\Q0 [] w w') ?_).mono λe w' ⟨v,he,o,C,l,hv,h1⟩=>⟨o,C,l,by rw[he,hv],h1⟩
 intro b hb;have s0:Sc w [b] w:=⟨Q0.refl _ _,λx hm=>zsl hm hb⟩
 refine⟨λvs w1=>∃(i:Nat) (o:OA) (C:Nat) (l:List zt5),vs=[.slice o l.length C,I (i:Int)]/\i<=12/\l.length<=i/\(∀x∈l,zwm W g c x)/\Sc w [b] w1/\Ob Ec 2 YB w.heap.size [b] w1 o C l,Zk 12 1,
  λwr hx _=>⟨0,none,0,[],rfl,Qo,I9 _,Qs,⟨hx,s0.new⟩,⟨.inl ⟨rfl,rfl,rfl⟩,by simp[QE]⟩⟩,?_⟩
 rintro o1 L1 C1 t1 w1 gZ ⟨i,o',C',l,he,hi,hli,lA,s,ob⟩;simp only[I6,I7,Iy,true_and,and_true] at he;obtain⟨⟨rfl,rfl,rfl⟩,rfl⟩:=he;have i0:(0:Int)<=(i:Int):=Qo;have rk:X0 [b] w1 W m:=(h.wide (cs:=[b]) λx hm=>.inr (s.new x hm)).ext s.ext.of_nil;refine⟨λIX=>?_,λRX=>?_⟩
 ·have IX:=Ot IX;refine⟨rk.t.ix QF i0 IX,_,_,_,_,_,_,_,_,_,rk.t (i:Int) i0 IX,λb1 fI=>⟨λq b2 cA Ra SD Wg Wn=>?_,λq=>⟨⟨Qo,Qo⟩,λRL Ru _=>⟨⟨i+1,o1,C1,l,rfl,Qo,Qo,lA,s.step Ru,ob.step Ru⟩,QJ (k:=i) rfl rfl Qo⟩⟩⟩⟩;have s2:=s.sJ SD fI cA;have ob2:=ob.sJ SD fI cA;obtain⟨o2,C2,w2,Wa,hk,ob3,Rt⟩:=Ob.tY zek zh2 ob2 (x:=⟨true,(i:Int)⟩) Wg s2.ext.size Wn rfl Qo Qo ZK #[false,false];refine⟨_,_,_,w2,Wa,hk,⟨Qo,Qo⟩,λRg X' _=>⟨⟨i+1,o2,C2,l++[⟨true,(i:Int)⟩],rfl,Qo,by simp;omega,λx hx=>?_,((s2.call Rt λx hx=>(ob2.own.lt x hx).1).step X').sub Qs,(ob3.step X').sub Qs⟩,QJ (k:=i) rfl rfl Qo⟩⟩;rcases Ip.1 hx with hx|hx
  ·exact lA x hx
  ·rw[IB.1 hx];refine⟨i0,λ_=>⟨by show (i:Int)<12;omega,?_⟩,λq=>by cases q⟩;show QX W g c i=true;rw[XN Qo];exact q
 ·refine⟨λvs w1=>∃(i:Nat) (o:OA) (C:Nat) (l:List zt5),vs=[.slice o l.length C,I (i:Int)]/\1<=i/\i<=8/\l.length<=11+i/\(∀x∈l,zwm W g c x)/\Sc w [b] w1/\Ob Ec 2 YB w.heap.size [b] w1 o C l,Zk 8 1,
   λwr hx _=>⟨1,o1,C1,l,rfl,Qo,Qo,Qo,lA,s.step hx,ob.step hx⟩,?_⟩
  clear rk lA s ob hli hi i0 RX;clear i l gZ;rintro o1 L1 C1 t1 w1 gZ ⟨i,o',C',l,he,hi1,hi,hli,lA,s,ob⟩;simp only[I6,I7,Iy,true_and,and_true] at he;obtain⟨⟨rfl,rfl,rfl⟩,rfl⟩:=he;have i0:(0:Int)<=(i:Int):=Qo;have rk:X0 [b] w1 W m:=(h.wide (cs:=[b]) λx hm=>.inr (s.new x hm)).ext s.ext.of_nil;refine⟨λIX=>?_,λ_ wr hx=>⟨o1,C1,l,rfl,(ob.step hx).own,lA,Qo,(s.step hx).ext⟩⟩;have IX:=Ot IX
  have hsl:((gi W.IE (i:Int)).IW&&((gi W.IE (i:Int)).IG==g))->c<((gi W.IE (i:Int)).IH.length:Int):=λq=>by
   rw[A'] at q;rw[ha.sl (Q5.2 ⟨i0,IX,q.1⟩)];exact c1
  refine⟨rk.g.ix i0 IX,_,rk.g.IW i0 IX,λ_=>rk.g.ix i0 IX,_,λ_=>rk.g.IG i0 IX,λ_=>rk.g.ix i0 IX,_,_,_,λ_=>rk.g.RY i0 IX,λq=>(rk.g.IH _ i0 IX).ix Zz c0 (hsl q),_,λq=>(rk.g.IH _ i0 IX).f c0 (hsl q) (j:=1) rfl,λq b2 cA Ra SD Wg Wn=>?_,λq=>⟨⟨Qo,Qo⟩,λRL Ru _=>⟨⟨i+1,o1,C1,l,rfl,Qo,Qo,Qo,lA,s.step Ru,ob.step Ru⟩,QJ (k:=i) rfl rfl Qo⟩⟩⟩;have s2:=s.put SD cA;have ob2:=ob.put SD cA;obtain⟨o2,C2,w2,Wa,hk,ob3,Rt⟩:=Ob.tY zek zh2 ob2 (x:=⟨false,(i:Int)⟩) Wg s2.ext.size Wn rfl Qo Qo ZK #[false,false];refine⟨_,_,_,w2,Wa,hk,⟨Qo,Qo⟩,λRg X' _=>⟨⟨i+1,o2,C2,l++[⟨false,(i:Int)⟩],rfl,Qo,Qo,by simp;omega,λx hx=>?_,((s2.call Rt λx hx=>(ob2.own.lt x hx).1).step X').sub Qs,(ob3.step X').sub Qs⟩,QJ (k:=i) rfl rfl Qo⟩⟩;rcases Ip.1 hx with hx|hx
  ·exact lA x hx
  ·rw[IB.1 hx];refine⟨i0,λq=>(by cases q),λ_=>⟨by show (i:Int)<8;omega,?_⟩⟩;show QX W g c (12+i)=true;rw[YZ];unfold Xy;rw[Ij hi1,Bool.true_and];exact q
end
def zp9{W:Q7}{c:Int}(h:¬M8 W c<0):QH W/\Y4 W c/\M8 W c=Qj W c:=by
 unfold M8 at h ⊢
 split at h
 ·rename_i q;exact⟨q.1,q.2.1,H' q⟩
 ·exact It (show (-1:Int)<0 by decide) h
def zp8{W:Q7}{c:Int}(h:M8 W c<0):((((!QH W)||decide (c<0))||decide (c>=(W.IF.length:Int))) || !(gi W.IF c).up||(zcl W c==0)):=by
 by_cases q:QH W/\Y4 W c/\(gi W.IF c).up=true
 ·have hp:Qj W c<0:=by
   have e:M8 W c=Qj W c:=H' q;rw[<-e];exact h
  obtain⟨q0,q1⟩:=Xg q.2.1;have wp:=Qm.1 q.1;have hz:=zmp wp.tu (zog wp q0 q1) hp;have e:zcl W c=Pm W c:=H' ⟨q.1,q.2.1⟩;rw[e,hz];simp
 ·cases h1:QH W with
  |false=>simp
  |true=>
   cases h2:(gi W.IF c).up with
   |false=>simp
   |true=>
    cases h3:Y4 W c with
    |true=>exact It ⟨h1,h3,h2⟩ q
    |false=>
     have:c<0\/c>=(W.IF.length:Int):=by
      apply Is
      intro hn;have:Y4 W c:=Qr.2 Qo;rw[this] at h3;cases h3
     rcases this with h|h <;> simp[h]
def k_FnPick{a:OA}{La Ca:Nat}{w:Wo}(ha:Fc a La w)(hca:La<=Ca) :
  Cz Ks #[.slice a La Ca] w λe w'=>e=.returned (.bool true)/\Q0 [] w w':=by
 refine(zan a La Ca (R:=λv w'=>v=.bool true/\Q0 [] w w') ?_).mono λe w' ⟨v,he,hv,h3⟩=>⟨by rw[he,hv],h3⟩
 refine⟨λ_ wr hx=>⟨rfl,hx⟩,λ_ Ra SD _=>?_⟩;refine(Ky (ha.ext SD) hca).mono ?_;rintro e wv ⟨W,m,c,he,hD⟩;have hX:=SD.trans hD.ext;have hr:=hD.rd;have hl:=hD.ln;have s0:=Sc.start wv;refine⟨_,_,_,_,_,_,_,_,_,_,_,he,Uj,λb hb=>⟨_,Ek hr hl,_,Et hr hl,λg=>by simp at g,λ_=>⟨λg=>?_,λg RO X' gX=>?_⟩⟩⟩
 ·have g:=Ot g
  have hq:(((!QH W)||decide (c<0))||decide (c>=(W.IF.length:Int)))=false->0<=c/\c<(W.IF.length:Int):=λq=>by
   simp only[I1,decide_eq_false_iff_not] at q;omega
  exact⟨_,YH hr hl.c hl.t hl.g hl.f,λq=>hr.c.ix Zy (hq q).1 (hq q).2,_,λq=>hr.c.f (hq q).1 (hq q).2 (j:=0) rfl,_,λ_=>AF hr hl,λRL Ru=>⟨by rw[zp8 g],hX.trans Ru⟩⟩
 have g:=Ou g;obtain⟨hW,hc,ep⟩:=zp9 g;rw[ep] at g ⊢;obtain⟨c0,c1⟩:=Xg hc;have wp:=Qm.1 hW;have wa:=wp.a;have lB:=wa.t;have cN:=wa.gl;have dm:=zog wp c0 c1;have h12:(gi W.IF c).cur<12:=by have:=(wp.c c c0 c1).c2;omega
 have lp:=zcw wa h12 dm.cu g;have t0:=lp.t0;have t1:Qj W c<(W.IK.length:Int):=by have:=lp.t1;omega
 have hln:Zi W (Qj W c):=by
  unfold Zi JM;rw[A',List.all_eq_true,lp.R8];exact⟨Iu.2 lp.st,lp.on⟩
 have s4:=s0.put X' hb;refine(Ej (hr.sc0 s4) hl hW t0 t1 lp.st).mono ?_;rintro e1 RF ⟨mJ,eR⟩;rw[hln] at mJ;have s5:=s4.RJ eR;have r5:=hr.sc s5;refine⟨_,mJ,Qf eR gX,λ_=>r5.t.ix QF t0 t1,_,λ_=>r5.t.f t0 t1 (j:=2) rfl,λq=>?_,λ_=>⟨r5.c.ix Zy c0 c1,_,r5.c.f c0 c1 (j:=1) rfl,λ_=>r5.c.ix Zy c0 c1,_,λ_=>r5.c.f c0 c1 (j:=2) rfl,λq=>⟨r5.c.ix Zy c0 c1,_,r5.c.f c0 c1 (j:=1) rfl,λSw eM=>⟨?_,hX.trans (s5.step eM).ext⟩⟩,λq=>⟨r5.t.ix QF t0 t1,_,r5.t.f t0 t1 (j:=5) rfl,r5.t.ix QF t0 t1,_,r5.t.f t0 t1 (j:=1) rfl,?_⟩⟩⟩
 ·have:(Q8 W (Qj W c)).R8=c:=lp.R8;simp[show (gi W.IK (Qj W c)).R8=c from this] at q
 ·have e:Qj W c=(gi W.IF c).cur:=by
   unfold Qj;rw[H' (by simpa using q)]
  rw[e];simp
 have en:Qj W c=U5 W 0 c:=by
  unfold Qj;rw[E' (by simp only[Bool.and_eq_false_iff,decide_eq_false_iff_not] at q;omega)]
 have Ab1:=zmw wa (c:=c) _ 0 wa.root rfl (λh=>It rfl h) (by rw[<-en];omega);rw[<-en] at Ab1;have uC:=(wp.li t0 t1 lp.st).1;clear SD ha en q g he mJ hb gX X' eR s4;generalize Qj W c=t at *;refine⟨λvs w1=>∃v g:Int,vs=[I v,I g]/\Q6 W.IE g/\(∀f,zko W c f v g)/\Sc wv [b] w1,λvs _=>(dep 3 W.IE (Y5 1 vs)).toNat,λwr hx _=>⟨_,_,rfl,uC,Ab1,s5.step hx⟩,?_⟩;clear Ab1 uC s5 r5;rintro v1 g1 RH Wg ⟨v',g',he,uC,Ab1,s⟩;simp only[I6,I7,true_and,and_true] at he;obtain⟨rfl,rfl⟩:=he;intro U' rD hs8;have s8:=s.step rD;refine(Bz (hr.sc0 s8) wa c0 c1).mono ?_;rintro e2 Sx ⟨o,C,l,bS,hO,lA,DB0,Wc⟩;have s9:=s8.RJ Wc;have ob:=Ob.of (bs:=[b]) hO hs8;refine⟨_,_,_,bS,Qf Wc hs8,λvs w1=>∃i:Nat,vs=[I (i:Int)]/\i<=l.length/\Sc wv [b] w1/\Ob Ec 2 YB U'.heap.size [b] w1 o C l,Zk l.length 0,λwr hx _=>⟨0,rfl,Ig _,s9.step hx,ob.step hx⟩,?_⟩;clear s9 ob s8 s rD Wg hO Wc bS;rintro i1 w4 gX ⟨i,he,hi,s,ob⟩;simp only[I6,I7,true_and,and_true] at he;subst he;have rk:=hr.sc s;have i0:(0:Int)<=(i:Int):=Qo;refine⟨λIX=>?_,λ_=>⟨λ_ wr hx=>⟨rfl,hX.trans (s.step hx).ext⟩,λhz=>?_⟩⟩
 ·have IX:=Ot IX;have hs:=lA (gi l (i:Int)) (by rw[XT Qo];exact List.getElem_mem _);have cx:=ob.rd zek.len;have gd:=(Ab1 1).1;have ht:(gi l (i:Int)).t->(gi l (i:Int)).a<(W.IK.length:Int):=λq=>by have:=(hs.t q).1;omega
  have hg:(!(gi l (i:Int)).t)->(gi l (i:Int)).a<(W.IE.length:Int)/\c<((gi W.IE (gi l (i:Int)).a).IH.length:Int):=λq=>by
   have q:=hs.g (by simpa using q);have h8:(gi l (i:Int)).a<(W.IE.length:Int):=Qo;refine⟨h8,?_⟩;have hm:=q.2;rw[YZ] at hm;unfold Xy at hm;rw[show (((gi l (i:Int)).a.toNat:Nat):Int)=(gi l (i:Int)).a by have:=hs.a0;omega] at hm;simp only[A'] at hm;rw[wa.sl (Q5.2 ⟨hs.a0,h8,hm.1.2.1⟩)];exact c1
  refine⟨ob.own.ix i0 IX,_,(cx (i:Int) i0 IX).get 0 _ rfl,λ_=>ob.own.ix i0 IX,_,λ_=>(cx (i:Int) i0 IX).get 1 _ rfl,λq=>rk.t.ix QF hs.a0 (ht q),_,λq=>rk.t.f hs.a0 (ht q) (j:=5) rfl,λ_=>ob.own.ix i0 IX,_,λ_=>(cx (i:Int) i0 IX).get 0 _ rfl,λ_ _=>ob.own.ix i0 IX,_,λ_ _=>(cx (i:Int) i0 IX).get 1 _ rfl,λq _=>rk.g.ix hs.a0 (hg q).1,_,_,_,λq _=>rk.g.RY hs.a0 (hg q).1,λq _=>(rk.g.IH _ hs.a0 (hg q).1).ix Zz c0 (hg q).2,_,λq _=>(rk.g.IH _ hs.a0 (hg q).1).f c0 (hg q).2 (j:=2) rfl,λq=>?_,λ_=>⟨⟨Qo,Qo⟩,λwr hx _=>⟨⟨i+1,Qs,Qo,s.step hx,ob.step hx⟩,QJ (k:=i) rfl rfl Qo⟩⟩⟩
  exfalso
  have a0:=hs.a0
  cases hx:(gi l (i:Int)).t with
  |true=>
   have h1:=hs.t hx;have h2:=gd _ Qo h1.2;rw[Mx Qo,show (((gi l (i:Int)).a.toNat:Nat):Int)=(gi l (i:Int)).a by omega] at h2;have h2:v1<=(gi W.IK (gi l (i:Int)).a).v:=h2;rw[hx] at q;simp only[Bool.true_and,Bool.not_true,Bool.false_and,Bool.or_false,Il] at q;omega
  |false=>
   have h1:=hs.g hx;have h2:=gd _ Qo h1.2;rw[Mw,show (((gi l (i:Int)).a.toNat:Nat):Int)=(gi l (i:Int)).a by omega] at h2;have h2:v1<=(gi (gi W.IE (gi l (i:Int)).a).IH c).v:=h2;rw[hx] at q;simp only[Bool.false_and,Bool.not_false,Bool.true_and,Bool.false_or,Il] at q;omega
 ·have hz:g1≠0:=by simpa using hz
  obtain⟨u0,u1,_⟩:=Q5.1 uC;obtain⟨hp,_,_,d,e1,e2,_⟩:=ZR wa.tree uC hz;have sl:c<((gi W.IE g1).IH.length:Int):=by rw[wa.sl uC];exact c1
  exact⟨rk.g.ix u0 u1,_,_,_,rk.g.RY u0 u1,(rk.g.IH _ u0 u1).ix Zz c0 sl,_,(rk.g.IH _ u0 u1).f c0 sl (j:=2) rfl,rk.g.ix u0 u1,_,rk.g.IG u0 u1,λwr hx _=>⟨⟨_,_,rfl,hp,λf=>(Ab1 (f+1)).2 hz,s.step hx⟩,by
   show (dep 3 W.IE (gi W.IE g1).IG).toNat<(dep 3 W.IE g1).toNat;omega⟩⟩
end Go.Proofs.YtjinkcmkgnofjaaGreat
