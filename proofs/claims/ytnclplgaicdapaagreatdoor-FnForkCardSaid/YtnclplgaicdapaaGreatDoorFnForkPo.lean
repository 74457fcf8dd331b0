/- Part 15 of what the law FnFork needs. -/
import Derived.Test.YtnclplgaicdapaaGreatDoorFnForkPn
set_option linter.unusedVariables false
set_option linter.unusedSimpArgs false
set_option maxRecDepth 100000
set_option maxHeartbeats 8000000
namespace Go.Proofs.YtnclplgaicdapaaGreatDoor
open Go.RowKit
theorem z1e{P:Nat->Q7->Prop}(hP:MC P){rb:Nat}{c:OA}{L N:Nat}{w:Wo}{items:Int}(h:UK rb c L N w)(hN:N<=700000000000)(hi:items<=27) :
  Cz VU #[.pointer (some ⟨rb,0,none⟩),I items] w λe w'=>∃(W:Q7) (m:MW),e=.returned (.agg (Qa W m).toArray)/\(JS W/\P 1000 W)/\Zj 8 w.heap.size w' W m/\UK rb c L (N+1000) w'/\Q0 [rb] w w'/\∀x∈QB 8 m,x≠rb:=by
 refine(F9 (some ⟨rb,0,none⟩) items (R:=λv w'=>∃(W:Q7) (m:MW),v=.agg (Qa W m).toArray/\(JS W/\P 1000 W)/\Zj 8 w.heap.size w' W m/\UK rb c L (N+1000) w'/\Q0 [rb] w w'/\∀x∈QB 8 m,x≠rb) ?_).mono λe w' ⟨v,he,W,m,hv,h3⟩=>⟨W,m,by rw[he,hv],h3⟩
 intro b hb b1 gH wr hx hs;refine(Dr.pick ((Dr.start h).Aa6 hx hb gH) Qo hs).mono ?_;rintro e w1 ⟨v,he,hk,⟨p0,_,p2⟩,h1⟩;have p2:=p2 Qd;refine⟨_,he,hk,⟨Qo,Qo⟩,z3s (lo:=1) (hi:=4) Qd rfl Qo Qo λx x1 x4 wr hx hs=>?_⟩;obtain⟨q,rfl⟩:∃q:Nat,x=(q:Int):=⟨x.toNat,Qo⟩;have h2:=h1.step hx;refine(Ci (n:=q) Qo Qo).mono ?_;rintro e2 w2 ⟨m,aT,hM,Sy⟩
 have cN:∀x∈rb::[b,b1],x<wr.heap.size:=λx hm=>by
  rcases Ij.1 hm with h1 | h1
  ·rw[h1]; exact h2.r.rd.lt
  ·exact hs x h1
 have hK:Jd P rb c L N 1 [b,b1] w w2 (Ur q) m:=⟨zyh Qo Qo,hP.new Qo Qo,⟨h2.r.R5 Sy,h2.ext.trans Sy.of_nil,h2.new⟩,(OW.of hM cN).mono h2.ext.size⟩;refine⟨_,_,_,_,_,_,_,_,_,_,_,aT,Qe Sy hs,λb2 cN wr hx hs=>?_⟩;refine((hK.put hx cN).pick hP Qo hs).mono ?_;rintro e3 w3 ⟨v1,gP,wN,⟨p10,_,p12⟩,hK1⟩;have p12:=p12 Qd;refine⟨_,gP,wN,?_⟩;refine⟨λvs w2=>∃(k n:Nat) (W:Q7) (m:MW),vs=I (k:Int)::Qa W m/\(k:Int)<=v1/\n<=2+2*k/\Jd P rb c L N n [b,b1,b2] w w2 W m,Zt v1.toNat 0,λwr hx _=>⟨0,2,Ur q,m,rfl,p10,Qo,hK1.step hx⟩,?_⟩;clear hK1 wN gP hs hx hM hK aT Sy h1 h2 he hk;rintro i1 l Se Sm Sv Sl Sq Su Sf Sg Sj wv hs ⟨k,n,W,m,he,hk,hn,hK⟩;simp only[Qa,I5,I6,Iw,true_and,and_true] at he;obtain⟨rfl,rfl,⟨rfl,rfl,rfl⟩,⟨rfl,rfl,rfl⟩,rfl,rfl,rfl⟩:=he;refine⟨λIU=>?_,λRN wr hx hs=>?_⟩
 ·have IU:=Ot IU
  repeat' first
   | exact rfl
   | (refine And.intro ?_ ?_)
   | (refine zz1 Qd rfl Qo Qo λx=>?_)
   | (refine z3i Qd rfl Qo Qo λx=>?_)
   | (intro (b:Nat) hb)
   | (intro (wr:Wo) hx hs; refine(Jd.pick hP (Jd.step (by assumption) hx) ?_ hs).mono ?_; rotate_left; rintro e w2 ⟨v,he,hk,⟨hp0,_,gV⟩,hC⟩; have gV:=gV Qd; refine⟨_,he,hk,?_⟩)
   | (intro (wr:Wo) hx hs; refine(Jd.pick hP (Jd.put (by assumption) hx (by assumption)) ?_ hs).mono ?_; rotate_left; rintro e w2 ⟨v,he,hk,⟨hp0,_,gV⟩,hC⟩; have gV:=gV Qd; refine⟨_,he,hk,?_⟩)
   | (intro (wr:Wo) hx hs; refine(Jd.pick hP (Jd.Aa6 (by assumption) hx (by assumption) (by assumption)) ?_ hs).mono ?_; rotate_left; rintro e w2 ⟨v,he,hk,⟨hp0,_,gV⟩,hC⟩; have gV:=gV Qd; refine⟨_,he,hk,?_⟩)
   | (intro (wr:Wo) hx hs; refine(Jd.mak hP (Jd.step (by assumption) hx) hs).mono ?_; rintro e w2 ⟨W',m',a,d,he,hk,hC⟩; refine⟨_,_,_,_,_,_,_,_,_,_,_,_,he,hk,⟨Qo,Qo⟩,λwr hx _=>⟨⟨k+1,n+2,W',m',by simp[Qa],Qo,Qo,((hC.step hx).more hP Qo).sub Qs⟩,Ze (k:=k) rfl rfl Qo⟩⟩)
   | (intro (wr:Wo) hx hs; refine(Jd.mak hP (Jd.put (by assumption) hx (by assumption)) hs).mono ?_; rintro e w2 ⟨W',m',a,d,he,hk,hC⟩; refine⟨_,_,_,_,_,_,_,_,_,_,_,_,he,hk,⟨Qo,Qo⟩,λwr hx _=>⟨⟨k+1,n+2,W',m',by simp[Qa],Qo,Qo,((hC.step hx).more hP Qo).sub Qs⟩,Ze (k:=k) rfl rfl Qo⟩⟩)
   | (intro (wr:Wo) hx hs; refine(Jd.mak hP (Jd.Aa6 (by assumption) hx (by assumption) (by assumption)) hs).mono ?_; rintro e w2 ⟨W',m',a,d,he,hk,hC⟩; refine⟨_,_,_,_,_,_,_,_,_,_,_,_,he,hk,⟨Qo,Qo⟩,λwr hx _=>⟨⟨k+1,n+2,W',m',by simp[Qa],Qo,Qo,((hC.step hx).more hP Qo).sub Qs⟩,Ze (k:=k) rfl rfl Qo⟩⟩)
   | omega
 refine((hK.step hx).pick hP Qo hs).mono ?_;rintro e4 w4 ⟨v3,he4,hk4,⟨p30,_,p32⟩,hC6⟩;have p32:=p32 Qd;refine⟨_,he4,hk4,⟨Qo,Qo⟩,?_⟩;refine⟨λvs w2=>∃(k n:Nat) (W:Q7) (m:MW),vs=I (k:Int)::Qa W m/\(k:Int)<=1+v3/\n<=20+3*k/\Jd P rb c L N n [b,b1,b2] w w2 W m,Zt (1+v3).toNat 0,λW5 oH _=>⟨0,n+1,W,m,rfl,Qo,Qo,hC6.step oH⟩,?_⟩;clear hK hC6 hk4 he4 hs hx RN hk hn;clear W m n k;rintro i3 l4 oA kK nZ nV qN nU mN pK oB wv hs ⟨k,n,W,m,he,hk,hn,hK⟩;simp only[Qa,I5,I6,Iw,true_and,and_true] at he;obtain⟨rfl,rfl,⟨rfl,rfl,rfl⟩,⟨rfl,rfl,rfl⟩,rfl,rfl,rfl⟩:=he;refine⟨λIU wr hx hs=>?_,λRN=>?_⟩
 ·have IU:=Ot IU;refine((hK.step hx).pick hP Qo hs).mono ?_;rintro e5 w5 ⟨v5,he5,hk5,_,hC5⟩;refine⟨_,he5,hk5,rfl,λwr hx hs=>?_⟩;refine((hC5.step hx).weight hP Qo hs).mono ?_;rintro e6 w6 ⟨v6,he6,hk6,_,hC6⟩;refine⟨_,he6,hk6,rfl,_,TA,_,JQ,zz5 _,λwr hx hs=>?_⟩;refine((hC6.step hx).fork hP hs).mono ?_;rintro e7 w7 ⟨W7,m7,a,d,he7,hk7,hC7⟩;exact⟨_,_,_,_,_,_,_,_,_,_,_,_,he7,hk7,⟨Qo,Qo⟩,λwr hx _=>⟨⟨k+1,n+1+2,W7,m7,by simp[Qa],Qo,Qo,hC7.step hx⟩,Ze (k:=k) rfl rfl Qo⟩⟩
 ·have RN:=Ou RN;refine⟨λvs w2=>∃(k n:Nat) (W:Q7) (m:MW),vs=I (k:Int)::Qa W m/\k<=27/\n<=60+30*k/\Jd P rb c L N n [b,b1,b2] w w2 W m,Zt 27 0,λW5 oH _=>⟨0,n,W,m,rfl,Qo,Qo,hK.step oH⟩,?_⟩;clear hK hs;rintro i5 l8 l9O l9L l9C BG3 BG2 BG1 pI pH pG wv hs ⟨k,n,W,m,he,hk,hn,hK⟩;simp only[Qa,I5,I6,Iw,true_and,and_true] at he;obtain⟨rfl,rfl,⟨rfl,rfl,rfl⟩,⟨rfl,rfl,rfl⟩,rfl,rfl,rfl⟩:=he;refine⟨λIU wr hx hs=>?_,λRN wr hx=>⟨W,m,rfl,(hK.step hx).fin hP Qo⟩⟩;have IU:=Ot IU;refine((hK.step hx).item hP Qo hs (V:=W) (p:=m)).mono ?_;rintro e5 w5 ⟨k5,a5,q5,r5,s5,he5,hk5,hC5⟩;refine⟨_,_,_,_,_,he5,hk5,rfl,λwr hx hs=>?_⟩;refine((hC5.step hx).do hP Qo hs).mono ?_;rintro e6 w6 ⟨W6,m6,d,he6,hk6,hC6⟩;exact⟨_,_,_,_,_,_,_,_,_,_,_,he6,hk6,⟨Qo,Qo⟩,λwr hx _=>⟨⟨k+1,n+20+10,W6,m6,by simp[Qa],Qo,Qo,hC6.step hx⟩,Ze (k:=k) rfl rfl Qo⟩⟩
theorem z23:Tryz.prog.underlying ty_sl_uint8=some (.slice P5):=Qk
theorem z22:Tryz.prog.underlying P5=some (.int .u8):=Qk
theorem z24:Tryz.prog.underlying ZO=some .string:=Qk
theorem Jd.B31{P:Nat->Q7->Prop}(hP:MC P){rb:Nat}{c:OA}{L N n k:Nat}{bs:List Nat}{w0 w w':Wo}{W:Q7}{m:MW}(d:Dr rb c L N n bs w0 w)(hs:∀x∈bs,x<w.heap.size)(iv:JS W/\P k W)(hM:Zj 8 w.heap.size w' W m)(hr:UK rb c L (N+n+k) w')(hx:Q0 [rb] w w')(gE:∀x∈QB 8 m,x≠rb):Jd P rb c L N (n+k) bs w0 w' W m:=
 ⟨iv.1,hP.mono Qo iv.2,⟨d.r.upd (by rw[<-Nat.add_assoc]; exact hr),d.ext.trans hx,d.new⟩,⟨hM.mono d.ext.size,λx RZ hm=>by
  rcases Ij.1 hm with h1 | h1
  ·exact gE x RZ h1
  ·have:=(hM.lt x RZ).1;have:=hs x h1;omega⟩⟩
theorem zyu{P:Nat->Q7->Prop}(hP:MC P){rb:Nat}{c:OA}{L N:Nat}{w:Wo}(h:UK rb c L N w)(hN:N<=600000000000) :
  Cz Vf #[.pointer (some ⟨rb,0,none⟩)] w λe w'=>∃(W:Q7) (m:MW),e=.returned (.agg (Qa W m).toArray)/\(JS W/\P 1100 W)/\Zj 8 w.heap.size w' W m/\UK rb c L (N+1100) w'/\Q0 [rb] w w'/\∀x∈QB 8 m,x≠rb:=by
 refine(DM (some ⟨rb,0,none⟩) (R:=λv w'=>∃(W:Q7) (m:MW),v=.agg (Qa W m).toArray/\(JS W/\P 1100 W)/\Zj 8 w.heap.size w' W m/\UK rb c L (N+1100) w'/\Q0 [rb] w w'/\∀x∈QB 8 m,x≠rb) ?_).mono λe w' ⟨v,he,W,m,hv,h3⟩=>⟨W,m,by rw[he,hv],h3⟩
 intro b hb wr hx hs;refine(Dr.pick ((Dr.start h).put hx hb) Qo hs).mono ?_;rintro e w1 ⟨v,he,hk,⟨p0,_,p2⟩,h1⟩;have p2:=p2 Qd;refine⟨_,he,hk,λwr hx hs=>?_⟩;have h2:=h1.step hx;refine(z1e hP h2.r.rd Qo (items:=v) Qo).mono ?_;rintro e2 w2 ⟨W,m,aT,iv,hM,hr,hxp,gE⟩;have hK:=Jd.B31 hP h2 hs iv hM hr hxp gE;refine⟨_,_,_,_,_,_,_,_,_,_,aT,Ml h2.r hxp hs,λb1 gH wr hx hs=>?_⟩;refine((hK.put hx gH).pick hP Qo hs).mono ?_;rintro e3 w3 ⟨v3,gP,wN,_,oY⟩;refine⟨_,gP,wN,λ_=>?_,λ_ wr hx=>⟨W,m,rfl,(oY.step hx).fin hP Qo⟩⟩;refine⟨λvs w2=>∃(k:Nat) (W:Q7) (m:MW),vs=I (k:Int)::Qa W m/\k<=12/\Jd P rb c L N (0+1+1000+1) [b,b1] w w2 W m,Zt 12 0,λwr hx _=>⟨0,W,m,rfl,Qo,oY.step hx⟩,?_⟩;clear oY hK hM iv gE hr hxp aT wN gP h2 h1 hs hx;rintro i1 l Se Sm Sv Sl Sq Su Sf Sg Sj wv hs ⟨k,W,m,he,hk,hK⟩;simp only[Qa,I5,I6,Iw,true_and,and_true] at he;obtain⟨rfl,rfl,⟨rfl,rfl,rfl⟩,⟨rfl,rfl,rfl⟩,rfl,rfl,rfl⟩:=he;refine⟨λIU wr hx hs=>?_,λRN=>?_⟩
 ·have IU:=Ot IU;refine((hK.step hx).fork hP hs).mono ?_;rintro e7 w7 ⟨W7,m7,a,d,he7,hk7,hC7⟩;exact⟨_,_,_,_,_,_,_,_,_,_,_,_,he7,hk7,⟨Qo,Qo⟩,λwr hx _=>⟨⟨k+1,W7,m7,by simp[Qa],Qo,hC7.step hx⟩,Ze (k:=k) rfl rfl Qo⟩⟩
 refine⟨λvs w2=>∃(k:Nat) (W:Q7) (m:MW),vs=I (k:Int)::Qa W m/\k<=8/\Jd P rb c L N (0+1+1000+1) [b,b1] w w2 W m,Zt 8 0,λwr hx _=>⟨0,W,m,rfl,Qo,hK.step hx⟩,?_⟩;clear hK hs;rintro i3 l4 oA kK nZ nV qN nU mN pK oB wv hs ⟨k,W,m,he,hk,hK⟩;simp only[Qa,I5,I6,Iw,true_and,and_true] at he;obtain⟨rfl,rfl,⟨rfl,rfl,rfl⟩,⟨rfl,rfl,rfl⟩,rfl,rfl,rfl⟩:=he;refine⟨λIU=>⟨⟨Qo,Qo⟩,⟨by have:=Ot IU; show (0:Int)<=_; omega,by have:=Ot IU; show _<=(255:Int); omega⟩,λb3 wb hxb nT hh hn wr hx hs=>?_⟩,λ_ wr hx=>⟨W,m,rfl,(hK.step hx).fin hP Qo⟩⟩;have IU:=Ot IU;have hK1:=(hK.step hxb).step hx
 have hh2:wr.heap[b3]? = some (Obj.cells ([.int .u8 (48+(k:Int))]:List Va).toArray P5 (0,0)):=by
  rw[hx.block b3 (YY hh) hn]; exact hh
 have hc:=run_convert_bytes_arg wr ty_sl_uint8 P5 z23 z22 b3 0 1 1 [48+(k:Int)] rfl (λi hi=>by
  have:i=0:=Qo;subst this;rw[Tg hh2]; rfl) ZO z24
 refine⟨_,wr,hc,λ_ _=>rfl,?_,λO' R2 We=>?_⟩
 ·have e1:(strOfNums [48+(k:Int)]).size=1:=rfl;rw[e1]; decide
 refine((hK1.step R2).mak hP We).mono ?_;rintro e7 w7 ⟨W7,m7,a,d,he7,hk7,hC7⟩;exact⟨_,_,_,_,_,_,_,_,_,_,_,_,he7,hk7,⟨Qo,Qo⟩,λwr hx _=>⟨⟨k+1,W7,m7,by simp[Qa],Qo,hC7.step hx⟩,Ze (k:=k) rfl rfl Qo⟩⟩
structure Cl (W V:Q7):Prop where
 n:V.now=W.now
 c:V.IF=W.IF
 t:V.tasks.length=W.tasks.length
 g:V.IE.length=W.IE.length
 e:∀i:Int,0<=i->i<8->∃ss:List KN,gi V.IE i={ gi W.IE i with IG:=ss }/\ss.length=(gi W.IE i).IG.length
theorem Cl.refl(W:Q7):Cl W W:=⟨rfl,rfl,rfl,rfl,λi _ _=>⟨_,rfl,rfl⟩⟩
theorem Cl.enc{W V:Q7}(h:Cl W V)(m:MW):Qa V m=Qa W m:=by simp[Qa,h.n,h.c,h.t,h.g]
theorem Cl.len{W V:Q7}(h:Cl W V)(hl:XM W)(h8:W.IE.length=8):XM V:=by
 refine⟨by rw[h.c]; exact hl.c,by rw[h.t]; exact hl.t,by rw[h.g]; exact hl.g,λi a b=>?_⟩;rw[h.g] at b;obtain⟨ss,e,l⟩:=h.e i a Qo;have hf:=hl.f i a b;rw[e];exact⟨hf.nm,hf.nx,hf.lo,hf.dr,by show ss.length<=_; rw[l]; exact hf.sh⟩
structure Lt (base:Nat) (bs:List Nat) (w0 w:Wo) (W V:Q7) (m:MW):Prop where
 cl:Cl W V
 o:OW 8 base bs w V m
 ext:Q0 (QB 8 m) w0 w
 new:∀x∈bs,w0.heap.size<=x
section
variable {base:Nat}{bs:List Nat}{w0 w w':Wo}{W V V':Q7}{m:MW}
theorem Lt.step(h:Lt base bs w0 w W V m)(hx:Q0 bs w w'):Lt base bs w0 w' W V m:=⟨h.cl,h.o.step hx,h.ext.fresh hx λx hm=>.inl (h.new x hm),h.new⟩
theorem Lt.R9(h:Lt base bs w0 w W V m)(hc:Cl W V')(hM:Zj 8 base w' V' m)(hx:Q0 (QB 8 m) w w'):Lt base bs w0 w' W V' m:=⟨hc,⟨hM,h.o.nb⟩,h.ext.trans hx,h.new⟩
theorem z1d(h:Zj 8 base w W m)(iv:JS W) :
  Cz Pj #[.agg (Qa W m).toArray] w λe w'=>∃V:Q7,e=.returned (.agg (Qa V m).toArray)/\XM V/\Zj 8 base w' V m/\Q0 (QB 8 m) w w':=by
 refine(zbo _ _ _ _ _ _ _ _ _ _ (R:=λv w'=>∃V:Q7,v=.agg (Qa V m).toArray/\XM V/\Zj 8 base w' V m/\Q0 (QB 8 m) w w') ?_).mono λe w' ⟨v,he,V,hv,h3⟩=>⟨V,by rw[he,hv],h3⟩
 intro b hb b1 gH;have cP:=iv.wp.a.gl;have fH:=iv.wp.a.t
 have qD:∀x∈[b,b1],w.heap.size<=x:=by
  intro x hx;simp at hx;omega
 have h0:Lt base [b,b1] w w W W m:=⟨Cl.refl W,⟨h,λx hx hm=>by
  have:=(h.lt x hx).2;have:=qD x hm;omega⟩,Q0.refl _ _,qD⟩
 refine⟨λvs w2=>∃(k:Nat) (V:Q7),vs=[I (k:Int)]/\k<=12/\Lt base [b,b1] w w2 W V m/\V.IE=W.IE/\∀j:Int,(k:Int)<=j->j<12->Q9 V j=Q9 W j,Zt 12 0,λwr hx _=>⟨0,W,rfl,Qo,h0.step hx.of_nil,rfl,λ_ _ _=>rfl⟩,?_⟩;clear h0;rintro t wv hs ⟨k,V,he,hk,hL,hg,ht⟩;simp only[I5,I6,true_and,and_true] at he;subst he;have hVt:V.tasks.length=12:=by rw[hL.cl.t]; exact fH
 refine⟨λIU=>?_,λRN=>?_⟩
 ·have IU:=Ot IU;have k0:(0:Int)<=(k:Int):=Qo;have k1:(k:Int)<(V.tasks.length:Int):=Qo
  have ix:Ix m.tO W.tasks.length (k:Int):=by
   have:=hL.o.rd.t.ix QF k0 k1
   rwa[hL.cl.t] at this
  have hv:0<=(Q9 V (k:Int)).v/\(Q9 V (k:Int)).v<=100000000000000000:=by
   rw[ht _ (I3 _) Qo];rcases iv.wp.t (k:Int) k0 Qo with hz | ⟨_,hx⟩
   ·rw[hz.2]; decide
   ·exact Ys.1 hx.v
  refine⟨ix,_,hL.o.rd.t.f k0 k1 (j:=0) rfl,λ_=>⟨ix,_,hL.o.rd.t.f k0 k1 (j:=5) rfl,⟨by show _<=(Q9 V (k:Int)).v+_; omega,by show (Q9 V (k:Int)).v+_<=_; omega⟩,ix,zik hL.o.own hL.o.nb k0 k1 (j:=5) Qd,⟨Qo,Qo⟩,λwr hx _=>⟨⟨k+1,IV V (k:Int) { Q9 V (k:Int) with v:=(Q9 V (k:Int)).v+50000000000000001 },Qs,Qo,?_,hg,λj a c=>?_⟩,Ze (k:=k) rfl rfl Qo⟩⟩,λ_=>⟨⟨Qo,Qo⟩,λwr hx _=>⟨⟨k+1,V,Qs,Qo,hL.step hx,hg,λj a c=>ht j Qo c⟩,Ze (k:=k) rfl rfl Qo⟩⟩⟩
  ·refine(hL.R9 (V':=IV V (k:Int) { Q9 V (k:Int) with v:=(Q9 V (k:Int)).v+50000000000000001 }) ⟨hL.cl.n,hL.cl.c,by show (List.set _ _ _).length=_; rw[H']; exact hL.cl.t,hL.cl.g,hL.cl.e⟩ (hL.o.own.xS k0 k1 (j:=5) (vs:=[I ((Q9 V (k:Int)).v+50000000000000001)]) (x:={ Q9 V (k:Int) with v:=(Q9 V (k:Int)).v+50000000000000001 }) rfl (by show 5+1<=9; decide)) LR).step hx
  ·rw[show Q9 (IV V (k:Int) { Q9 V (k:Int) with v:=(Q9 V (k:Int)).v+50000000000000001 }) j=_ from (QG V.tasks { Q9 V (k:Int) with v:=(Q9 V (k:Int)).v+50000000000000001 } k0 k1 (j:=j) Qo),C' Qo];exact ht j Qo c
 have RN:=Ou RN;refine⟨λvs w2=>∃(k:Nat) (V:Q7),vs=[I (k:Int)]/\k<=8/\Lt base [b,b1] w w2 W V m/\∀j:Int,(k:Int)<=j->j<8->gi V.IE j=gi W.IE j,Zt 8 0,λwr hx _=>⟨0,V,rfl,Qo,hL.step hx,λj _ _=>by rw[hg]⟩,?_⟩;clear hL hg ht hs hVt;rintro k' R7 dK ⟨k2,V,he,xJ,hL,hg⟩;simp only[I5,I6,true_and,and_true] at he;subst he;refine⟨λIU=>?_,λbS wr hx=>?_⟩
 rotate_left
 ·have hK:=hL.step hx;exact⟨V,by rw[hK.cl.enc]; rfl,hK.cl.len iv.len cP,hK.o.own,hK.ext⟩
 have IU:=Ot IU;have k0:(0:Int)<=(k2:Int):=Qo;have k8:(k2:Int)<8:=Qo;have Da7:=(Kj iv.wp.a k0 k8).2.2;refine⟨λvs w2=>∃(c:Nat) (V:Q7),vs=[I (c:Int)]/\c<=(gi W.IE (k2:Int)).IG.length/\Lt base [b,b1] w w2 W V m/\(∀j:Int,(k2:Int)<j->j<8->gi V.IE j=gi W.IE j)/\∀d:Int,(c:Int)<=d->Qb V (k2:Int) d=Qb W (k2:Int) d,Zt 4 0,λwr hx _=>⟨0,V,rfl,Qo,hL.step hx,λj a c=>hg j Qo c,λd _=>by unfold Qb; rw[hg _ (I3 _) k8]⟩,?_⟩;clear hL hg dK;rintro c' Rr We ⟨c,V,he,hc,hL,hg,hsh⟩;simp only[I5,I6,true_and,and_true] at he;subst he;have hVg:V.IE.length=8:=by rw[hL.cl.g]; exact cP
 have k1:(k2:Int)<(V.IE.length:Int):=Qo;obtain⟨ss,wY,hsl⟩:=hL.cl.e (k2:Int) k0 k8;have hlen:(gi V.IE (k2:Int)).IG.length=(gi W.IE (k2:Int)).IG.length:=by rw[wY]; exact hsl
 have ix:∀{V':Q7} {w3:Wo},Lt base [b,b1] w w3 W V' m->Ix m.gO W.IE.length (k2:Int):=λhL'=>by
  have:=hL'.o.rd.g.ix (i:=(k2:Int)) k0 (by rw[hL'.cl.g]; omega)
  rwa[hL'.cl.g] at this
 refine⟨ix hL,_,_,_,hL.o.rd.g.RF k0 k1,λvC=>?_,λhgc=>⟨⟨Qo,Qo⟩,λwr hx _=>⟨⟨k2+1,V,Qs,Qo,hL.step hx,λj a d=>hg j Qo d⟩,Ze (k:=k2) rfl rfl Qo⟩⟩⟩;have vC:=Ot vC;have c0:(0:Int)<=(c:Int):=Qo;have hp:=iv.wp.s (k2:Int) (c:Int) k0 k8 c0 Qo;have hsc:=hsh (c:Int) (I3 _);have hf:=Ys.1 hp.f;have hv:=Ys.1 hp.v;rw[<-hsc] at hf hv;have xK:=hL.o.rd.g.IG _ k0 k1;have hM1:=hL.o.own.BK8 (i:=(k2:Int)) (c:=(c:Int)) k0 Qo c0 vC (j:=0) (vs:=[I ((Qb V (k2:Int) (c:Int)).floor+50000000000000001)]) (x:={ Qb V (k2:Int) (c:Int) with floor:=(Qb V (k2:Int) (c:Int)).floor+50000000000000001 }) rfl (by show 0+1<=5; decide)
 have tP:∀{V1:Q7} (s:KN),Cl W V1->Cl W (Rx V1 (k2:Int) (c:Int) s):=λ{V1} s h1=>⟨h1.n,h1.c,h1.t,by show (List.set _ _ _).length=_; rw[H']; exact h1.g,λi a d=>by
  have:=h1.g;obtain⟨s1,e1,l1⟩:=h1.e i a d;have e2:gi (Rx V1 (k2:Int) (c:Int) s).IE i=if (k2:Int)=i then { gi V1.IE (k2:Int) with IG:=(gi V1.IE (k2:Int)).IG.set (Int.toNat (c:Int)) s } else gi V1.IE i:=Yz k0 Qo a;rw[e2];split
  ·rename_i e3;subst e3;exact⟨s1.set (Int.toNat (c:Int)) s,by rw[e1],by rw[H']; exact l1⟩
  ·exact⟨s1,e1,l1⟩⟩
 have hL1:=hL.R9 (V':=Rx V (k2:Int) (c:Int) { Qb V (k2:Int) (c:Int) with floor:=(Qb V (k2:Int) (c:Int)).floor+50000000000000001 }) (tP _ hL.cl) hM1 (NG Qo)
 have hg1:∀{V1:Q7} (s:KN),V1.IE.length=8->(∀j:Int,(k2:Int)<j->j<8->gi V1.IE j=gi W.IE j)->∀j:Int,(k2:Int)<j->j<8->gi (Rx V1 (k2:Int) (c:Int) s).IE j=gi W.IE j:=λ{V1} s hl h1 j a d=>by
  rw[show gi (Rx V1 (k2:Int) (c:Int) s).IE j=_ from Yz k0 Qo Qo,C' Qo];exact h1 j a d
 have dK:∀{V1:Q7} (s:KN),V1.IE.length=8->(c:Int)<((gi V1.IE (k2:Int)).IG.length:Int)->(∀d:Int,(c:Int)+1<=d->Qb V1 (k2:Int) d=Qb W (k2:Int) d)->∀d:Int,(c:Int)+1<=d->Qb (Rx V1 (k2:Int) (c:Int) s) (k2:Int) d=Qb W (k2:Int) d:=λ{V1} s hl AK7 h1 d a=>by
  rw[Jw k0 Qo c0 AK7 k0 Qo,C' Qo];exact h1 d a
 have hg2:=hg1 { Qb V (k2:Int) (c:Int) with floor:=(Qb V (k2:Int) (c:Int)).floor+50000000000000001 } hVg hg;have Bm2:=dK { Qb V (k2:Int) (c:Int) with floor:=(Qb V (k2:Int) (c:Int)).floor+50000000000000001 } hVg vC λd a=>hsh d Qo
 have wA:(gi (Rx V (k2:Int) (c:Int) { Qb V (k2:Int) (c:Int) with floor:=(Qb V (k2:Int) (c:Int)).floor+50000000000000001 }).IE (k2:Int)).IG.length=(gi V.IE (k2:Int)).IG.length:=NA k0 k1 k0
 have hv1:Qb (Rx V (k2:Int) (c:Int) { Qb V (k2:Int) (c:Int) with floor:=(Qb V (k2:Int) (c:Int)).floor+50000000000000001 }) (k2:Int) (c:Int)={ Qb V (k2:Int) (c:Int) with floor:=(Qb V (k2:Int) (c:Int)).floor+50000000000000001 }:=by
  rw[Jw k0 k1 c0 vC k0 c0,E' ⟨rfl,rfl⟩]
 refine⟨ix hL,_,_,_,hL.o.rd.g.RF k0 k1,ix hL,_,_,_,hL.o.rd.g.RF k0 k1,xK.ix Y7 c0 vC,(Qb V (k2:Int) (c:Int)).floor,xK.f c0 vC (j:=0) rfl,⟨Qo,Qo⟩,xK.ix Y7 c0 vC,zzt hL.o.own hL.o.nb k0 Qo c0 vC (j:=0) Qd,λ_=>?_,λ_=>⟨⟨Qo,Qo⟩,λwr hx _=>⟨⟨c+1,_,Qs,Qo,hL1.step hx,hg2,Bm2⟩,Ze (k:=c) rfl rfl Qo⟩⟩⟩;generalize Rx V (k2:Int) (c:Int) { Qb V (k2:Int) (c:Int) with floor:=(Qb V (k2:Int) (c:Int)).floor+50000000000000001 }=V1 at hL1 hg2 Bm2 wA hv1;have Cc0:V1.IE.length=8:=by rw[hL1.cl.g]; exact cP
 have k11:(k2:Int)<(V1.IE.length:Int):=Qo;have Bl7:(c:Int)<((gi V1.IE (k2:Int)).IG.length:Int):=by rw[wA]; exact vC
 have CQ7:=hL1.o.rd.g.IG _ k0 k11;have ev:(Qb V1 (k2:Int) (c:Int)).v=(Qb V (k2:Int) (c:Int)).v:=by rw[hv1]
 have aB:=hL1.o.own.BK8 (i:=(k2:Int)) (c:=(c:Int)) k0 Qo c0 Bl7 (j:=2) (vs:=[I ((Qb V1 (k2:Int) (c:Int)).v+50000000000000001)]) (x:={ Qb V1 (k2:Int) (c:Int) with v:=(Qb V1 (k2:Int) (c:Int)).v+50000000000000001 }) rfl (by show 2+1<=5; decide);have hL2:=hL1.R9 (V':=Rx V1 (k2:Int) (c:Int) { Qb V1 (k2:Int) (c:Int) with v:=(Qb V1 (k2:Int) (c:Int)).v+50000000000000001 }) (tP _ hL1.cl) aB (NG Qo);exact⟨ix hL1,_,_,_,hL1.o.rd.g.RF k0 k11,ix hL1,_,_,_,hL1.o.rd.g.RF k0 k11,CQ7.ix Y7 c0 Bl7,(Qb V1 (k2:Int) (c:Int)).v,CQ7.f c0 Bl7 (j:=2) rfl,⟨Qo,Qo⟩,CQ7.ix Y7 c0 Bl7,zzt hL1.o.own hL1.o.nb k0 Qo c0 Bl7 (j:=2) Qd,⟨Qo,Qo⟩,λwr hx _=>⟨⟨c+1,_,Qs,Qo,hL2.step hx,hg1 _ Cc0 hg2,dK _ Cc0 Bl7 Bm2⟩,Ze (k:=c) rfl rfl Qo⟩⟩
end
theorem zr8{b:JB}(h:V4 b){c:Int}(c0:0<=c)(c1:c<(b.locals.length:Int)):V4 (Y5 b c):=by
 by_cases hp:0<gi b.locals c
 ·exact(zly h c0 c1 hp).1
 ·have he:=(h.each c c0 c1).1;have e0:gi b.locals c=0:=Qo;have hs:=GR b.locals c 0 c0 c1 b.locals.length;rw[E' c1] at hs;have hd:=h.dl;refine⟨h.q1,h.q2,?_,?_,?_,?_,?_,h.s1,h.s2,λd d0 d1=>?_,?_⟩
  ·simp only[Y5,H']; exact h.l1
  ·simp only[Y5,H']; exact h.l2
  ·simp only[Y5,H']; split <;> simp[hd]
  ·simp only[Y5]; have:=h.p1; omega
  ·simp only[Y5]; have:=h.p2; omega
  ·simp only[Y5,H'] at d1 ⊢;have hq:=h.each d d0 d1;have q1:=h.q1;rw[QG _ _ c0 c1 d0,e0]
   by_cases hpp:b.RJ+0>0
   ·rw[E' hpp,Pl _ _ d0 Qo];refine⟨?_,?_,λh=>by cases h⟩
    ·split <;> omega
    ·split <;> omega
   ·rw[C' hpp];refine⟨?_,?_,λhh=>?_⟩
    ·split <;> omega
    ·split <;> omega
    ·have:=hq.2.2 hh
     split <;> omega
  ·simp only[Y5,H'];have:=h.sum;rw[hs,e0]; omega
theorem zud{b:JB}(h:V4 b)(op:zxk):V4 (ZK b op).1:=by
 unfold ZK;split
 ·exact(zlq h).1
 ·split
  ·exact h
  ·rename_i hi;have hc:YQ op.pY 0 ((b.locals.length:Int)-1)=true:=by simpa using hi
   have hc:=Qu.1 hc;split
   ·exact(znd h hc.1 Qo).1
   ·split
    ·exact(zh9 h hc.1 Qo).1
    ·split
     ·exact zr8 h hc.1 Qo
     ·exact h
theorem zvc{q x:Int}{w:Wo}(hq:YQ q 1 10000=true)(h1:1<=x)(h4:x<=4) :
  Cz QN #[I q,I x] w λe w'=>∃(B:JB) (p:MG),e=.returned (.tuple #[.agg (Z2 B p).toArray,.bool true])/\V4 B/\Z6 w.heap.size w' B p/\Q0 [] w w':=by
 obtain⟨n,rfl⟩:∃n:Nat,x=(n:Int):=⟨x.toNat,Qo⟩;have hqq:=Qu.1 hq;exact(Gr (n:=n) hq (Qu.2 ⟨Qo,Qo⟩)).mono λe w' ⟨p,he,ho,hx⟩=>⟨_,p,he,zhq hqq.1 hqq.2 Qo Qo,ho,hx⟩
theorem zvb{rb:Nat}{c:OA}{L N:Nat}{w:Wo}(h:UK rb c L N w)(hN:N<=900000000000) :
  Cz XY #[.pointer (some ⟨rb,0,none⟩)] w λe w'=>∃op:zxk,e=.returned (.agg (zrz op).toArray)/\UK rb c L (N+10) w'/\Q0 [rb] w w':=by
 refine(HI (some ⟨rb,0,none⟩) (R:=λv w'=>∃op:zxk,v=.agg (zrz op).toArray/\UK rb c L (N+10) w'/\Q0 [rb] w w') ?_).mono λe w' ⟨v,he,op,hv,h1⟩=>⟨op,by rw[he,hv],h1⟩
 intro b hb b1 gH wr hx hs;refine(Dr.pick ((Dr.start h).Aa6 hx hb gH) Qo hs).mono ?_;rintro e w1 ⟨v1,he,hk,⟨p0,_,p2⟩,h1⟩;have p2:=p2 Qd;refine⟨_,he,hk,⟨Qo,Qo⟩,zz1 Qd rfl Qo Qo λx=>?_⟩;refine⟨λvs bs w2=>bs=[]/\(∃x:Int,vs=[I x])/\Dr rb c L N 2 [b,b1] w w2,⟨λ_ wr hx hs=>?_,λ_=>⟨λ_ wr hx _=>⟨rfl,⟨_,rfl⟩,(h1.step hx).more Qd⟩,λ_ wr hx _=>⟨rfl,⟨_,rfl⟩,(h1.step hx).more Qd⟩⟩⟩,?_⟩
 ·refine(Dr.pick (h1.step hx) Qo hs).mono ?_;rintro e w3 ⟨v3,he,hk,_,h3⟩;exact⟨_,he,hk,λ_ wr hx _=>⟨rfl,⟨_,rfl⟩,h3.step hx⟩,λ_ wr hx _=>⟨rfl,⟨_,rfl⟩,h3.step hx⟩⟩
 clear h1;rintro kind w2 We ⟨-,-,h2⟩;refine⟨λvs bs w2=>bs=[]/\(∃x:Int,vs=[I x])/\Dr rb c L N 4 [b,b1] w w2,λwr hx hs=>?_,?_⟩
 ·refine(Dr.pick (h2.step hx) Qo hs).mono ?_;rintro e w3 ⟨v3,he,hk,_,h3⟩;refine⟨_,he,hk,λ_ wr hx hs=>?_,λ_ wr hx _=>⟨rfl,⟨_,rfl⟩,(h3.step hx).more Qd⟩⟩;refine(Dr.pick (h3.step hx) Qo hs).mono ?_;rintro e w4 ⟨v4,he,hk,⟨q0,_,q2⟩,h4⟩;have q2:=q2 Qd;exact⟨_,he,hk,⟨Qo,Qo⟩,λwr hx _=>⟨rfl,⟨_,rfl⟩,h4.step hx⟩⟩
 clear h2;rintro DJ5 w5 mM ⟨-,-,h5⟩ wr hx hs;refine(Dr.pick (h5.step hx) Qo hs).mono ?_;rintro e w6 ⟨v6,he,hk,⟨p60,_,p62⟩,h6⟩;have p62:=p62 Qd;refine⟨_,he,hk,λwr hx hs=>?_⟩;refine(Dr.pick (h6.step hx) Qo hs).mono ?_;rintro e w7 ⟨v7,he,hk,⟨p70,_,p72⟩,h7⟩;have p72:=p72 Qd
 have hd:0<=Int.tdiv v7 29/\Int.tdiv v7 29<=1:=by
  rw[Int.tdiv_eq_ediv_of_nonneg p70];omega
 refine⟨_,he,hk,⟨Qd,⟨Qo,Qo⟩⟩,⟨Qo,Qo⟩,λb2 cN wr hx hs=>?_⟩;refine(Dr.pick (h7.put hx cN) Qo hs).mono ?_;rintro e w8 ⟨v8,he,hk,⟨p80,_,p82⟩,h8⟩;have p82:=p82 Qd;exact⟨_,he,hk,⟨Qo,Qo⟩,zz1 Qd rfl Qo Qo λx wr hx=>⟨⟨_,_,_⟩,rfl,(h8.step hx).fin Qd⟩⟩
def zg9:List Int:=[1,20,21,50,100,10000]
theorem zlb{v:Int}(h0:0<=v)(h1:v<6):YQ (gi zg9 v) 1 10000=true:=by
 have:v=0\/v=1\/v=2\/v=3\/v=4\/v=5:=Qo;rcases this with rfl | rfl | rfl | rfl | rfl | rfl <;> rfl
structure Vw (rb:Nat) (c:OA) (L N n:Nat) (bs:List Nat) (w0 w:Wo) (bt:Nat):Prop where
 d:Dr rb c L N n bs w0 w
 v:Ob Jn 1 Qc 0 (rb::bs) w (some ⟨bt,0,none⟩) 6 zg9
structure Bw (rb:Nat) (c:OA) (L N n:Nat) (bs:List Nat) (w0 w:Wo) (B:JB) (p:MG):Prop where
 P:V4 B
 d:Dr rb c L N n bs w0 w
 o:Z6 w0.heap.size w B p
 nb:∀x∈ZP p,x∉rb::bs
section
variable {rb b bt:Nat}{c:OA}{L N n k:Nat}{bs cs:List Nat}{w0 w w':Wo}{B B':JB}{p p':MG}
theorem Vw.of(h:Dr rb c L N n bs w0 w)(hx:Q0 bs w w')(hb:w.heap.size<=bt)(hh:w'.heap[bt]? = some (Obj.cells ([I 1,I 20,I 21,I 50,I 100,I 10000]:List Va).toArray Qc (0,0)))(hn:bt∉bs):Vw rb c L N n bs w0 w' bt:=
 ⟨h.step hx,.inr ⟨bt,[],rfl,Ie _,by simpa[zg9,Jn] using hh,by simp[zg9,Jn],by simp[zg9]⟩,λx hxx hm=>by
  have:x=bt:=by simpa[QE] using hxx
  subst this;rcases Ij.1 hm with h1 | h1
  ·have:=h.r.rd.lt; omega
  ·exact hn h1⟩
theorem Vw.step(h:Vw rb c L N n bs w0 w bt)(hx:Q0 bs w w'):Vw rb c L N n bs w0 w' bt:=⟨h.d.step hx,h.v.step (hx.mono λ_ hm=>I2 _ hm)⟩
theorem Vw.put(h:Vw rb c L N n bs w0 w bt)(hx:Q0 bs w w')(hb:w.heap.size<=b):Vw rb c L N n (bs++[b]) w0 w' bt:=⟨h.d.put hx hb,h.v.put (hx.mono λ_ hm=>I2 _ hm) hb⟩
theorem Vw.R5(h:Vw rb c L N n bs w0 w bt)(hx:Q0 [] w w'):Vw rb c L N n bs w0 w' bt:=h.step hx.of_nil
theorem Vw.pick(h:Vw rb c L N n bs w0 w bt)(hN:N+n<=1000000000000)(hs:∀x∈bs,x<w.heap.size){q:Int} :
  Cz Q2 #[.pointer (some ⟨rb,0,none⟩),I q] w λe w'=>∃v,e=.returned (I v)/\Q8 bs w w'/\Ep q v/\Vw rb c L N (n+1) bs w0 w' bt:=
 (Gq h.d.r.rd hN).mono λe w' ⟨v,he,hq,hr,hx⟩=>⟨v,he,Ml h.d.r hx hs,hq,⟨h.d.r.upd (by rw[<-Nat.add_assoc]; exact hr),h.d.ext.trans hx,h.d.new⟩,h.v.step (hx.mono λx hm=>by
  have:x=rb:=by simpa using hm
  subst this; exact Ia)⟩
theorem Vw.ix(h:Vw rb c L N n bs w0 w bt){v:Int}(h0:0<=v)(h1:v<6):Ix (some (Addr.mk bt 0 none)) 6 v:=h.v.own.ix h0 h1
theorem Vw.cell(h:Vw rb c L N n bs w0 w bt){v:Int}(h0:0<=v)(h1:v<6):Q1 bs w (some (Addr.mk bt 0 none)) (Int.toNat v*1) [I (gi zg9 v)]:=((h.v.rd Yb.len).less λ_ hm=>I2 _ hm) v h0 h1
theorem zxs(h:Z6 w.heap.size w' B p)(d:Dr rb c L N n bs w0 w)(hs:∀x∈bs,x<w.heap.size):∀x∈ZP p,x∉rb::bs:=λx hx hm=>by
 have:=(h.lt x hx).1;rcases Ij.1 hm with h1 | h1
 ·have:=d.r.rd.lt; omega
 ·have:=hs x h1; omega
theorem Z6.wid{base:Nat}(h:Z6 base w B p)(hx:Q0 bs w w')(hd:∀x∈ZP p,x∉bs):Z6 base w' B p:=⟨h.loc.ext hx λx hm=>hd x (Ib _ hm),h.Rz.ext hx λx hm=>hd x (Iy _ hm)⟩
theorem Bw.new(d:Dr rb c L N n bs w0 w)(hs:∀x∈bs,x<w.heap.size)(hP:V4 B)(ho:Z6 w.heap.size w' B p)(hx:Q0 [] w w'):Bw rb c L N n bs w0 w' B p:=
 ⟨hP,d.step hx.of_nil,⟨ho.loc.mono d.ext.size,ho.Rz.mono d.ext.size⟩,zxs ho d hs⟩
theorem Bw.step(h:Bw rb c L N n bs w0 w B p)(hx:Q0 bs w w'):Bw rb c L N n bs w0 w' B p:=⟨h.P,h.d.step hx,h.o.wid hx λx hm gX=>h.nb x hm (I2 _ gX),h.nb⟩
theorem Bw.put(h:Bw rb c L N n bs w0 w B p)(hx:Q0 bs w w')(hb:w.heap.size<=b):Bw rb c L N n (bs++[b]) w0 w' B p:=
 ⟨h.P,h.d.put hx hb,h.o.wid hx λx hm gX=>h.nb x hm (I2 _ gX),λx RZ hm=>by
  have IU:=(h.o.lt x RZ).2;rcases Ij.1 hm with h1 | h1
  ·exact h.nb x RZ (by rw[h1]; exact Ia)
  ·rcases Io.1 h1 with h2 | h2
   ·exact h.nb x RZ (I2 _ h2)
   ·have:x=b:=by simpa using h2
    omega⟩
theorem Bw.drawn(h:Bw rb c L N n bs w0 w B p)(hr:UK rb c L (N+n+k) w')(hx:Q0 [rb] w w'):Bw rb c L N (n+k) bs w0 w' B p:=
 ⟨h.P,⟨h.d.r.upd (by rw[<-Nat.add_assoc]; exact hr),h.d.ext.trans hx,h.d.new⟩,h.o.wid hx λx hm gX=>h.nb x hm (by
  have:x=rb:=by simpa using gX
  rw[this]; exact Ia),h.nb⟩
theorem Bw.pick(h:Bw rb c L N n bs w0 w B p)(hN:N+n<=1000000000000)(hs:∀x∈bs,x<w.heap.size){q:Int} :
  Cz Q2 #[.pointer (some ⟨rb,0,none⟩),I q] w λe w'=>∃v,e=.returned (I v)/\Q8 bs w w'/\Ep q v/\Bw rb c L N (n+1) bs w0 w' B p:=
 (Gq h.d.r.rd hN).mono λe w' ⟨v,he,hq,hr,hx⟩=>⟨v,he,Ml h.d.r hx hs,hq,h.drawn hr hx⟩
theorem Bw.op(h:Bw rb c L N n bs w0 w B p)(hN:N+n<=900000000000)(hs:∀x∈bs,x<w.heap.size) :
  Cz XY #[.pointer (some ⟨rb,0,none⟩)] w λe w'=>∃op:zxk,e=.returned (.agg (zrz op).toArray)/\Q8 bs w w'/\Bw rb c L N (n+10) bs w0 w' B p:=
 (zvb h.d.r.rd hN).mono λe w' ⟨op,he,hr,hx⟩=>⟨op,he,Ml h.d.r hx hs,h.drawn hr hx⟩
theorem Bw.do(h:Bw rb c L N n bs w0 w B p)(hs:∀x∈bs,x<w.heap.size){op:zxk} :
  Cz Yx #[.agg (Z2 B p).toArray,.agg (zrz op).toArray] w λe w'=>∃(B':JB) (p':MG) (d:Int),e=.returned (.tuple #[.agg (Z2 B' p').toArray,I d])/\Q8 bs w w'/\Bw rb c L N n bs w0 w' B' p':=
 (U1 (op:=op) h.P (h.o.loc.rd Yb.len Qs) (h.o.Rz.rd Yu.len Qs)).mono λe w' ⟨p',he,ho,hx⟩=>⟨_,p',_,he,Qe hx hs,Bw.new h.d hs (zud h.P op) ho hx⟩
structure z13 (w w':Wo) (B:JB) (p:MG):Prop where
 ll:B.locals.length<=5
 dl:B.Rz.length<=4
 rl:∀bs:List Nat,(∀x∈bs,x<w.heap.size)->znt bs w' p.lO B.locals
 rd:∀bs:List Nat,(∀x∈bs,x<w.heap.size)->ztv bs w' p.dO B.Rz
theorem Z6.bdv(h:Z6 w.heap.size w' B p)(hl:B.locals.length<=5)(hd:B.Rz.length<=4):z13 w w' B p:=
 ⟨hl,hd,λbs hs=>h.loc.rd Yb.len λx hx hm=>by have:=(h.loc.lt x hx).1; have:=hs x hm; omega,λbs hs=>h.Rz.rd Yu.len λx hx hm=>by have:=(h.Rz.lt x hx).1; have:=hs x hm; omega⟩
theorem Bw.bdv(h:Bw rb c L N n bs w0 w B p):z13 w0 w B p:=h.o.bdv (by have:=h.P.l2; omega) (by have:=h.P.l2; have:=h.P.dl; omega)
theorem zzg{o:OA}{l:List Bool}{C:Nat}(h:ztv bs w o l)(h1:1<=l.length)(hC:l.length<=C):ztv bs w (if C=Int.toNat 1 then o else o.map (·.add (Int.toNat 1*1))) l.tail:=λi i0 i1=>by
 have hl:l.tail.length=l.length-1:=Qs;rw[hl] at i1;have hc:=h (i+1) Qo Qo
 have e:gi l.tail i=gi l (i+1):=by
  obtain⟨k,rfl⟩:=Int.eq_ofNat_of_zero_le i0;rw[Ui (by rw[hl]; omega),show ((k:Int)+1)=((k+1:Nat):Int) by omega,Ui Qo];simp
 rw[e,C' (by show ¬C=1; omega)];refine T0 λj v hj=>?_
 obtain⟨a,ha,hb,Wd⟩:=hc.get j v hj;refine⟨a.add (Int.toNat 1*1),by rw[ha]; rfl,by rw[Zv]; exact hb,?_⟩;rw[Jl]
 have:Int.toNat 1*1+(Int.toNat i*1+j)=Int.toNat (i+1)*1+j:=by
  have:Int.toNat (i+1)=Int.toNat i+1:=Qo;rw[this];show 1*1+_=_;omega
 rw[this]; exact Wd
end
theorem z08{rb:Nat}{c:OA}{L N:Nat}{w:Wo}(h:UK rb c L N w)(hN:N<=800000000000) :
  Cz VT #[.pointer (some ⟨rb,0,none⟩)] w λe w'=>∃(B:JB) (p:MG),e=.returned (.agg (Z2 B p).toArray)/\z13 w w' B p/\UK rb c L (N+300) w'/\Q0 [rb] w w':=by
 refine(F4 (some ⟨rb,0,none⟩) (R:=λv w'=>∃(B:JB) (p:MG),v=.agg (Z2 B p).toArray/\z13 w w' B p/\UK rb c L (N+300) w'/\Q0 [rb] w w') ?_).mono λe w' ⟨v,he,B,p,hv,h1⟩=>⟨B,p,by rw[he,hv],h1⟩
 intro b hbA;have h0:=Dr.start h;refine⟨λvs bs w2=>∃(bt:Nat) (B:JB) (p:MG),bs=[bt]/\vs=Z2 B p/\Bw rb c L N 2 [b,bt] w w2 B p,?_,?_⟩
 ·repeat' first
   | exact rfl
   | (refine And.intro ?_ ?_)
   | (intro (bt:Nat) (wb:Wo) hx nT hh hn; have hV:=Vw.of (by assumption) hx nT hh hn)
   | (intro (bt:Nat) (wb:Wo) hx nT hh hn; have hV:=Vw.of (Dr.add h0 hbA) hx.of_nil nT hh hn)
   | (intro (bt:Nat) (wb:Wo) hx nT hh hn; have hV:=Vw.of (Dr.add (Dr.add h0 hbA) (by assumption)) hx.of_nil nT hh hn)
   | (intro (bt:Nat) (wb:Wo) hx nT hh hn; have hV:=Vw.of (Dr.add (by assumption) (by assumption)) (hx.mono λ_ hm=>Ib _ hm) nT hh hn)
   | (intro (b:Nat) hb)
   | (refine⟨_,Vw.cell (by assumption) Qo Qo,?_⟩)
   | exact Vw.cell (by assumption) Qo Qo
   | exact Vw.ix (by assumption) Qo Qo
   | (intro (wr:Wo) hx hs; refine(Vw.pick (Vw.step (by assumption) hx) ?_ hs).mono ?_; rotate_left; rintro e w2 ⟨v,he,hk,⟨hp0,_,gV⟩,hC⟩; have gV:=gV Qd; refine⟨_,he,hk,?_⟩)
   | (intro (wr:Wo) hx hs; refine(Vw.pick (Vw.put (by assumption) hx (by assumption)) ?_ hs).mono ?_; rotate_left; rintro e w2 ⟨v,he,hk,⟨hp0,_,gV⟩,hC⟩; have gV:=gV Qd; refine⟨_,he,hk,?_⟩)
   | (intro (wr:Wo) hx hs; refine(Dr.pick (Dr.step (by assumption) hx) ?_ hs).mono ?_; rotate_left; rintro e w2 ⟨v,he,hk,⟨hp0,_,gV⟩,hC⟩; have gV:=gV Qd; refine⟨_,he,hk,?_⟩)
   | (intro (wr:Wo) hx hs; refine(Dr.pick (Dr.put (by assumption) hx (by assumption)) ?_ hs).mono ?_; rotate_left; rintro e w2 ⟨v,he,hk,⟨hp0,_,gV⟩,hC⟩; have gV:=gV Qd; refine⟨_,he,hk,?_⟩)
   | (intro (wr:Wo) hx hs; refine(Dr.pick (Dr.Aa6 h0 hx hbA (by assumption)) ?_ hs).mono ?_; rotate_left; rintro e w2 ⟨v,he,hk,⟨hp0,_,gV⟩,hC⟩; have gV:=gV Qd; refine⟨_,he,hk,?_⟩)
   | (intro (wr:Wo) hx hs; have hV:=Vw.step (by assumption) hx; refine(zvc (zlb Qo Qo) Qo Qo).mono ?_; rintro e w2 ⟨B,p,he,hP,ho,hy⟩; have hB:=Bw.new hV.d hs hP ho hy; have hV2:=hV.R5 hy; refine⟨_,_,_,_,_,_,_,_,_,_,he,Qe hy hs,?_⟩)
   | (intro (wr:Wo) hx hs; have hV:=Vw.put (by assumption) hx (by assumption); refine(zvc (zlb Qo Qo) Qo Qo).mono ?_; rintro e w2 ⟨B,p,he,hP,ho,hy⟩; have hB:=Bw.new hV.d hs hP ho hy; have hV2:=hV.R5 hy; refine⟨_,_,_,_,_,_,_,_,_,_,he,Qe hy hs,?_⟩)
   | (intro (wr:Wo) hx hs; exact⟨_,_,_,rfl,rfl,Bw.put (by assumption) hx (by assumption)⟩)
   | (intro (wr:Wo) hx hs; exact⟨_,_,_,rfl,rfl,Bw.step (by assumption) hx⟩)
   | omega
 clear h0;rintro l l1 l2 Sf Sg Sj l4O l4L l4C gN w31 C68 ⟨bt,B,p,hbt,hv,hB⟩ wr hx hs;have:gN=bt:=by simpa using hbt
 subst this;simp only[Z2,I5,I6,Iw,true_and,and_true] at hv;obtain⟨rfl,rfl,rfl,⟨rfl,rfl,rfl⟩,rfl,rfl,rfl⟩:=hv;refine(Bw.pick (hB.step hx) Qo hs).mono ?_;rintro e1 w1 ⟨v1,jG,hk1,⟨p10,_,p12⟩,hB1⟩;have p12:=p12 Qd;refine⟨_,jG,hk1,?_⟩;refine⟨λvs w2=>∃(k n:Nat) (B:JB) (p:MG),vs=I (k:Int)::Z2 B p/\(k:Int)<=v1/\n<=3+10*k/\Bw rb c L N n [b,gN] w w2 B p,Zt v1.toNat 0,λwr hx _=>⟨0,2+1,B,p,rfl,p10,Qo,hB1.step hx⟩,?_⟩;clear hB1 hk1 jG hs hx hB C68;clear B p;rintro i1 l5 l6 l7 l8O l8L l8C l9O l9L l9C w36 hs ⟨k,n,B,p,he,hk,hn,hK⟩;simp only[Z2,I5,I6,Iw,true_and,and_true] at he;obtain⟨rfl,rfl,rfl,rfl,⟨rfl,rfl,rfl⟩,rfl,rfl,rfl⟩:=he;refine⟨λIU wr hx hs=>?_,λRN wr hx hs=>?_⟩
 ·have IU:=Ot IU;refine(Bw.op (hK.step hx) Qo hs).mono ?_;rintro e2 w2 ⟨op,aT,xJ,hB2⟩;refine⟨_,_,_,aT,xJ,rfl,λwr hx hs=>?_⟩;refine(Bw.do (hB2.step hx) hs (op:=op)).mono ?_;rintro e3 w3 ⟨B3,p3,d,gP,wN,hB3⟩;exact⟨_,_,_,_,_,_,_,_,_,_,gP,wN,⟨Qo,Qo⟩,λwr hx _=>⟨⟨k+1,n+10,B3,p3,by simp[Z2],Qo,Qo,hB3.step hx⟩,Ze (k:=k) rfl rfl Qo⟩⟩
 have RN:=Ou RN;refine(Bw.pick (hK.step hx) Qo hs).mono ?_;rintro e4 w4 ⟨v4,he4,hk4,_,hB4⟩;refine⟨_,he4,hk4,λ_ wr hx=>⟨B,p,rfl,(hB4.step hx).bdv,(hB4.step hx).d.fin Qo⟩,λ_ wr hx hs=>?_⟩;have l1:=hK.P.l1;have l2:=hK.P.l2;have hdl:=hK.P.dl;have hP:=hK.P;have q2:=hP.q2;have p1:=hP.p1;have p2:=hP.p2;have s1:=hP.s1;have s2:=hP.s2;refine(Bw.pick (hB4.step hx) Qo hs).mono ?_;rintro e5 w5 ⟨v5,he5,hk5,⟨p50,_,p52⟩,hB5⟩;have p52:=p52 Qo;refine⟨_,he5,hk5,λwr hx hs=>?_⟩;refine(Bw.pick (hB5.step hx) Qo hs).mono ?_;rintro e6 w6 ⟨v6,he6,hk6,_,hB⟩;have hnb:∀x∈ZP p,x∉[b,gN]:=λx hx hm=>hB.nb x hx (I2 _ hm)
 have qD:∀x∈ZP p,w.heap.size<=x:=λx hx=>(hB.o.lt x hx).1
 have fin:∀{w7 wr:Wo} {B':JB},Z6 w.heap.size w7 B' p->Q0 (ZP p) w6 w7->Q0 [b,gN] w7 wr->B'.locals.length<=5->B'.Rz.length<=4->z13 w wr B' p/\UK rb c L (N+300) wr/\Q0 [rb] w wr:=λ{w7 wr B'} ho RZ R2 hl hd=>by
  have hd2:Dr rb c L N (n+1+1+1) [b,gN] w w7:=⟨hB.d.r.call RZ (λhm=>hB.nb rb hm Ia) λa ha=>by
   rcases h.ltc a ha with h3 | h3
   ·exact .inl λhm=>by have:=qD _ hm; omega
   ·exact .inr h3,hB.d.ext.fresh RZ λx hm=>.inl (qD x hm),hB.d.new⟩
  have hd3:=hd2.step R2;exact⟨(ho.wid R2 hnb).bdv hl hd,hd3.fin Qo⟩
 have B82:∀{wr:Wo} {B':JB},B'.locals=B.locals->B'.Rz=B.Rz->Q0 [b,gN] w6 wr->z13 w wr B' p/\UK rb c L (N+300) wr/\Q0 [rb] w wr:=λ{wr B'} el ed R2=>by
  have k:=hB.step R2;have hb:=k.bdv;exact⟨⟨by rw[el]; exact hb.ll,by rw[ed]; exact hb.dl,by rw[el]; exact hb.rl,by rw[ed]; exact hb.rd⟩,k.d.fin Qo⟩
 have Wl:Ix p.dO B.Rz.length v5:=hB.o.Rz.ix p50 Qo;have CA5:Ix p.lO B.locals.length v5:=hB.o.loc.ix p50 Qo;refine⟨_,he6,hk6,λ_=>⟨⟨Qo,Qo⟩,λwr hx=>⟨{ B with RJ:=B.RJ+1 },p,rfl,B82 rfl rfl hx⟩⟩,λ_=>⟨λ_=>⟨Wl,_,(hB.o.Rz.rd Yu.len λx hx=>hnb x (Iy _ hx)) v5 p50 Qo,Wl,hB.o.Rz.wr Yu.len (λx hx=>hnb x (Iy _ hx)) p50 Qo (j:=0) (n:=1) Qd,λwr hx=>?_⟩,λ_=>⟨λ_=>⟨CA5,hB.o.loc.wr Yb.len (λx hx=>hnb x (Ib _ hx)) p50 Qo (j:=0) (n:=1) Qd,λwr hx=>?_⟩,λ_=>⟨λ_ wr hx=>⟨{ B with IZ:=0 },p,rfl,B82 rfl rfl hx⟩,λ_=>⟨λ_=>⟨⟨Qo,Qo,?_⟩,λwr hx=>?_⟩,λ_=>⟨λ_ ba hba wr hx hs hh=>?_,λ_=>⟨λ_=>⟨⟨Qo,Qo⟩,⟨Qo,Qo⟩,λwr hx=>⟨{ B with RJ:=B.RJ-1,SB:=B.SB+1 },p,rfl,B82 rfl rfl hx⟩⟩,λ_ wr hx=>⟨B,p,rfl,B82 rfl rfl hx⟩⟩⟩⟩⟩⟩⟩⟩
 ·exact⟨{ B with Rz:=B.Rz.set v5.toNat (!gi B.Rz v5) },p,by simp[Z2],fin (hB.o.B35 p50 Qo _) (hB.o.xD _ _) hx (by show B.locals.length<=5; omega) (by show (B.Rz.set _ _).length<=4; rw[H']; omega)⟩
 ·exact⟨{ B with locals:=B.locals.set v5.toNat (-1) },p,by simp[Z2],fin (hB.o.eR p50 Qo _) (hB.o.xL _ _) hx (by show (B.locals.set _ _).length<=5; rw[H']; omega) (by show B.Rz.length<=4; omega)⟩
 ·have:=hB.o.Rz.le; omega
 ·have k:=hB.step hx;have hb:=k.bdv;have hle:=hB.o.Rz.le;refine⟨{ B with Rz:=B.Rz.tail },{ p with dO:=if p.dC=Int.toNat 1 then p.dO else p.dO.map (·.add (Int.toNat 1*1)),dC:=p.dC-Int.toNat 1 },?_,⟨hb.ll,by show B.Rz.tail.length<=4; simp; omega,hb.rl,λbs hs=>zzg (hb.rd bs hs) Qo hle⟩,k.d.fin Qo⟩;simp[Z2]
 ·have hB2:=hB.put hx hba;have Bl9:∀x∈ZP p,x∉[b,gN,ba]:=λx hx hm=>hB2.nb x hx (I2 _ hm)
  obtain⟨o',nW,w9,WK,B02,hxa,hor⟩:=zm0 Yb P6 hB2.o.loc (x:=0) (fz:=(0,0)) hh (by rfl) Qo Qo Y3 #[false,false] (by have:=hB2.d.ext.size; omega);have hk9:Q8 [b,gN,ba] wr w9:=hxa.kept λx hm=>⟨hs x hm,λhm2=>Bl9 x (Ib _ hm2) hm⟩
  refine⟨_,_,_,w9,WK,hk9,λO' R2=>?_⟩
  have C49:∀x∈QE o',x∉[b,gN,ba]:=λx hxo hm=>by
   rcases hor with e | e
   ·rw[e] at hxo; exact Bl9 x (Ib _ hxo) hm
   ·rw[e] at hxo;have:x=wr.heap.size:=by simpa[QE] using hxo
    have:=hs x hm;omega
  have hrb:rb∉QE p.lO:=λhm=>hB2.nb rb (Ib _ hm) Ia
  have hd2:Dr rb c L N (n+1+1+1) [b,gN,ba] w w9:=⟨hB2.d.r.call hxa hrb λa ha=>by
   rcases h.ltc a ha with h3 | h3
   ·exact .inl λhm=>by have:=qD _ (Ib _ hm); omega
   ·exact .inr h3,hB2.d.ext.fresh hxa λx hm=>.inl (qD x (Ib _ hm)),hB2.d.new⟩
  have Bl3:Uo M0 1 Ye w.heap.size O' p.dO p.dC B.Rz:=(hB2.o.Rz.ext hxa (hB2.o.Rz.Wf hB2.o.loc Qd)).ext R2 λx hm=>Bl9 x (Iy _ hm)
  have pB:Uo Jn 1 Qc w.heap.size O' o' nW (B.locals++[0]):=B02.ext R2 C49;exact⟨{ B with locals:=B.locals++[0] },{ p with lO:=o',lC:=nW },by simp[Z2],Z6.bdv ⟨pB,Bl3⟩ (by simp; omega) (by show B.Rz.length<=4; omega),(hd2.step R2).fin Qo⟩
theorem zwd{α:Type}[Inhabited α]{enc:α->List Va}{z:Nat}{bs:List Nat}{w:Wo}{o:OA}{l:List α}{C:Nat}(h:Rd enc z bs w o l)(h1:1<=l.length)(hC:l.length<=C):Rd enc z bs w (if C=Int.toNat 1 then o else o.map (·.add (Int.toNat 1*z))) l.tail:=λi i0 i1=>by
 have hl:l.tail.length=l.length-1:=Qs;rw[hl] at i1;have hc:=h (i+1) Qo Qo
 have e:gi l.tail i=gi l (i+1):=by
  obtain⟨k,rfl⟩:=Int.eq_ofNat_of_zero_le i0;rw[Ui (by rw[hl]; omega),show ((k:Int)+1)=((k+1:Nat):Int) by omega,Ui Qo];simp
 rw[e,C' (by show ¬C=1; omega)];refine T0 λj v hj=>?_
 obtain⟨a,ha,hb,Wd⟩:=hc.get j v hj;refine⟨a.add (Int.toNat 1*z),by rw[ha]; rfl,by rw[Zv]; exact hb,?_⟩;rw[Jl]
 have:Int.toNat 1*z+(Int.toNat i*z+j)=Int.toNat (i+1)*z+j:=by
  have:Int.toNat (i+1)=Int.toNat i+1:=Qo;rw[this,Nat.succ_mul];show 1*z+_=_;omega
 rw[this]; exact Wd
def z0j(rb:Nat)(c:OA)(L N:Nat)(w0:Wo)(v:Va)(w:Wo):Prop:=∃(W:Q7) (m:MW),v=.agg (Qa W m).toArray/\XM W/\(∀ds:List Nat,(∀x∈ds,x<w0.heap.size)->Xg ds w W m)/\UK rb c L (N+1500) w/\Q0 [rb] w0 w
section
variable {rb:Nat}{c:OA}{L N n q:Nat}{bs:List Nat}{w0 w w1 wr:Wo}{W W':Q7}{m:MW}
theorem Jd.aft(h:Jd Be rb c L N n bs w0 w W m)(ltc:∀a,c=some a->a.block<w0.heap.size\/L=0)(RZ:Q0 (QB 8 m) w w1)(R2:Q0 bs w1 wr)(hq:n<=q):UK rb c L (N+q) wr/\Q0 [rb] w0 wr:=by
 have qD:∀x∈QB 8 m,w0.heap.size<=x:=λx hx=>(h.o.own.lt x hx).1
 have d2:Dr rb c L N n bs w0 w1:=⟨h.d.r.call RZ (λhm=>h.o.nb rb hm Ia) λa ha=>by
  rcases ltc a ha with h3 | h3
  ·exact .inl λhm=>by have:=qD _ hm; omega
  ·exact .inr h3,h.d.ext.fresh RZ λx hm=>.inl (qD x hm),h.d.new⟩
 exact(d2.step R2).fin hq
theorem Jd.btv(h:Jd Be rb c L N n bs w0 w W m)(ltc:∀a,c=some a->a.block<w0.heap.size\/L=0)(hl:XM W')(hM:Zj 8 w0.heap.size w1 W' m)(RZ:Q0 (QB 8 m) w w1)(R2:Q0 bs w1 wr)(hq:n<=1500):z0j rb c L N w0 (.agg (Qa W' m).toArray) wr:=
 ⟨W',m,rfl,hl,λds hd=>(hM.ext R2 λx hx hm=>h.o.nb x hx (I2 _ hm)).rd λx hx hm=>by
  have:=(h.o.own.lt x hx).1;have:=hd x hm;omega,h.aft ltc RZ R2 hq⟩
theorem Jd.rdn(h:Jd Be rb c L N n bs w0 w W m)(ds:List Nat)(hd:∀x∈ds,x<w0.heap.size):Xg ds w W m:=h.o.own.rd λx hx hm=>by
 have:=(h.o.own.lt x hx).1;have:=hd x hm;omega
theorem Jd.B74(h:Jd Be rb c L N n bs w0 w W m)(hx:Q0 bs w wr)(hq:n<=1500):z0j rb c L N w0 (.agg (Qa W m).toArray) wr:=
 ⟨W,m,rfl,h.iv.len,(h.step hx).rdn,((h.step hx).d.fin hq)⟩
theorem zyw(h:XM W)(i:Int)(x:MB):XM (S8 W i x):=⟨by show (List.set _ _ _).length<=_; rw[H']; exact h.c,h.t,h.g,h.f⟩
theorem zyx(h:XM W)(i:Int)(x:Kf):XM (IV W i x):=⟨h.c,by show (List.set _ _ _).length<=_; rw[H']; exact h.t,h.g,h.f⟩
theorem v9(h:XM W){i:Int}(i0:0<=i)(i1:i<(W.IE.length:Int)){G:ZV}(hG:zil G):XM (Rf W i G):=by
 have hl:(Rf W i G).IE.length=W.IE.length:=H';refine⟨h.c,h.t,by rw[hl]; exact h.g,λj a b=>?_⟩;rw[hl] at b;rw[Yz i0 i1 a];split
 ·exact hG
 ·exact h.f j a b
theorem zzf{base:Nat}(hM:Zj 8 base w W m)(hn:∀x∈QB 8 m,x∉bs){g:Int}(g0:0<=g)(g8:g<8){B:JB}{p:MG}(hl:znt bs (R9 w m.gO (Int.toNat g*14+8) (Z2 B p)) p.lO B.locals)(hd:ztv bs (R9 w m.gO (Int.toNat g*14+8) (Z2 B p)) p.dO B.Rz) :
  Xg bs (R9 w m.gO (Int.toNat g*14+8) (Z2 B p)) (RP W g B) (PO m g.toNat (TT (m.ms g.toNat) p)):=by
 have cP:=hM.len;have hx:Q0 (QE m.gO) w (R9 w m.gO (Int.toNat g*14+8) (Z2 B p)):=hM.g.row.rD _ _;have AQ8:=hM.g.row.R9 Yf.len g0 (by rw[J1]; omega) (j:=8) (vs:=Z2 B p) (x:=({ gi W.IE g with IQ:=B },TT (m.ms g.toNat) p)) (by rw[TG g0 Qo]; rfl) (by show 8+5<=14; decide);rw[<-zkm g0 Qo] at AQ8;have AQ8:Uo TP 14 QP base (R9 w m.gO (Int.toNat g*14+8) (Z2 B p)) m.gO m.gC (zo2 (RP W g B) (PO m g.toNat (TT (m.ms g.toNat) p))):=AQ8;have hps:(RP W g B).IE.length=8:=by show (List.set _ _ _).length=_; rw[H']; exact cP
 have e1:∀i:Int,0<=i->gi (RP W g B).IE i=if g=i then { gi W.IE g with IQ:=B } else gi W.IE i:=λi a=>Yz g0 Qo a
 have e2:∀i:Int,0<=i->(PO m g.toNat (TT (m.ms g.toNat) p)).ms i.toNat=if g=i then TT (m.ms g.toNat) p else m.ms i.toNat:=λi a=>by
  show (if g.toNat=i.toNat then _ else _)=_
  by_cases e:g=i
  ·rw[E' e,E' Qo]
  ·rw[C' e,C' Qo]
 refine⟨(hM.c.ext hx (hM.c.Wf hM.g.row Qd)).rd KX.len λx hx=>hn x (Nb hx),(hM.t.ext hx (hM.t.Wf hM.g.row Qd)).rd OZ.len λx hx=>hn x (Nd hx),⟨λi i0 i1=>?_,λi i0 i1=>?_,λi i0 i1=>?_,λi i0 i1=>?_⟩⟩
 ·have:=AQ8.rd Yf.len (bs:=bs) (λx hx=>hn x (Nc hx)) i i0 (by rw[J1]; exact i1)
  rwa[TG i0 i1] at this
 all_goals
  rw[hps] at i1;rw[e1 i i0,e2 i i0]
  have hi:=(hM.each i0 Qo).ext hx (by
   have:=XZ hM.g.row (hM.g.each i i0 (by rw[J1]; omega))
   rwa[TG i0 Qo] at this)
  split
 ·exact hl
 ·exact hi.loc.rd Yb.len λx hx=>hn x (Jb (k:=i.toNat) Qo (by simp[Qn,hx]))
 ·exact hd
 ·exact hi.Rz.rd Yu.len λx hx=>hn x (Jb (k:=i.toNat) Qo (by simp[Qn,hx]))
 ·rename_i e;subst e;exact hi.shl.rd T1.len λx hx=>hn x (Jb (k:=g.toNat) Qo (by simp[Qn,hx]))
 ·exact hi.shl.rd T1.len λx hx=>hn x (Jb (k:=i.toNat) Qo (by simp[Qn,hx]))
end
theorem z3h{v:Int}{k:Nat}{ls:List Va}{P:ByteArray->Prop}(ha:ls.all (λ| .string s=>decide (s.size<=1000) | _=>false)=true)(hl:ls.length=k)(h0:0<=v)(h1:v<(k:Int))(h:∀x,x.size<=1000->P x):∃x:ByteArray,(0<=v/\ls[Int.toNat v+0]? = some (.string x))/\P x:=by
 have IU:Int.toNat v+0<ls.length:=Qo;have:=List.all_eq_true.1 ha _ (List.getElem_mem IU);have e:=Im IU;generalize ls[Int.toNat v+0]=y at this e
 split at this
 ·exact⟨_,⟨h0,e⟩,h _ (Ot this)⟩
 ·cases this
theorem z09{rb:Nat}{c:OA}{L N:Nat}{w:Wo}(h:UK rb c L N w)(hN:N<=500000000000) :
  Cz JN #[.pointer (some ⟨rb,0,none⟩)] w λe w'=>∃v,e=.returned v/\z0j rb c L N w v w':=by
 refine F5 (some ⟨rb,0,none⟩) (R:=λv w'=>z0j rb c L N w v w') ?_;intro b hb wr hx hs;have h1:=(Dr.start h).put hx hb;refine(zyu KU h1.r.rd Qo).mono ?_;rintro e2 w2 ⟨W,m,aT,iv,hM,hr,hxp,gE⟩;have hK:=Jd.B31 KU h1 hs iv hM hr hxp gE;have iv:=iv.1;refine⟨_,_,_,_,_,_,_,_,_,_,aT,Ml h1.r hxp hs,λb1 gH M' RZ dK=>?_⟩;refine((hK.put RZ gH).pick KU Qo dK).mono ?_;rintro e3 w3 ⟨v3,gP,wN,_,oY⟩;refine⟨_,gP,wN,λ_ wr hx=>oY.B74 hx Qd,λ_ Rq Rb iB=>?_⟩;refine((oY.step Rb).pick KU Qo iB).mono ?_;rintro e4 w4 ⟨c1,he4,hk4,⟨c10,_,c12⟩,fE⟩;have ha:=iv.wp.a;have vY:=ha.c1;have hc4:=ha.c2;have fH:=ha.t;have cP:=ha.gl;have c12:=c12 Qo;refine⟨_,he4,hk4,λRw SZ gY=>?_⟩;refine((fE.step SZ).pick KU Qo gY).mono ?_;rintro e5 w5 ⟨t,he5,hk5,⟨t0,_,t2⟩,dV⟩;have t2:=t2 Qd;refine⟨_,he5,hk5,λRQ Sy mM=>?_⟩;refine((dV.step Sy).pick KU Qo mM).mono ?_;rintro e6 w6 ⟨g,he6,hk6,⟨g0,_,g2⟩,uE⟩;have g2:=g2 Qd;refine⟨_,he6,hk6,λSi aS hs6=>?_⟩;refine((uE.step aS).pick KU Qo hs6).mono ?_;rintro e7 w7 ⟨k,he7,hk7,_,hS⟩;clear oY fE dV uE hK hM hr hxp aT gP he4 he5 he6 wN hk4 hk5 hk6 RZ Rb SZ Sy aS dK iB gY mM hs6 h1 gE;refine⟨_,he7,hk7,?_⟩;have lc:=h.ltc;have ltc:∀a,c=some a->a.block<w.heap.size\/L=0:=lc;have hl:=iv.len;have t1:t<(W.tasks.length:Int):=Qo;have g1:g<(W.IE.length:Int):=Qo;have g8:g<((8:Nat):Int):=Qo;have Wl:∀{n:Nat} {w':Wo},Jd Be rb c L N n [b,b1] w w' W m->Ix m.cO W.IF.length c1:=λh=>h.rd.c.ix Ym c10 c12
 have hit:∀{n:Nat} {w':Wo},Jd Be rb c L N n [b,b1] w w' W m->Ix m.tO W.tasks.length t:=λh=>h.rd.t.ix QF t0 t1
 have hig:∀{n:Nat} {bs:List Nat} {w':Wo},Jd Be rb c L N n bs w w' W m->Ix m.gO W.IE.length g:=λh=>h.rd.g.ix g0 g1
 have nb:∀{n:Nat} {bs:List Nat} {w':Wo},Jd Be rb c L N n bs w w' W m->∀x∈QB 8 m,x∉bs:=λh x hx hm=>h.o.nb x hx (I2 _ hm)
 have hrd:∀{w':Wo},Jd Be rb c L N (0+1100+1+1+1+1+1) [b,b1] w w' W m->Xg [b,b1] w' W m:=λh=>h.o.own.rd (nb h)
 have fC:∀{n:Nat} {bs:List Nat} {w' wr:Wo} {j:Nat} {vs:List Va} (x:MB),Jd Be rb c L N n bs w w' W m->n<=1500->KY x=(KY (gi W.IF c1)).take j++vs++(KY (gi W.IF c1)).drop (j+vs.length)->j+vs.length<=5->Q0 bs (R9 w' m.cO (Int.toNat c1*5+j) vs) wr->z0j rb c L N w (.agg (Qa (S8 W c1 x) m).toArray) wr:=λx h hn he hj hx=>h.btv ltc (zyw hl c1 x) (h.o.own.Am3 c10 c12 he hj) CR hx hn
 have fT:∀{n:Nat} {bs:List Nat} {w' wr:Wo} {j:Nat} {vs:List Va} (x:Kf),Jd Be rb c L N n bs w w' W m->n<=1500->YK x=(YK (gi W.tasks t)).take j++vs++(YK (gi W.tasks t)).drop (j+vs.length)->j+vs.length<=9->Q0 bs (R9 w' m.tO (Int.toNat t*9+j) vs) wr->z0j rb c L N w (.agg (Qa (IV W t x) m).toArray) wr:=λx h hn he hj hx=>h.btv ltc (zyx hl t x) (h.o.own.xS t0 t1 he hj) LR hx hn
 have fG:∀{n:Nat} {bs:List Nat} {w' wr:Wo} {j:Nat} {vs:List Va} (G:ZV),Jd Be rb c L N n bs w w' W m->n<=1500->zil G->G.IQ=(gi W.IE g).IQ->G.IG=(gi W.IE g).IG->Yv G (m.ms g.toNat)=(Yv (gi W.IE g) (m.ms g.toNat)).take j++vs++(Yv (gi W.IE g) (m.ms g.toNat)).drop (j+vs.length)->j+vs.length<=14->Q0 bs (R9 w' m.gO (Int.toNat g*14+j) vs) wr->z0j rb c L N w (.agg (Qa (Rf W g G) m).toArray) wr:=λG h hn hf hb hsh he hj hx=>h.btv ltc (v9 hl g0 g1 hf) (h.o.own.Ap0 g0 g8 (by rw[hb]) (by rw[hb]) hsh he hj) B2 hx hn
 have eC:∀x:MB,Qa (S8 W c1 x) m=Qa W m:=λx=>by simp[Qa,S8]
 have eT:∀x:Kf,Qa (IV W t x) m=Qa W m:=λx=>by simp[Qa,IV]
 have eG:∀x:ZV,Qa (Rf W g x) m=Qa W m:=λx=>by simp[Qa,Rf]
 have nY:=hl.f g g0 g1
 have hv:0<=(Q9 W t).v/\(Q9 W t).v<=100000000000000000:=by
  rcases iv.wp.t t t0 Qo with hz | ⟨_,hx⟩
  ·rw[hz.2]; decide
  ·exact Ys.1 hx.v
 have hlm:=ZC 1;refine⟨λ_=>⟨Wl hS,_,(hrd hS).c.f c10 c12 (j:=0) rfl,Wl hS,zri hS.o.own (nb hS) c10 c12 (j:=0) Qd,λwr hx=>?_⟩,λ_=>⟨λ_ wr hx hs=>?_,λ_=>⟨λ_ wr hx hs=>?_,λ_=>⟨λ_ wr hx hs=>?_,λ_=>⟨λ_ wr hx hs=>?_,λ_=>⟨λ_ wr hx hs=>?_,λ_=>⟨λ_=>⟨hit hS,_,(hrd hS).t.f t0 t1 (j:=5) rfl,_,Mi,⟨by show _<=(Q9 W t).v+_; omega,by show (Q9 W t).v+_<=_; omega⟩,hit hS,zik hS.o.own (nb hS) t0 t1 (j:=5) Qd,λwr hx=>?_⟩,λ_=>⟨λ_=>⟨hit hS,zik hS.o.own (nb hS) t0 t1 (j:=3) Qd,λwr hx=>?_⟩,λ_=>⟨λ_=>⟨hit hS,zik hS.o.own (nb hS) t0 t1 (j:=4) Qd,λwr hx=>?_⟩,λ_=>⟨λ_=>⟨⟨Qo,Qo,by have:=hS.o.own.t.le; omega⟩,λwr hx=>?_⟩,λ_=>⟨λ_=>⟨hig hS,_,(hrd hS).g.used g0 g1,hig hS,zef hS.o.own (nb hS) g0 g8 (j:=0) Qd,λwr hx=>?_⟩,λ_=>⟨λ_ wr hx hs=>?_,λ_=>⟨λ_=>⟨λb2 cN=>⟨rfl,λwr hx hs=>?_⟩,λwr hx hs=>?_⟩,λ_=>⟨λ_ wr hx hs=>?_,λ_=>⟨λ_ wr hx hs=>?_,λ_=>⟨λ_ wr hx hs=>?_,λ_=>⟨λ_ wr hx hs=>?_,λ_=>⟨λ_=>⟨hig hS,_,_,_,(hrd hS).g.RF g0 g1,λvC=>?_,λ_ wr hx=>hS.B74 hx Qd⟩,λ_=>⟨λ_=>⟨hig hS,_,_,_,(hrd hS).g.RF g0 g1,λvC=>?_,λ_ wr hx=>hS.B74 hx Qd⟩,λ_=>⟨λ_ wr hx hs=>?_,λ_ wr hx=>hS.B74 hx Qd⟩⟩⟩⟩⟩⟩⟩⟩⟩⟩⟩⟩⟩⟩⟩⟩⟩⟩⟩⟩
 case refine_1=>
  have:=fC { gi W.IF c1 with up := !(gi W.IF c1).up } hS Qd rfl (by show 0+1<=5; decide) hx
  rwa[eC] at this
 case refine_2=>
  refine((hS.step hx).pick KU Qo hs).mono ?_;rintro e w8 ⟨v,he,hk,⟨p0,_,p2⟩,hP⟩;have p2:=p2 Qd;refine⟨_,he,hk,rfl,⟨Qo,Qo⟩,Wl hP,zri hP.o.own (nb hP) c10 c12 (j:=1) Qd,λwr hx=>?_⟩;have:=fC { gi W.IF c1 with cur:=v-2 } hP Qd rfl (by show 1+1<=5; decide) hx
  rwa[eC] at this
 case refine_3=>
  refine((hS.step hx).pick KU Qo hs).mono ?_;rintro e w8 ⟨v,he,hk,_,hP⟩;refine⟨_,he,hk,rfl,Wl hP,zri hP.o.own (nb hP) c10 c12 (j:=2) Qd,λwr hx=>?_⟩;have:=fC { gi W.IF c1 with aC:=v } hP Qd rfl (by show 2+1<=5; decide) hx
  rwa[eC] at this
 case refine_4=>
  refine((hS.step hx).pick KU Qo hs).mono ?_;rintro e w8 ⟨v,he,hk,_,hP⟩;refine⟨_,he,hk,rfl,hit hP,zik hP.o.own (nb hP) t0 t1 (j:=0) Qd,λwr hx=>?_⟩;have:=fT { gi W.tasks t with state:=v } hP Qd rfl (by show 0+1<=9; decide) hx
  rwa[eT] at this
 case refine_5=>
  refine((hS.step hx).pick KU Qo hs).mono ?_;rintro e w8 ⟨v,he,hk,⟨p0,_,p2⟩,hP⟩;have p2:=p2 Qd;refine⟨_,he,hk,rfl,⟨Qo,Qo⟩,hit hP,zik hP.o.own (nb hP) t0 t1 (j:=1) Qd,λwr hx=>?_⟩;have:=fT { gi W.tasks t with group:=v-1 } hP Qd rfl (by show 1+1<=9; decide) hx
  rwa[eT] at this
 case refine_6=>
  refine((hS.step hx).pick KU Qo hs).mono ?_;rintro e w8 ⟨v,he,hk,⟨p0,_,p2⟩,hP⟩;have p2:=p2 Qd;refine⟨_,he,hk,rfl,⟨Qo,Qo⟩,hit hP,zik hP.o.own (nb hP) t0 t1 (j:=2) Qd,λwr hx=>?_⟩;have:=fT { gi W.tasks t with R3:=v-1 } hP Qd rfl (by show 2+1<=9; decide) hx
  rwa[eT] at this
 case refine_7=>
  have:=fT { gi W.tasks t with v:=(gi W.tasks t).v+ZB 1 } hS Qd rfl (by show 5+1<=9; decide) hx
  rwa[eT] at this
 case refine_8=>
  have:=fT { gi W.tasks t with nice:=10 } hS Qd rfl (by show 3+1<=9; decide) hx
  rwa[eT] at this
 case refine_9=>
  have:=fT { gi W.tasks t with mask:=0 } hS Qd rfl (by show 4+1<=9; decide) hx
  rwa[eT] at this
 case refine_10=>
  have hK:=hS.step hx;have hr:=hK.rdn;have hle:=hS.o.own.t.le;refine⟨{ W with tasks:=W.tasks.tail },{ m with tO:=if m.tC=Int.toNat 1 then m.tO else m.tO.map (·.add (Int.toNat 1*9)),tC:=m.tC-Int.toNat 1 },?_,⟨hl.c,by show W.tasks.tail.length<=_; have:=hl.t; simp; omega,hl.g,hl.f⟩,λds hd=>⟨(hr ds hd).c,zwd (hr ds hd).t Qo hle,(hr ds hd).g⟩,hK.d.fin Qd⟩;simp[Qa]
 case refine_11=>
  have:=fG { gi W.IE g with used := !(gi W.IE g).used } hS Qd ⟨nY.nm,nY.nx,nY.lo,nY.dr,nY.sh⟩ rfl rfl rfl (by show 0+1<=14; decide) hx
  rwa[eG] at this
 case refine_12=>
  refine((hS.step hx).pick KU Qo hs).mono ?_;rintro e w8 ⟨v,he,hk,⟨p0,_,p2⟩,hP⟩;have p2:=p2 Qd;refine⟨_,he,hk,rfl,⟨Qo,Qo⟩,hig hP,zef hP.o.own (nb hP) g0 g8 (j:=1) Qd,λwr hx=>?_⟩;have:=fG { gi W.IE g with parent:=v-1 } hP Qd ⟨nY.nm,nY.nx,nY.lo,nY.dr,nY.sh⟩ rfl rfl rfl (by show 1+1<=14; decide) hx
  rwa[eG] at this
 case refine_13=>
  refine((hS.put hx cN).pick KU Qo hs).mono ?_;rintro e w8 ⟨v,he,hk,⟨p0,_,p2⟩,hP⟩;have p2:=p2 Qd;refine⟨_,he,hk,rfl,⟨Qo,Qo⟩,z3h Qd rfl Qo Qo λx hxs=>⟨hig hP,zef hP.o.own (nb hP) g0 g8 (j:=2) Qd,λwr hx=>?_⟩⟩;have hm:=Zl;have:=fG { gi W.IE g with name:=x } hP Qd ⟨by show x.size<=_; omega,nY.nx,nY.lo,nY.dr,nY.sh⟩ rfl rfl rfl (by show 2+1<=14; decide) hx
  rwa[eG] at this
 case refine_14=>
  refine((hS.step hx).pick KU Qo hs).mono ?_;rintro e w8 ⟨v,he,hk,⟨p0,_,p2⟩,hP⟩;have p2:=p2 Qd;refine⟨_,he,hk,rfl,λb3 hb3=>⟨rfl,⟨Qo,Qo⟩,z3h Qd rfl Qo Qo λx hxs=>⟨hig hP,zef hP.o.own (nb hP) g0 g8 (j:=2) Qd,λwr hx=>?_⟩⟩⟩;have hm:=Zl;have:=fG { gi W.IE g with name:=x } hP Qd ⟨by show x.size<=_; omega,nY.nx,nY.lo,nY.dr,nY.sh⟩ rfl rfl rfl (by show 2+1<=14; decide) hx
  rwa[eG] at this
 case refine_15=>
  refine((hS.step hx).pick KU Qo hs).mono ?_;rintro e w8 ⟨v,he,hk,_,hP⟩;refine⟨_,he,hk,rfl,hig hP,zef hP.o.own (nb hP) g0 g8 (j:=3) Qd,λwr hx=>?_⟩;have:=fG { gi W.IE g with weight:=v } hP Qd ⟨nY.nm,nY.nx,nY.lo,nY.dr,nY.sh⟩ rfl rfl rfl (by show 3+1<=14; decide) hx
  rwa[eG] at this
 case refine_16=>
  refine((hS.step hx).pick KU Qo hs).mono ?_;rintro e w8 ⟨v,he,hk,⟨p0,_,p2⟩,hP⟩;have p2:=p2 Qd;refine⟨_,he,hk,rfl,⟨Qo,Qo⟩,hig hP,zef hP.o.own (nb hP) g0 g8 (j:=4) Qd,λwr hx=>?_⟩;have:=fG { gi W.IE g with IF:=v-1 } hP Qd ⟨nY.nm,nY.nx,nY.lo,nY.dr,nY.sh⟩ rfl rfl rfl (by show 4+1<=14; decide) hx
  rwa[eG] at this
 case refine_17=>
  refine((hS.step hx).pick KU Qo hs).mono ?_;rintro e w8 ⟨v,he,hk,⟨p0,_,p2⟩,hP⟩;have p2:=p2 Qd;refine⟨_,he,hk,rfl,hig hP,zef hP.o.own (nb hP) g0 g8 (j:=6) Qd,λwr hx=>?_⟩;have:=fG { gi W.IE g with next:=v } hP Qd ⟨nY.nm,⟨by show _<=v; omega,by show v<=_; omega⟩,nY.lo,nY.dr,nY.sh⟩ rfl rfl rfl (by show 6+1<=14; decide) hx
  rwa[eG] at this
 case refine_18=>
  have hQ:=hS.step hx;refine(z08 hQ.d.r.rd Qo).mono ?_;rintro e w8 ⟨B,p,he,hB,hr,hy⟩;have hP:=hQ.drawn KU hr hy;refine⟨_,_,_,_,_,_,_,_,_,he,Ml hQ.d.r hy hs,rfl,hig hP,zef hP.o.own (nb hP) g0 g8 (j:=8) Qd,λO' R2=>?_⟩;have hsx:Q0 (QB 8 m) w8 (R9 w8 m.gO (Int.toNat g*14+8) (Z2 B p)):=B2
  have hR2:∀ds:List Nat,(∀x∈ds,x<w.heap.size)->Xg ds O' (RP W g B) (PO m g.toNat (TT (m.ms g.toNat) p)):=λds hd=>by
   have hz:=hQ.d.ext.size
   have cN:∀x∈QB 8 m++([b,b1]++ds),x<wr.heap.size:=λx hm=>by
    rcases Io.1 hm with h1 | h1
    ·exact(hQ.o.own.lt x h1).2
    ·rcases Io.1 h1 with h2 | h2
     ·exact hs x h2
     ·have:=hd x h2; omega
   have hsm:∀x∈[b,b1]++ds,x∈QB 8 m++([b,b1]++ds):=λx hm=>Iy _ hm
   have Ci7:Q0 (QB 8 m++([b,b1]++ds)) w8 (R9 w8 m.gO (Int.toNat g*14+8) (Z2 B p)):=hsx.mono λx hm=>Ib _ hm
   have hnb:∀x∈QB 8 m,x∉[b,b1]++ds:=λx hx hm=>by
    rcases Io.1 hm with h2 | h2
    ·exact nb hP x hx h2
    ·have:=(hP.o.own.lt x hx).1;have:=hd x h2;omega
   have hR:=zzf hP.o.own hnb g0 g8 (B:=B) (p:=p) (((hB.rl _ cN).ext Ci7).less hsm) (((hB.rd _ cN).ext Ci7).less hsm);exact(hR.ext (R2.mono λx hm=>Ib _ hm)).less λx hm=>Iy _ hm
  have hm:=Zl;have hl5:=hB.ll;have hl4:=hB.dl;refine⟨RP W g B,PO m g.toNat (TT (m.ms g.toNat) p),?_,v9 hl g0 g1 ⟨nY.nm,nY.nx,by show B.locals.length<=_; omega,by show B.Rz.length<=_; omega,nY.sh⟩,hR2,hP.aft ltc hsx R2 Qd⟩;simp[Qa,RP,Rf,PO]
 case refine_19=>
  have vC:=Ot vC;have xK:=(hrd hS).g.IG g g0 g1;refine⟨hig hS,_,_,_,(hrd hS).g.RF g0 g1,hig hS,_,_,_,(hrd hS).g.RF g0 g1,xK.ix Y7 c10 vC,_,xK.f c10 vC (j:=1) rfl,xK.ix Y7 c10 vC,zzt hS.o.own (nb hS) g0 g8 c10 vC (j:=1) Qd,λwr hx=>?_⟩;have hM:=hS.o.own.BK8 (i:=g) (c:=c1) g0 g8 c10 vC (j:=1) (vs:=[.bool (!(Qb W g c1).on)]) (x:={ Qb W g c1 with on := !(Qb W g c1).on }) rfl (by show 1+1<=5; decide);have:=hS.btv (W':=Rx W g c1 { Qb W g c1 with on := !(Qb W g c1).on }) ltc (v9 hl g0 g1 ⟨nY.nm,nY.nx,nY.lo,nY.dr,by show (List.set _ _ _).length<=_; rw[H']; exact nY.sh⟩) hM (NG Qo) hx Qd
  rwa[show Qa (Rx W g c1 { Qb W g c1 with on := !(Qb W g c1).on }) m=Qa W m from eG _] at this
 case refine_20=>
  have vC:=Ot vC;have xK:=(hrd hS).g.IG g g0 g1;have hp:=Ys.1 (iv.wp.s g c1 g0 Qo c10 vC).f;refine⟨hig hS,_,_,_,(hrd hS).g.RF g0 g1,hig hS,_,_,_,(hrd hS).g.RF g0 g1,xK.ix Y7 c10 vC,(Qb W g c1).floor,xK.f c10 vC (j:=0) rfl,⟨Qo,Qo⟩,xK.ix Y7 c10 vC,zzt hS.o.own (nb hS) g0 g8 c10 vC (j:=0) Qd,λwr hx=>?_⟩;have hM:=hS.o.own.BK8 (i:=g) (c:=c1) g0 g8 c10 vC (j:=0) (vs:=[I ((Qb W g c1).floor+1)]) (x:={ Qb W g c1 with floor:=(Qb W g c1).floor+1 }) rfl (by show 0+1<=5; decide);have:=hS.btv (W':=Rx W g c1 { Qb W g c1 with floor:=(Qb W g c1).floor+1 }) ltc (v9 hl g0 g1 ⟨nY.nm,nY.nx,nY.lo,nY.dr,by show (List.set _ _ _).length<=_; rw[H']; exact nY.sh⟩) hM (NG Qo) hx Qd
  rwa[show Qa (Rx W g c1 { Qb W g c1 with floor:=(Qb W g c1).floor+1 }) m=Qa W m from eG _] at this
 case refine_21=>
  have hQ:=hS.step hx;refine(z1d hQ.o.own iv).mono ?_;rintro e w8 ⟨V,he,hlV,hMV,hxV⟩;refine⟨_,_,_,_,_,_,_,_,_,_,he,hxV.kept λx hm=>⟨hs x hm,λhm2=>nb hQ x hm2 hm⟩,λO' R2=>hQ.btv ltc hlV hMV hxV R2 Qd⟩
structure Bx (rb:Nat) (c:OA) (L N:Nat) (bs:List Nat) (w0 w:Wo) (W:Q7) (m:MW):Prop where
 ln:XM W
 rd:Xg (rb::bs) w W m
 r:RS rb c L N bs w
 s:Sc w0 (rb::bs) w
section
variable {rb b b2:Nat}{c:OA}{L C N:Nat}{bs:List Nat}{w0 w w':Wo}{W W':Q7}{m m':MW}
theorem Bx.step(h:Bx rb c L N bs w0 w W m)(hx:Q0 bs w w'):Bx rb c L N bs w0 w' W m:=⟨h.ln,h.rd.ext (hx.mono λ_ hm=>I2 _ hm),h.r.step hx,h.s.CK5 hx⟩
theorem Bx.call{f:FuncId}{args:Array Va}{k:Nat}{Q:Int->Prop}(h:Bx rb c L N bs w0 w W m)(hs:∀x∈bs,x<w.heap.size)(hc:Cz f args w λe w'=>∃v,e=.returned (I v)/\Q v/\UK rb c L (N+k) w'/\Q0 [rb] w w') :
  Cz f args w λe w'=>∃v,e=.returned (I v)/\Q8 bs w w'/\Q v/\Bx rb c L (N+k) bs w0 w' W m:=
 hc.mono λe w' ⟨v,he,hq,hr,hx⟩=>⟨v,he,Ml h.r hx hs,hq,h.ln,h.rd.ext (hx.mono λx hm=>by
  have:x=rb:=by simpa using hm
  rw[this]; exact Ia),h.r.upd hr,h.s.CK6 hx⟩
theorem Bx.rd0(h:Bx rb c L N bs w0 w W m):Xg [] w W m:=h.rd.less Qs
theorem zys(h:NO c L w0)(hC:L<=C)(hx:Q0 [] w0 w)(hn:∀x∈bs,w0.heap.size<=x)(hs:∀x∈bs,x<w.heap.size) :
  Cz Vx #[.slice c L C] w λe wv=>∃rb c' L',e=.returned (.pointer (some ⟨rb,0,none⟩))/\Q8 bs w wv/\RS rb c' L' 0 bs wv/\Sc w0 (rb::bs) wv:=by
 refine(zon (h.ext hx) hC).mono ?_;rintro e wv ⟨rb,c',L',he,hrb,hR,RZ,C18⟩
 refine⟨rb,c',L',he,Qe RZ hs,⟨hR,λhm=>by
  have:=hs rb hm;omega,λa' ha'=>?_⟩,⟨hx.trans RZ,λx hm=>?_⟩⟩
 ·rcases C18 a' ha' with h0 | ⟨h0,a,ha,hab⟩
  ·exact .inr h0
  ·refine .inl λhm=>?_
   obtain⟨a0,x0,ha0,_,_,h30⟩:=h 0 h0;have RM:=World.block_lt_of_cell? w0 _ h30;rw[Zv] at RM;rw[ha] at ha0; cases ha0;have:=hn _ hm;omega
 ·rcases Ij.1 hm with h1 | h1
  ·have:=hx.size; omega
  ·exact hn x h1
theorem zyo(h:RS rb c L 0 bs w)(s:Sc w0 (rb::bs) w)(hs:∀x∈bs,x<w.heap.size) :
  Cz JN #[.pointer (some ⟨rb,0,none⟩)] w λe w'=>∃(W:Q7) (m:MW),e=.returned (.agg (Qa W m).toArray)/\Q8 bs w w'/\Bx rb c L 1500 bs w0 w' W m:=
 (z09 h.rd Qd).mono λe w' ⟨v,he,W,m,hv,hl,hr,hR,hx⟩=>⟨W,m,by rw[he,hv],Ml h hx hs,hl,hr _ λx hm=>by
  rcases Ij.1 hm with h1 | h1
  ·rw[h1]; exact h.rd.lt
  ·exact hs x h1,h.upd (hR.mono Qd),s.CK6 hx⟩
structure z28 (w0 w:Wo) (W:Q7) (m:MW):Prop where
 ln:XM W
 rd:Xg [] w W m
 ext:Q0 [] w0 w
theorem Bx.dn(h:Bx rb c L N bs w0 w W m)(hx:Q0 bs w w'):z28 w0 w' W m:=⟨h.ln,(h.step hx).rd0,(h.step hx).s.ext⟩
end
section
variable {c:OA}{L C:Nat}{w:Wo}
theorem HO(h:NO c L w)(hC:L<=C) :
  Cz Uz #[.slice c L C] w λe w'=>∃(W:Q7) (m:MW) (g n x:Int),e=.returned (.tuple #[.agg (Qa W m).toArray,I g,I n,I x])/\z28 w w' W m:=by
 refine(HH c L C (R:=λv w'=>∃(W:Q7) (m:MW) (g n x:Int),v=.tuple #[.agg (Qa W m).toArray,I g,I n,I x]/\z28 w w' W m) ?_).mono λe w' ⟨v,he,W,m,g,n,x,hv,h1⟩=>⟨W,m,g,n,x,by rw[he,hv],h1⟩
 intro b hb wr hx hs;refine(zys (bs:=[b]) h hC hx (by simpa using hb) hs).mono ?_;rintro e wv ⟨rb,c',L',he,hk,hR,hS⟩;refine⟨_,he,hk,λM' RZ dK=>?_⟩;refine(zyo (hR.step RZ) (hS.CK5 RZ) dK).mono ?_;rintro e1 R7 ⟨W,m,jG,hk1,hB⟩;refine⟨_,_,_,_,_,_,_,_,_,_,jG,hk1,λO' R2 We=>?_⟩;refine((hB.step R2).call We (zyq (hB.step R2).r.rd Qd)).mono ?_;rintro e2 Rr ⟨g,aT,xJ,_,hB2⟩;refine⟨_,aT,xJ,λRq Rb iB=>?_⟩;refine((hB2.step Rb).call iB (Gq (hB2.step Rb).r.rd Qd)).mono ?_;rintro e3 S3 ⟨p,gP,wN,hp,hB3⟩;have p0:=hp.1;have p1:=hp.2.2 Qd;refine⟨_,gP,wN,⟨Qo,Qo⟩,λRw SZ gY=>?_⟩;refine((hB3.step SZ).call gY (zvd (hB3.step SZ).r.rd Qd)).mono ?_;rintro e4 aF ⟨x,he4,hk4,_,hB4⟩;exact⟨_,he4,hk4,λRQ Sy=>⟨W,m,g,p-11,x,rfl,hB4.dn Sy⟩⟩
end
section
open Go.RowKit Go.ChangeShapes
theorem zzp:Tryz.prog.underlying P5=some (.int .u8):=Qk
theorem u_sl_uint8:Tryz.prog.underlying ty_sl_uint8=some (.slice P5):=Qk
theorem zxu:Tryz.prog.cellsOf P5=1:=Qk
theorem op_bytes{H:Type}{en:TypeId×Va->H}{w:Wo}{base:Nat}{spare:Nat->Bool}{held:Bool}{fuel:Nat}{cs:List Va}{x:DataW H×List MemPlace}(h:DataW.trod en Tryz.prog w base spare held fuel ty_sl_uint8 cs=some x) :
  ∃(o:OA) (cap L:Nat),cs=[.slice o L cap]/\NO o L w/\L<=cap:=by
 obtain⟨o,len,cap,rfl,h1,_,h3⟩:=zw5 u_sl_uint8 h;refine⟨o,cap,len,rfl,λi hi=>?_,h1⟩;obtain⟨a,n,y,ec,ho,hc,ht⟩:=h3 i hi;rw[zxu,Nat.mul_one] at hc;obtain⟨v,rfl,_,hw⟩:=DataW.trod_int zzp ht;have hv:0<=v/\v<=255:=by simpa[Lit.wf,IntKind.min,IntKind.max,IntKind.signed,IntKind.bits] using hw
 obtain⟨_,_,Wd⟩:=World.cells?_some hc;have:=Wd 0 Qd;rw[Jl,Nat.add_zero] at this;exact⟨a,v,ho,hv.1,hv.2,this⟩
end
theorem Xg.sc{bs:List Nat}{w0 w1:Wo}{W:Q7}{m:MW}(h:Xg [] w0 W m)(s:Sc w0 bs w1):Xg bs w1 W m:=(h.wide (cs:=bs) λx hm=>.inr (s.new x hm)).ext s.ext.of_nil
theorem Xg.sc0{bs:List Nat}{w0 w1:Wo}{W:Q7}{m:MW}(h:Xg [] w0 W m)(s:Sc w0 bs w1):Xg [] w1 W m:=(h.sc s).less Qs
theorem Zj.n8{n base:Nat}{w:Wo}{W:Q7}{m:MW}(h:Zj n base w W m)(ha:WA W):n=8:=h.len.symm.trans ha.gl
theorem zsj(l k:Int):Y1 l k<=l\/Y1 l k=0:=by
 have:=ZC k;unfold Y1
 by_cases h1:ZB k<l
 ·simp only[h1,if_true];split
  ·exact .inl Qo
  ·exact .inr rfl
 ·simp only[h1,if_false];split
  ·exact .inl Qo
  ·exact .inr rfl
section
variable {K:Int}{W:Q7}
theorem zvj(h:SF K K W){k c d:Int}(hu:Q6 W.IE k=true)(hd:dep 3 W.IE k=d)(d1:1<=d)(c0:0<=c)(c1:c<(W.IF.length:Int)):SF K K (Rx W k c (ZM W k c)):=by
 have hz:k≠0:=λe=>by subst e; rw[Y4] at hd; omega
 have hp:=h.w.a.up hu hz;have s1:=h.w.s k c hu c0 c1;have s2:=h.w.s _ c hp c0 c1;have lc:=ZG ((Qb W k c).v-(Qb W (gi W.IE k).parent c).floor) (Qb W k c).w;have lu:=zsj ((Qb W k c).v-(Qb W (gi W.IE k).parent c).floor) (Qb W k c).w;refine h.Rx hu c0 c1 s1.1 s1.2.1 s1.2.1 ?_ ?_ s1.2.2.2.2.1 s1.2.2.2.2.2
 ·simp only[ZM]; split <;> omega
 ·simp only[ZM]; split
  ·rcases lu with e | e <;> omega
  ·omega
theorem zmf(h:SF K K W){c d:Int}(d1:1<=d)(c0:0<=c)(c1:c<(W.IF.length:Int)):∀k:Nat,k<=8->SF K K (Zi W c d k)/\XS W (Zi W c d k)
 | 0,_=>⟨h,XS.refl _⟩
 | k+1,hk8=>by
  obtain⟨ih,io⟩:=zmf h (d:=d) d1 c0 c1 k Qo;have hl:=ih.w.a.gl;simp only[Zi];split
  ·rename_i hc;have hu:Q6 (Zi W c d k).IE (k:Int)=true:=Q5.2 ⟨Qo,Qo,hc.1⟩;exact⟨zvj ih hu hc.2 d1 c0 (by rw[io.c]; exact c1),io.trans (UW Qo Qo)⟩
  ·exact⟨ih,io⟩
theorem N8(h:SF K K W){c:Int}(c0:0<=c)(c1:c<(W.IF.length:Int)):∀j:Nat,j<=3->SF K K (Yy W c j)/\XS W (Yy W c j)
 | 0,_=>⟨h,XS.refl _⟩
 | j+1,hj=>by
  obtain⟨a1,b1⟩:=N8 h c0 c1 j Qo;obtain⟨a2,b2⟩:=zmf a1 (c:=c) (d:=3-(j:Int)) Qo c0 (by rw[b1.c]; exact c1) 8 Qo;exact⟨a2,b1.trans b2⟩
theorem zhl(h:SF K K W):∀c:Nat,c<=W.IF.length->SF K K (Y2 W c)/\XS W (Y2 W c)
 | 0,_=>⟨h,XS.refl _⟩
 | c+1,hc=>by
  obtain⟨a,b⟩:=zhl h c Qo;obtain⟨a2,b2⟩:=N8 a (c:=(c:Int)) Qo (by rw[b.c]; omega) 3 (I8 _);exact⟨a2,b.trans b2⟩
theorem zww(h:SW K W)(hK:0<=K){c:Int}(c0:0<=c)(c1:c<(W.IF.length:Int)):SW K (Ul W c)/\Fr W (Ul W c):=by
 obtain⟨a1,b1⟩:=N8 h.sf c0 c1 3 (I8 _);obtain⟨a2,b2⟩:=O3 a1.w hK c0 (c:=c) (by rw[b1.c]; exact c1) 8 Qo;have hf:=b1.fr.trans b2.fr;unfold Ul;split
 ·exact⟨SW.Ry a2 c0 (by show c<((QQ (Yy W c 3) c 8).IF.length:Int); rw[hf.c]; exact c1),hf.trans (BU _ _)⟩
 ·exact⟨a2,hf⟩
theorem zna(h:SW K W)(hK:0<=K):∀c:Nat,c<=W.IF.length->SW K (XC W c)/\Fr W (XC W c)
 | 0,_=>⟨h,Fr.refl _⟩
 | c+1,hc=>by
  obtain⟨a,b⟩:=zna h hK c Qo;obtain⟨a2,b2⟩:=zww a hK (c:=(c:Int)) Qo (by rw[b.c]; omega);exact⟨a2,b.trans b2⟩
theorem ztc(h:SW K W)(hK:0<=K):SW K (Qg W)/\Fr W (Qg W):=by
 obtain⟨a1,b1⟩:=zhl h.sf W.IF.length (I8 _);obtain⟨a2,b2⟩:=Vn a1 8 Qo;have hf:=b1.fr.trans b2.fr;obtain⟨a3,b3⟩:=zna a2.w hK W.IF.length (by show W.IF.length<=(Yi (Y2 W W.IF.length) 8).IF.length; rw[hf.c]; exact I8 _);exact⟨a3,hf.trans b3⟩
end
structure zzy (K S:Int) (W:Q7):Prop where
 sw:SW K W
 rb:RB S W
 i:∀c:Int,0<=c->c<(W.IF.length:Int)->(gi W.IF c).idle<=S
 nw:W.now<=S
 up:∀c:Int,0<=c->c<(W.IF.length:Int)->(gi W.IF c).up=true
section
variable {K K' S S':Int}{W W':Q7}
theorem zzy.mono(h:zzy K S W)(hk:K<=K')(hs:S<=S'):zzy K' S' W:=⟨h.sw.mono hk,h.rb.mono hs,λc a b=>IC (h.i c a b) hs,IC h.nw hs,h.up⟩
theorem zzy.sum(h:zzy K S W)(k:T6 W W')(hT:Z1 W.IE W'.IE)(hl:W'.IF.length=W.IF.length)(sw:SW K' W'):zzy K' S W':=⟨sw,h.rb.sum k hT hl,λc a b=>by rw[hl] at b; rw[k.i]; exact h.i c a b,by rw[k.n]; exact h.nw,λc a b=>by rw[hl] at b; rw[k.u]; exact h.up c a b⟩
end
def Lw(n:Nat)(W:Q7):Prop:=zzy ((n:Int)*200000000000) ((n:Int)*500) W
section
variable {n m:Nat}{W:Q7}
theorem Lw.mono(h:Lw n W)(hm:n<=m):Lw m W:=zzy.mono h Qo Qo
end
structure zk5 (K S:Int) (W:Q7):Prop where
 sw:SW K W
 rb:RB S W
 i:∀c:Int,0<=c->c<(W.IF.length:Int)->(gi W.IF c).idle<=S
 nw:W.now<=S
section
variable {K S:Int}{W W':Q7}
theorem zk5.sum(h:zk5 K S W)(k:T6 W W')(hT:Z1 W.IE W'.IE)(hl:W'.IF.length=W.IF.length)(sw:SW K W'):zk5 K S W':=⟨sw,h.rb.sum k hT hl,λc a b=>by rw[hl] at b; rw[k.i]; exact h.i c a b,by rw[k.n]; exact h.nw⟩
theorem zk5.settle(h:zk5 K S W)(hK:0<=K):zk5 K S (Qg W):=by
 obtain⟨s,f⟩:=ztc h.sw hK;exact h.sum (zd7 W) f.g f.c s
theorem zk5.Ry(h:zk5 K S W){c:Int}(c0:0<=c)(c1:c<(W.IF.length:Int)):zk5 K S (Ry W c):=h.sum (zkw W c) (Z1.refl _) H' (h.sw.Ry c0 c1)
theorem zk5.room(h:zk5 K S W)(wp:Je W)(hK:K<=Ql)(hS:S<=Ql)(S0:0<=S):QM W=true:=by
 have cP:=wp.a.gl;have fH:=wp.a.t;refine Qh.2 ⟨IC h.nw hS,λc a b=>⟨IC (h.rb.c c a b).2.1 hS,IC (h.i c a b) hS⟩,λt a b=>?_,λk a b=>?_,λk c a b c0 c1=>?_⟩
 ·have h1:=h.sw.tv t a Qo;have h2:=h.rb.t t a Qo;exact⟨IC h1.2 hK,IC h2.2.1 hS,IC h2.2.2.2 hS⟩
 ·cases hh:(gi W.IE k).used with
  | true=>exact IC (h.rb.g k (Q5.2 ⟨a,b,hh⟩)).2 hS
  | false=>
   rw[((wp.a.grp k a Qo).1 hh).s];omega
 ·have hu:Q6 W.IE k=true:=by
   cases hh:(gi W.IE k).used with
   | true=>exact Q5.2 ⟨a,b,hh⟩
   | false=>
    have:=((wp.a.grp k a Qo).1 hh).l;omega
  have hl:=wp.a.sl hu;have h1:=h.sw.s k c hu c0 Qo;exact⟨IC h1.2.1 hK,IC h1.2.2.2.1 hK,IC (h.rb.s k c hu c0 Qo).2 hS⟩
theorem zwg(hW:Qw W=true)(hr:QM W=true):zk5 Ql Ql W:=
 ⟨PH (Qh.1 hW) (Qh.1 hr),z0g (Qh.1 hW) (Qh.1 hr),λc a b=>((Qh.1 hr).c c a b).2,(Qh.1 hr).n⟩
theorem zwf(h:zk5 K S W)(hW:Qw W=true){g n x:Int}(hb:Zz W g n x=0)(K0:0<=K)(S0:0<=S):zk5 K S (ZY W g n x):=by
 have hf:=L1 hW hb;have wp:=Qh.1 hW;have hs:=h.sw.s g (PD W g x) hf.u hf.c0 hf.c1;have s1:zk5 K S (IV W (QR W) (UC W g n x)):=⟨h.sw.IV hf.f0 hf.f1 (x:=UC W g n x) (λ_=>⟨hf.u,hf.c0,hf.c1⟩) hs.1 hs.2.1,h.rb.IV wp.a.t hf.f0 hf.f1 (x:=UC W g n x) (by simp only[UC]; omega),h.i,h.nw⟩;exact(s1.Ry hf.c0 hf.c1).settle K0
theorem zs4(h:zk5 K S W){t:Int}(t0:0<=t)(t1:t<12)(n:(Q9 W t).state≠0):zk5 K S (QH W t):=by
 unfold QH;split
 ·exact h.Ry (h.sw.t t t0 t1 n).2.1 (h.sw.t t t0 t1 n).2.2
 ·exact h
end
theorem zlt{W:Q7}{g n x:Int}(hW:Qw W=true)(hb:Zz W g n x=0) :
  (∀i:Int,0<=i->Q9 (ZY W g n x) i=if QR W=i then UC W g n x else Q9 W i)/\Z1 W.IE (ZY W g n x).IE/\QM (ZY W g n x)=true:=by
 have hf:=L1 hW hb;have fH:=(Qh.1 hW).a.t;have f1:=hf.f1;have fr:=(UI (hf.sw2.Ry hf.c0 hf.c1) Qd).2;refine⟨λi i0=>?_,fr.g,?_⟩
 ·show gi (Qg _).tasks i=_;rw[fr.t];exact QG _ _ hf.f0 Qo i0
 ·exact(zwf (zwg hW hf.r) hW hb Qd Qd).room (Gm hW hb).wp (I3 _) (I3 _) Qd
theorem zut{W:Q7}{t:Int}(hW:Qw W=true)(hb:YD W t=0) :
  (∀i:Int,0<=i->Q9 (XK W t) i=if t=i then Pv else Q9 W i)/\Z1 W.IE (XK W t).IE/\QM (XK W t)=true:=by
 have hbb:=hb;unfold YD at hb
 split at hb
 ·cases hb
 rename_i h1
 split at hb
 ·cases hb
 rename_i h2;have h1:ZA W t=true:=by simpa using h1
 have hr:QM W=true:=by simpa using h2
 obtain⟨t0,t1,tn⟩:=YA h1;have fH:=(Qh.1 hW).a.t;have h0:=zwg hW hr;have hlv:=zs4 h0 t0 Qo tn;have hT:Z1 W.IE (QH W t).IE:=by unfold QH; split <;> exact Z1.refl _
 have IU:=zma W t;have RM:(QH W t).tasks.length=12:=by rw[IU]; exact fH
 have s1:zk5 Ql Ql (IV (QH W t) t Pv):=⟨hlv.sw.IV t0 Qo (x:=Pv) (λh=>Is rfl h) Qd Qd,hlv.rb.IV RM t0 Qo (x:=Pv) Qd,hlv.i,hlv.nw⟩;have fr:=(UI s1.sw Qd).2;refine⟨λi i0=>?_,hT.trans fr.g,?_⟩
 ·show gi (Qg _).tasks i=_;rw[fr.t];show gi ((QH W t).tasks.set t.toNat Pv) i=_;rw[IU,QG _ _ t0 t1 i0]; rfl
 ·exact(s1.settle Qd).room (zca hW hbb).wp (I3 _) (I3 _) Qd
theorem zx5{W:Q7}{t:Int}(t0:0<=t)(t1:t<12)(h:(Q9 W t).state=0)(hb:∀i:Int,0<=i->i<t->(Q9 W i).state≠0):QR W=t:=by
 rcases T2 (Xy W) 12 with ⟨_,b⟩ | ⟨a,b,c,d⟩
 ·have:=b t.toNat Qo;unfold Xy at this;rw[show ((t.toNat:Nat):Int)=t by omega,h] at this;cases this
 ·have c:((Q9 W (((LE (Xy W) 12).toNat:Nat):Int)).state==0)=true:=c;show LE (Xy W) 12=t;generalize LE (Xy W) 12=z at a b c d;rw[show ((z.toNat:Nat):Int)=z by omega] at c;have c:=Iz c
  by_cases h1:z<t
  ·exact Is c (hb _ a h1)
  ·by_cases h2:t<z
   ·have d:=d t.toNat Qo;unfold Xy at d;rw[show ((t.toNat:Nat):Int)=t by omega,h] at d;cases d
   ·omega
theorem zuv{W:Q7}{i:Int}(i0:0<=i)(h:i<QR W):(Q9 W i).state≠0:=λe=>by
 rcases T2 (Xy W) 12 with ⟨a,_⟩ | ⟨a,b,c,d⟩
 ·unfold QR at h; omega
 ·have:=d i.toNat (by unfold QR at h; omega);unfold Xy at this;rw[show ((i.toNat:Nat):Int)=i by omega,e] at this;cases this
theorem zof{W:Q7}{g n x:Int}(hW:Qw W=true)(hb:Zz W g n x=0) :
  YD (ZY W g n x) (QR W)=0/\Q9 (XK (ZY W g n x) (QR W)) (QR W)=Pv/\Zz (XK (ZY W g n x) (QR W)) g n x=0/\QR (XK (ZY W g n x) (QR W))=QR W:=by
 have hf:=L1 hW hb;obtain⟨a1,a2,a3⟩:=zlt hW hb;have hWx:Qw (ZY W g n x)=true:=Qh.2 (Gm hW hb).wp;have htx:=(Qh.1 hWx).a.t;have f0:=hf.f0;have f1:=hf.f1;have eT:Q9 (ZY W g n x) (QR W)=UC W g n x:=by rw[a1 _ hf.f0,E' rfl]
 have hth:ZA (ZY W g n x) (QR W)=true:=by
  unfold ZA;rw[eT,Qu.2 Qo]; rfl
 have he:YD (ZY W g n x) (QR W)=0:=by
  unfold YD;rw[C' (by rw[hth]; decide),C' (by rw[a3]; decide)]
 obtain⟨b1,b2,b3⟩:=zut hWx he;have eZ:Q9 (XK (ZY W g n x) (QR W)) (QR W)=Pv:=by rw[b1 _ hf.f0,E' rfl]
 have vA:QR (XK (ZY W g n x) (QR W))=QR W:=zx5 hf.f0 hf.f1 (by rw[eZ]; rfl) λi i0 i1=>by
  rw[b1 i i0,C' Qo,a1 i i0,C' Qo];exact zuv i0 i1
 have hu:Q6 (XK (ZY W g n x) (QR W)).IE g=true:=by
  have hT:=a2.trans b2;have:=Q5.1 hf.u;exact Q5.2 ⟨this.1,by rw[hT.len]; exact this.2.1,by rw[hT.u]; exact this.2.2⟩
 refine⟨he,eZ,?_,vA⟩;unfold Zz;rw[C' (λh=>by rcases h with h | h | h; exact hf.w h; rw[hf.m] at h; cases h; exact hf.m0 h),C' (by rw[hu]; decide),C' (by rw[vA]; omega),C' (by rw[b3]; decide)]
theorem zpy{W W':Q7}{bar a:Int}(h:Qw W=true)(hb:bar=0):Xh W bar W' a=(W',a,0):=by unfold Xh; rw[C' (by rw[h]; decide),C' (by simpa using hb)]
theorem zxn{W W':Q7}{bar a:Int}(h:¬(Qw W=true/\bar=0)):(Xh W bar W' a).2.1 = -1/\(Xh W bar W' a).2.2≠0:=by
 unfold Xh
 cases hW:Qw W with
 | false=>exact⟨rfl,show (1:Int)≠0 by decide⟩
 | true=>
  rw[C' Qd]
  by_cases hb:bar=0
  ·exact Is ⟨hW,hb⟩ h
  ·rw[E' hb]; exact⟨rfl,hb⟩
theorem zoh{W:Q7}{i:Int}(i0:0<=i)(h:i<QR W):(Q9 W i).state≠0:=λe=>by
 rcases T2 (Xy W) 12 with ⟨a,_⟩ | ⟨_,_,_,d⟩
 ·unfold QR at h; omega
 ·have:=d i.toNat (by unfold QR at h; omega);unfold Xy at this;rw[show ((i.toNat:Nat):Int)=i by omega,e] at this;cases this
theorem k_FnFork{a:OA}{La Ca:Nat}{w:Wo}(ha:NO a La w)(hca:La<=Ca)(hg:Tc w) :
  Cz Gf #[.slice a La Ca] w λe w'=>e=.returned (.bool true)/\Q0 [] w w':=by
 refine(zfj a La Ca (R:=λv w'=>v=.bool true/\Q0 [] w w') ?_).mono λe w' ⟨v,he,hv,h3⟩=>⟨by rw[he,hv],h3⟩
 refine⟨λ_ wr hx=>⟨rfl,hx⟩,λ_ M' RZ _=>?_⟩;refine(HO (ha.ext RZ) hca).mono ?_;rintro e wv ⟨W,m,g,n,x,he,hD⟩;have hl:=hD.ln;have hX0:Q0 [] w wv:=RZ.trans hD.ext;have r0:=hD.rd;have s0:=Sc.start wv;have hG:∀{bs:List Nat} {w':Wo},Sc wv bs w'->Tc w':=λs=>hg.ext (hX0.trans s.ext)
 refine⟨_,_,_,_,_,_,_,_,_,_,_,_,_,he,Y6,λb hb O' R2 We=>?_⟩;have s1:=s0.put R2 hb;refine(Ln (g:=g) (n:=n) (x:=x) (r0.sc0 s1) hl (hG s1)).mono ?_;rintro e1 R7 ⟨v,jG,n1,m1,hv,hM1,dG⟩;subst hv;have s2:=s1.R5 dG;have o1:=OW.of hM1 We;refine⟨_,_,_,_,_,_,_,_,_,_,_,_,jG,Qe dG We,λb1 gH Rq Rb iB=>?_⟩;have s3:=s2.put Rb gH;have o3:=o1.put Rb gH;refine(Po (g:=g) (n:=n) (x:=x) (r0.sc0 s3) hl).mono ?_;rintro e2 Rr ⟨v,aT,n2,m2,hv,aB,SE⟩;subst hv;have s4:=s3.R5 SE;have o4:=o3.R5 SE;refine⟨_,_,_,_,_,_,_,_,_,_,_,_,aT,Qe SE iB,λb2 cN=>⟨λq=>by simp at q,λ_=>?_⟩⟩;clear he jG aT hM1 aB o1 o3 s1 s2 s3 R2 Rb We iB dG SE hb gH
 by_cases hWb:Qw W=true/\Zz W g n x=0
 ·obtain⟨hW,hb⟩:=hWb;have e0:Xh W (Zz W g n x) (ZY W g n x) (QR W)=(ZY W g n x,QR W,0):=zpy hW hb;rw[e0] at o4 ⊢;refine⟨λq=>by simp at q,λ_=>?_⟩;have hf:=L1 hW hb;have hi:=Gm hW hb;obtain⟨a1,a2,a3⟩:=zlt hW hb;obtain⟨x1,x2,x3,x4⟩:=zof hW hb;have wp:=Qh.1 hW;have hn:=o4.own.n8 hi.wp.a;subst hn;have lx:=zj3 hi.wp.a;have fH:=wp.a.t;have htx:=hi.wp.a.t;have ff:∀{i:Int},0<=i->i<QR W->(Q9 W i).state≠0:=λh1 h2=>zoh h1 h2
  have f0:=hf.f0;have f1:=hf.f1;have hWX:Qw (ZY W g n x)=true:=Qh.2 hi.wp;have hiY:=zca hWX x1;have hWY:Qw (XK (ZY W g n x) (QR W))=true:=Qh.2 hiY.wp;have lY:=zj3 hiY.wp.a;have htY:=hiY.wp.a.t;have eX:Xi (ZY W g n x) (YD (ZY W g n x) (QR W)) (XK (ZY W g n x) (QR W))=(XK (ZY W g n x) (QR W),0):=zi1 hWX x1;have eY:∀V,Xh (XK (ZY W g n x) (QR W)) (Zz (XK (ZY W g n x) (QR W)) g n x) V (QR (XK (ZY W g n x) (QR W)))=(V,QR W,0):=λV=>by rw[zpy hWY x3,x4]
  clear hb e0 hf x1 x3 x4 a2 a3;have kx:=λ{w9:Wo} (r:Xg [] w9 (ZY W g n x) m1) (gl:Tc w9)=>C9 (t:=QR W) r lx gl
  rw[eX] at kx;have ky:=λ{w9:Wo} {m9:MW} (r:Xg [] w9 (XK (ZY W g n x) (QR W)) m9) (gl:Tc w9)=>Ln (g:=g) (n:=n) (x:=x) r lY gl
  simp only[eY] at ky;generalize ZY W g n x=X at *;generalize XK X (QR W)=Y at *;generalize hT:QR W=t at *;refine⟨λvs w2=>∃k:Nat,vs=[I (k:Int)]/\k<=12/\Sc wv [b,b1,b2] w2/\OW 8 O'.heap.size [b,b1,b2] w2 X m1,Zt 12 0,λSi aS _=>⟨0,rfl,Ie _,s4.put aS cN,o4.put aS cN⟩,?_⟩;clear s4 o4 cN;rintro j S3 iB ⟨k,he,hk,s,o⟩;simp only[I5,I6,true_and,and_true] at he;subst he;have rk:=r0.sc s;refine⟨λIU=>?_,λRN WO lQ hs9=>?_⟩
  ·have IU:=Ot IU;have k0:(0:Int)<=(k:Int):=Qo;have k1:(k:Int)<(X.tasks.length:Int):=Qo;refine⟨λ_=>rk.t.ix QF k0 IU,_,λ_=>rk.t.f k0 IU (j:=0) rfl,λ_ _=>o.rd.t.ix QF k0 k1,_,_,_,_,_,_,_,_,_,λ_ _=>o.rd.t (k:Int) k0 k1,λ_ _=>rk.t.ix QF k0 IU,_,_,_,_,_,_,_,_,_,λ_ _=>rk.t (k:Int) k0 IU,_,λ_ _ wq=>zdw H9 (k9 _ _) _ _ wq,λq=>?_,λ_=>⟨⟨Qo,Qo⟩,λW5 oH _=>⟨⟨k+1,rfl,Qo,s.step oH,o.step oH⟩,Ze (k:=k) rfl rfl Qo⟩⟩⟩;rw[B6] at q;simp only[Iv,A',Ik,It,Iu,ID,decide_eq_false_iff_not] at q;rcases q with q | q
   ·exact Is q.2 (ff k0 q.1)
   ·refine Is ?_ q.2;have:=a1 (k:Int) k0;rw[C' (λe=>q.1 e.symm)] at this;exact this
  ·have s9:=s.step lQ;have o9:=o.step lQ;refine(kx o9.rd0 (hG s9)).mono ?_;rintro e3 aF ⟨v,gP,n3,m3,hv,kQ,jL⟩;subst hv;have hn3:=kQ.n8 hiY.wp.a;subst hn3;have s10:=s9.R5 jL;have o10:=OW.of kQ hs9;have t1:t<(Y.tasks.length:Int):=Qo;refine⟨_,_,_,_,_,_,_,_,_,_,_,gP,Qe jL hs9,λb3 hb3=>⟨λ_=>o10.rd.t.ix QF f0 t1,_,_,_,_,_,_,_,_,_,λ_=>o10.rd.t t f0 t1,_,λ_ wq=>zdw H9 (k9 _ Pv) _ _ wq,λq=>?_,λ_ S9 AF9 wP=>?_⟩⟩
   ·rw[B6,show gi Y.tasks t=Pv from x2] at q;simp at q
   ·have s11:=s10.put AF9 hb3;have o11:=o10.put AF9 hb3;refine(ky o11.rd0 (hG s11)).mono ?_;rintro e4 Wx ⟨v,he4,n4,m4,hv,lJ,kJ⟩;subst hv;have s12:=s11.R5 kJ;refine⟨_,_,_,_,_,_,_,_,_,_,_,_,he4,Qe kJ wP,λb4 hb4 Sr vE=>⟨?_,hX0.trans (s12.step vE).ext⟩⟩;simp
 ·obtain⟨z1,z2⟩:=zxn (W':=ZY W g n x) (a:=QR W) hWb;refine⟨λ_ RQ Sy=>⟨?_,hX0.trans (s4.step Sy).ext⟩,λq=>?_⟩
  ·rw[z1]; rfl
  ·exact Is (by simpa using q) z2
end Go.Proofs.YtnclplgaicdapaaGreatDoor
