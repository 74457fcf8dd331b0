/- Part 18 of what the law FnPinned needs: the engine, the functions' propositions, the contracts. -/
import Derived.Test.YtclpmgfpjeaibaaGreatFnPinnedPq
namespace Go.Proofs.YtclpmgfpjeaibaaGreat
open Go.RowKit
set_option linter.unusedVariables false
set_option linter.unusedSimpArgs false
set_option maxRecDepth 10000
set_option maxHeartbeats 4000000 in
theorem zqy {rb:Nat} {c:OA} {L N:Nat} {w:World} {items:Int} (h:Jq rb c L N w) (hN:N<=700000000000) (hi:items<=27) :
  Cz Up #[.pointer (some ⟨rb,0,none⟩),.int .i64 items] w fun e w'=>∃(W:Q8) (m:MW),e = .returned (.agg (Qa W m).toArray)/\XC W/\Yf 8 w.heap.size w' W m/\Jq rb c L (N+1000) w'/\Q0 [rb] w w'/\∀x∈QL 8 m,x≠rb:=by
 refine (GG (some ⟨rb,0,none⟩) items (R:=fun v w'=>∃(W:Q8) (m:MW),v = .agg (Qa W m).toArray/\XC W/\Yf 8 w.heap.size w' W m/\Jq rb c L (N+1000) w'/\Q0 [rb] w w'/\∀x∈QL 8 m,x≠rb) ?_).mono fun e w' ⟨v,he,W,m,hv,h3⟩=>⟨W,m,by rw [he,hv],h3⟩
 intro b hb b1 hb1 wr hx hs;refine (Dr.pick ((Dr.start h).put2 hx hb hb1) (by omega) hs).mono ?_;rintro e w1 ⟨v,he,hk,⟨p0,_,p2⟩,h1⟩;have p2:=p2 (by decide);refine ⟨_,he,hk,⟨by omega,by omega⟩,zth (lo:=1) (hi:=4) (by decide) rfl (by omega) (by omega) fun x x1 x4 wr hx hs => ?_⟩;obtain ⟨q,rfl⟩:∃q:Nat,x=(q:Int):=⟨x.toNat,by omega⟩;have h2:=h1.step hx;refine (Fg (n:=q) (by omega) (by omega)).mono ?_;rintro e2 w2 ⟨m,he2,hM,hx5⟩
 have hb2:∀x∈rb::[b,b1],x<wr.heap.size:=fun x hm=>by
  rcases List.mem_cons.1 hm with h1 | h1
  ·rw [h1]; exact h2.r.rd.lt
  ·exact hs x h1
 have hK:Xk rb c L N 1 [b,b1] w w2 (Jn q) m:=⟨zof (by omega) (by omega),⟨h2.r.call0 hx5,h2.ext.trans hx5.of_nil,h2.new⟩,(OW.of hM hb2).mono h2.ext.size⟩;refine ⟨_,_,_,_,_,_,_,_,_,_,_,he2,Qe hx5 hs,fun b2 hb2 wr hx hs => ?_⟩;refine ((hK.put hx hb2).pick (by omega) hs).mono ?_;rintro e3 w3 ⟨v1,he3,hk3,⟨p10,_,p12⟩,hK1⟩;have p12:=p12 (by decide);refine ⟨_,he3,hk3,?_⟩;refine ⟨fun vs w2=>∃(k n:Nat) (W:Q8) (m:MW),vs = .int .i64 (k:Int)::Qa W m/\(k:Int)<=v1/\n<=2+2*k/\Xk rb c L N n [b,b1,b2] w w2 W m,Zw v1.toNat 0,fun wr hx _=>⟨0,2,Jn q,m,rfl,p10,by omega,hK1.step hx⟩,?_⟩;clear hK1 hk3 he3 hs hx hM hK he2 hx5 h1 h2 he hk;rintro i1 l l1O l1L l1C l2O l2L l2C l3O l3L l3C wv hs ⟨k,n,W,m,he,hk,hn,hK⟩;simp only [Qa,List.cons.injEq,Value.int.injEq,Value.slice.injEq,true_and,and_true] at he;obtain ⟨rfl,rfl,⟨rfl,rfl,rfl⟩,⟨rfl,rfl,rfl⟩,rfl,rfl,rfl⟩:=he;refine ⟨fun hlt => ?_,fun hge wr hx hs => ?_⟩
 ·have hlt:=of_decide_eq_true hlt
  repeat' first
   | exact rfl
   | (refine And.intro ?_ ?_)
   | (refine zpy (by decide) rfl (by omega) (by omega) fun x => ?_)
   | (refine zs8 (by decide) rfl (by omega) (by omega) fun x => ?_)
   | (intro (b:Nat) hb)
   | (intro (wr:World) hx hs; refine (Xk.pick (Xk.step (by assumption) hx) ?_ hs).mono ?_; rotate_left; rintro e w2 ⟨v,he,hk,⟨hp0,_,hp2⟩,hC⟩; have hp2:=hp2 (by decide); refine ⟨_,he,hk,?_⟩)
   | (intro (wr:World) hx hs; refine (Xk.pick (Xk.put (by assumption) hx (by assumption)) ?_ hs).mono ?_; rotate_left; rintro e w2 ⟨v,he,hk,⟨hp0,_,hp2⟩,hC⟩; have hp2:=hp2 (by decide); refine ⟨_,he,hk,?_⟩)
   | (intro (wr:World) hx hs; refine (Xk.pick (Xk.put2 (by assumption) hx (by assumption) (by assumption)) ?_ hs).mono ?_; rotate_left; rintro e w2 ⟨v,he,hk,⟨hp0,_,hp2⟩,hC⟩; have hp2:=hp2 (by decide); refine ⟨_,he,hk,?_⟩)
   | (intro (wr:World) hx hs; refine (Xk.mak (Xk.step (by assumption) hx) hs).mono ?_; rintro e w2 ⟨W',m',a,d,he,hk,hC⟩; refine ⟨_,_,_,_,_,_,_,_,_,_,_,_,he,hk,⟨by omega,by omega⟩,fun wr hx _=>⟨⟨k+1,n+2,W',m',by simp [Qa],by omega,by omega,((hC.step hx).more (by omega)).sub (by simp)⟩,QU (k:=k) rfl rfl (by omega)⟩⟩)
   | (intro (wr:World) hx hs; refine (Xk.mak (Xk.put (by assumption) hx (by assumption)) hs).mono ?_; rintro e w2 ⟨W',m',a,d,he,hk,hC⟩; refine ⟨_,_,_,_,_,_,_,_,_,_,_,_,he,hk,⟨by omega,by omega⟩,fun wr hx _=>⟨⟨k+1,n+2,W',m',by simp [Qa],by omega,by omega,((hC.step hx).more (by omega)).sub (by simp)⟩,QU (k:=k) rfl rfl (by omega)⟩⟩)
   | (intro (wr:World) hx hs; refine (Xk.mak (Xk.put2 (by assumption) hx (by assumption) (by assumption)) hs).mono ?_; rintro e w2 ⟨W',m',a,d,he,hk,hC⟩; refine ⟨_,_,_,_,_,_,_,_,_,_,_,_,he,hk,⟨by omega,by omega⟩,fun wr hx _=>⟨⟨k+1,n+2,W',m',by simp [Qa],by omega,by omega,((hC.step hx).more (by omega)).sub (by simp)⟩,QU (k:=k) rfl rfl (by omega)⟩⟩)
   | omega
 refine ((hK.step hx).pick (by omega) hs).mono ?_;rintro e4 w4 ⟨v3,he4,hk4,⟨p30,_,p32⟩,hC6⟩;have p32:=p32 (by decide);refine ⟨_,he4,hk4,⟨by omega,by omega⟩,?_⟩;refine ⟨fun vs w2=>∃(k n:Nat) (W:Q8) (m:MW),vs = .int .i64 (k:Int)::Qa W m/\(k:Int)<=1+v3/\n<=20+3*k/\Xk rb c L N n [b,b1,b2] w w2 W m,Zw (1+v3).toNat 0,fun wr8 hx8 _=>⟨0,n+1,W,m,rfl,by omega,by omega,hC6.step hx8⟩,?_⟩;clear hK hC6 hk4 he4 hs hx hge hk hn;clear W m n k;rintro i3 l4 l5O l5L l5C l6O l6L l6C l7O l7L l7C wv hs ⟨k,n,W,m,he,hk,hn,hK⟩;simp only [Qa,List.cons.injEq,Value.int.injEq,Value.slice.injEq,true_and,and_true] at he;obtain ⟨rfl,rfl,⟨rfl,rfl,rfl⟩,⟨rfl,rfl,rfl⟩,rfl,rfl,rfl⟩:=he;refine ⟨fun hlt wr hx hs => ?_,fun hge => ?_⟩
 ·have hlt:=of_decide_eq_true hlt;refine ((hK.step hx).pick (by omega) hs).mono ?_;rintro e5 w5 ⟨v5,he5,hk5,_,hC5⟩;refine ⟨_,he5,hk5,rfl,fun wr hx hs => ?_⟩;refine ((hC5.step hx).weight (by omega) hs).mono ?_;rintro e6 w6 ⟨v6,he6,hk6,_,hC6⟩;refine ⟨_,he6,hk6,rfl,_,V3,_,XH,zp0 _,fun wr hx hs => ?_⟩;refine ((hC6.step hx).fork hs).mono ?_;rintro e7 w7 ⟨W7,m7,a,d,he7,hk7,hC7⟩;exact ⟨_,_,_,_,_,_,_,_,_,_,_,_,he7,hk7,⟨by omega,by omega⟩,fun wr hx _=>⟨⟨k+1,n+1+2,W7,m7,by simp [Qa],by omega,by omega,hC7.step hx⟩,QU (k:=k) rfl rfl (by omega)⟩⟩
 ·have hge:=of_decide_eq_false hge;refine ⟨fun vs w2=>∃(k n:Nat) (W:Q8) (m:MW),vs = .int .i64 (k:Int)::Qa W m/\k<=27/\n<=50+20*k/\Xk rb c L N n [b,b1,b2] w w2 W m,Zw 27 0,fun wr8 hx8 _=>⟨0,n,W,m,rfl,by omega,by omega,hK.step hx8⟩,?_⟩;clear hK hs;rintro i5 l8 l9O l9L l9C l10O l10L l10C l11O l11L l11C wv hs ⟨k,n,W,m,he,hk,hn,hK⟩;simp only [Qa,List.cons.injEq,Value.int.injEq,Value.slice.injEq,true_and,and_true] at he;obtain ⟨rfl,rfl,⟨rfl,rfl,rfl⟩,⟨rfl,rfl,rfl⟩,rfl,rfl,rfl⟩:=he;refine ⟨fun hlt wr hx hs => ?_,fun hge wr hx=>⟨W,m,rfl,(hK.step hx).fin (by omega)⟩⟩;have hlt:=of_decide_eq_true hlt;refine ((hK.step hx).item (by omega) hs (V:=W) (p:=m)).mono ?_;rintro e5 w5 ⟨k5,a5,q5,r5,s5,he5,hk5,hC5⟩;refine ⟨_,_,_,_,_,he5,hk5,rfl,fun wr hx hs => ?_⟩;refine ((hC5.step hx).do hs).mono ?_;rintro e6 w6 ⟨W6,m6,d,he6,hk6,hC6⟩;exact ⟨_,_,_,_,_,_,_,_,_,_,_,he6,hk6,⟨by omega,by omega⟩,fun wr hx _=>⟨⟨k+1,n+20,W6,m6,by simp [Qa],by omega,by omega,hC6.step hx⟩,QU (k:=k) rfl rfl (by omega)⟩⟩
theorem zsl:Tryz.prog.underlying ty_sl_uint8=some (.slice T9):=by kernel_rfl
theorem zsk:Tryz.prog.underlying T9=some (.int .u8):=by kernel_rfl
theorem zsm:Tryz.prog.underlying Zn=some .string:=by kernel_rfl
theorem Xk.ofPlay {rb:Nat} {c:OA} {L N n k:Nat} {bs:List Nat} {w0 w w':World} {W:Q8} {m:MW} (d:Dr rb c L N n bs w0 w) (hs:∀x∈bs,x<w.heap.size) (iv:XC W) (hM:Yf 8 w.heap.size w' W m) (hr:Jq rb c L (N+n+k) w') (hx:Q0 [rb] w w') (hne:∀x∈QL 8 m,x≠rb):Xk rb c L N (n+k) bs w0 w' W m:=
 ⟨iv,⟨d.r.upd (by rw [<-Nat.add_assoc]; exact hr),d.ext.trans hx,d.new⟩,⟨hM.mono d.ext.size,fun x hx1 hm=>by
  rcases List.mem_cons.1 hm with h1 | h1
  ·exact hne x hx1 h1
  ·have:=(hM.lt x hx1).1;have:=hs x h1;omega⟩⟩
set_option maxHeartbeats 2000000 in
theorem zoq {rb:Nat} {c:OA} {L N:Nat} {w:World} (h:Jq rb c L N w) (hN:N<=600000000000) :
  Cz JM #[.pointer (some ⟨rb,0,none⟩)] w fun e w'=>∃(W:Q8) (m:MW),e = .returned (.agg (Qa W m).toArray)/\XC W/\Yf 8 w.heap.size w' W m/\Jq rb c L (N+1100) w'/\Q0 [rb] w w'/\∀x∈QL 8 m,x≠rb:=by
 refine (Lv (some ⟨rb,0,none⟩) (R:=fun v w'=>∃(W:Q8) (m:MW),v = .agg (Qa W m).toArray/\XC W/\Yf 8 w.heap.size w' W m/\Jq rb c L (N+1100) w'/\Q0 [rb] w w'/\∀x∈QL 8 m,x≠rb) ?_).mono fun e w' ⟨v,he,W,m,hv,h3⟩=>⟨W,m,by rw [he,hv],h3⟩
 intro b hb wr hx hs;refine (Dr.pick ((Dr.start h).put hx hb) (by omega) hs).mono ?_;rintro e w1 ⟨v,he,hk,⟨p0,_,p2⟩,h1⟩;have p2:=p2 (by decide);refine ⟨_,he,hk,fun wr hx hs => ?_⟩;have h2:=h1.step hx;refine (zqy h2.r.rd (by omega) (items:=v) (by omega)).mono ?_;rintro e2 w2 ⟨W,m,he2,iv,hM,hr,hxp,hne⟩;have hK:=Xk.ofPlay h2 hs iv hM hr hxp hne;refine ⟨_,_,_,_,_,_,_,_,_,_,he2,Od h2.r hxp hs,fun b1 hb1 wr hx hs => ?_⟩;refine ((hK.put hx hb1).pick (by omega) hs).mono ?_;rintro e3 w3 ⟨v3,he3,hk3,_,hK3⟩;refine ⟨_,he3,hk3,fun _ => ?_,fun _ wr hx=>⟨W,m,rfl,(hK3.step hx).fin (by omega)⟩⟩;refine ⟨fun vs w2=>∃(k:Nat) (W:Q8) (m:MW),vs = .int .i64 (k:Int)::Qa W m/\k<=12/\Xk rb c L N (0+1+1000+1) [b,b1] w w2 W m,Zw 12 0,fun wr hx _=>⟨0,W,m,rfl,by omega,hK3.step hx⟩,?_⟩;clear hK3 hK hM iv hne hr hxp he2 hk3 he3 h2 h1 hs hx;rintro i1 l l1O l1L l1C l2O l2L l2C l3O l3L l3C wv hs ⟨k,W,m,he,hk,hK⟩;simp only [Qa,List.cons.injEq,Value.int.injEq,Value.slice.injEq,true_and,and_true] at he;obtain ⟨rfl,rfl,⟨rfl,rfl,rfl⟩,⟨rfl,rfl,rfl⟩,rfl,rfl,rfl⟩:=he;refine ⟨fun hlt wr hx hs => ?_,fun hge => ?_⟩
 ·have hlt:=of_decide_eq_true hlt;refine ((hK.step hx).fork hs).mono ?_;rintro e7 w7 ⟨W7,m7,a,d,he7,hk7,hC7⟩;exact ⟨_,_,_,_,_,_,_,_,_,_,_,_,he7,hk7,⟨by omega,by omega⟩,fun wr hx _=>⟨⟨k+1,W7,m7,by simp [Qa],by omega,hC7.step hx⟩,QU (k:=k) rfl rfl (by omega)⟩⟩
 refine ⟨fun vs w2=>∃(k:Nat) (W:Q8) (m:MW),vs = .int .i64 (k:Int)::Qa W m/\k<=8/\Xk rb c L N (0+1+1000+1) [b,b1] w w2 W m,Zw 8 0,fun wr hx _=>⟨0,W,m,rfl,by omega,hK.step hx⟩,?_⟩;clear hK hs;rintro i3 l4 l5O l5L l5C l6O l6L l6C l7O l7L l7C wv hs ⟨k,W,m,he,hk,hK⟩;simp only [Qa,List.cons.injEq,Value.int.injEq,Value.slice.injEq,true_and,and_true] at he;obtain ⟨rfl,rfl,⟨rfl,rfl,rfl⟩,⟨rfl,rfl,rfl⟩,rfl,rfl,rfl⟩:=he;refine ⟨fun hlt=>⟨⟨by omega,by omega⟩,⟨by have:=of_decide_eq_true hlt; show (0:Int)<=_; omega,by have:=of_decide_eq_true hlt; show _<=(255:Int); omega⟩,fun b3 wb hxb hsz hh hn wr hx hs => ?_⟩,fun _ wr hx=>⟨W,m,rfl,(hK.step hx).fin (by omega)⟩⟩;have hlt:=of_decide_eq_true hlt;have hK1:=(hK.step hxb).step hx
 have hh2:wr.heap[b3]? = some (Obj.cells ([.int .u8 (48+(k:Int))]:List Value).toArray T9 (0,0)):=by
  rw [hx.block b3 (Vn hh) hn]; exact hh
 have hc:=run_convert_bytes_arg wr ty_sl_uint8 T9 zsl zsk b3 0 1 1 [48+(k:Int)] rfl (fun i hi=>by
  have:i=0:=by omega
  subst this;rw [P2 hh2]; rfl) Zn zsm
 refine ⟨_,wr,hc,fun _ _=>rfl,?_,fun wr2 hx2 hs2 => ?_⟩
 ·have e1:(strOfNums [48+(k:Int)]).size=1:=rfl;rw [e1]; decide
 refine ((hK1.step hx2).mak hs2).mono ?_;rintro e7 w7 ⟨W7,m7,a,d,he7,hk7,hC7⟩;exact ⟨_,_,_,_,_,_,_,_,_,_,_,_,he7,hk7,⟨by omega,by omega⟩,fun wr hx _=>⟨⟨k+1,W7,m7,by simp [Qa],by omega,hC7.step hx⟩,QU (k:=k) rfl rfl (by omega)⟩⟩
structure Cl (W V:Q8):Prop where
 n:V.now=W.now
 c:V.cpus=W.cpus
 t:V.tasks.length=W.tasks.length
 g:V.groups.length=W.groups.length
 e:∀i:Int,0<=i->i<8->∃ss:List Ma,gi V.groups i={ gi W.groups i with shelves:=ss }/\ss.length=(gi W.groups i).shelves.length
theorem Cl.refl (W:Q8):Cl W W:=⟨rfl,rfl,rfl,rfl,fun i _ _=>⟨_,rfl,rfl⟩⟩
theorem Cl.enc {W V:Q8} (h:Cl W V) (m:MW):Qa V m=Qa W m:=by simp [Qa,h.n,h.c,h.t,h.g]
theorem Cl.len {W V:Q8} (h:Cl W V) (hl:Xe W) (h8:W.groups.length=8):Xe V:=by
 refine ⟨by rw [h.c]; exact hl.c,by rw [h.t]; exact hl.t,by rw [h.g]; exact hl.g,fun i a b => ?_⟩;rw [h.g] at b;obtain ⟨ss,e,l⟩:=h.e i a (by omega);have hf:=hl.f i a b;rw [e];exact ⟨hf.nm,hf.nx,hf.lo,hf.dr,by show ss.length<=_; rw [l]; exact hf.sh⟩
structure Lt (base:Nat) (bs:List Nat) (w0 w:World) (W V:Q8) (m:MW):Prop where
 cl:Cl W V
 o:OW 8 base bs w V m
 ext:Q0 (QL 8 m) w0 w
 new:∀x∈bs,w0.heap.size<=x
section
variable {base:Nat} {bs:List Nat} {w0 w w':World} {W V V':Q8} {m:MW}
theorem Lt.step (h:Lt base bs w0 w W V m) (hx:Q0 bs w w'):Lt base bs w0 w' W V m:=⟨h.cl,h.o.step hx,h.ext.fresh hx fun x hm=>.inl (h.new x hm),h.new⟩
theorem Lt.sto (h:Lt base bs w0 w W V m) (hc:Cl W V') (hM:Yf 8 base w' V' m) (hx:Q0 (QL 8 m) w w'):Lt base bs w0 w' W V' m:=⟨hc,⟨hM,h.o.nb⟩,h.ext.trans hx,h.new⟩
set_option maxHeartbeats 1000000 in
theorem zqw (h:Yf 8 base w W m) (iv:XC W) :
  Cz Tm #[.agg (Qa W m).toArray] w fun e w'=>∃V:Q8,e = .returned (.agg (Qa V m).toArray)/\Xe V/\Yf 8 base w' V m/\Q0 (QL 8 m) w w':=by
 refine (BG W.now m.cO W.cpus.length m.cC m.tO W.tasks.length m.tC m.gO W.groups.length m.gC (R:=fun v w'=>∃V:Q8,v = .agg (Qa V m).toArray/\Xe V/\Yf 8 base w' V m/\Q0 (QL 8 m) w w') ?_).mono fun e w' ⟨v,he,V,hv,h3⟩=>⟨V,by rw [he,hv],h3⟩
 intro b hb b1 hb1;have hgl:=iv.wp.a.gl;have htl:=iv.wp.a.t
 have hnew:∀x∈[b,b1],w.heap.size<=x:=by
  intro x hx;simp at hx;omega
 have h0:Lt base [b,b1] w w W W m:=⟨Cl.refl W,⟨h,fun x hx hm=>by
  have:=(h.lt x hx).2;have:=hnew x hm;omega⟩,Q0.refl _ _,hnew⟩
 refine ⟨fun vs w2=>∃(k:Nat) (V:Q8),vs=[.int .i64 (k:Int)]/\k<=12/\Lt base [b,b1] w w2 W V m/\V.groups=W.groups/\∀j:Int,(k:Int)<=j->j<12->Q7 V j=Q7 W j,Zw 12 0,fun wr hx _=>⟨0,W,rfl,by omega,h0.step hx.of_nil,rfl,fun _ _ _=>rfl⟩,?_⟩;clear h0;rintro t wv hs ⟨k,V,he,hk,hL,hg,ht⟩;simp only [List.cons.injEq,Value.int.injEq,true_and,and_true] at he;subst he;have hVt:V.tasks.length=12:=by rw [hL.cl.t]; exact htl
 refine ⟨fun hlt => ?_,fun hge => ?_⟩
 ·have hlt:=of_decide_eq_true hlt;have k0:(0:Int)<=(k:Int):=by omega
  have k1:(k:Int)<(V.tasks.length:Int):=by omega
  have ix:Ix m.tO W.tasks.length (k:Int):=by
   have:=hL.o.rd.t.ix Qz k0 k1
   rwa [hL.cl.t] at this
  have hv:0<=(Q7 V (k:Int)).v/\(Q7 V (k:Int)).v<=100000000000000000:=by
   rw [ht _ (Int.le_refl _) (by omega)];rcases iv.wp.t (k:Int) k0 (by omega) with hz | ⟨_,hx⟩
   ·rw [hz.2]; decide
   ·exact ZU.1 hx.v
  refine ⟨ix,_,hL.o.rd.t.f k0 k1 (j:=0) rfl,fun _=>⟨ix,_,hL.o.rd.t.f k0 k1 (j:=5) rfl,⟨by show _<=(Q7 V (k:Int)).v+_; omega,by show (Q7 V (k:Int)).v+_<=_; omega⟩,ix,zc1 hL.o.own hL.o.nb k0 k1 (j:=5) (by decide),⟨by omega,by omega⟩,fun wr hx _=>⟨⟨k+1,setTk V (k:Int) { Q7 V (k:Int) with v:=(Q7 V (k:Int)).v+50000000000000001 },by simp,by omega,?_,hg,fun j a c => ?_⟩,QU (k:=k) rfl rfl (by omega)⟩⟩,fun _=>⟨⟨by omega,by omega⟩,fun wr hx _=>⟨⟨k+1,V,by simp,by omega,hL.step hx,hg,fun j a c=>ht j (by omega) c⟩,QU (k:=k) rfl rfl (by omega)⟩⟩⟩
  ·refine (hL.sto (V':=setTk V (k:Int) { Q7 V (k:Int) with v:=(Q7 V (k:Int)).v+50000000000000001 }) ⟨hL.cl.n,hL.cl.c,by show (List.set _ _ _).length=_; rw [List.length_set]; exact hL.cl.t,hL.cl.g,hL.cl.e⟩ (hL.o.own.stoT k0 k1 (j:=5) (vs:=[.int .i64 ((Q7 V (k:Int)).v+50000000000000001)]) (x:={ Q7 V (k:Int) with v:=(Q7 V (k:Int)).v+50000000000000001 }) rfl (by show 5+1<=9; decide)) KO).step hx
  ·rw [show Q7 (setTk V (k:Int) { Q7 V (k:Int) with v:=(Q7 V (k:Int)).v+50000000000000001 }) j=_ from (Qw V.tasks { Q7 V (k:Int) with v:=(Q7 V (k:Int)).v+50000000000000001 } k0 k1 (j:=j) (by omega)),if_neg (by omega)];exact ht j (by omega) c
 have hge:=of_decide_eq_false hge;refine ⟨fun vs w2=>∃(k:Nat) (V:Q8),vs=[.int .i64 (k:Int)]/\k<=8/\Lt base [b,b1] w w2 W V m/\∀j:Int,(k:Int)<=j->j<8->gi V.groups j=gi W.groups j,Zw 8 0,fun wr hx _=>⟨0,V,rfl,by omega,hL.step hx,fun j _ _=>by rw [hg]⟩,?_⟩;clear hL hg ht hs hVt;rintro k' wv1 hs1 ⟨k2,V,he,hk2,hL,hg⟩;simp only [List.cons.injEq,Value.int.injEq,true_and,and_true] at he;subst he;refine ⟨fun hlt => ?_,fun hge2 wr hx => ?_⟩
 rotate_left
 ·have hK:=hL.step hx;exact ⟨V,by rw [hK.cl.enc]; rfl,hK.cl.len iv.len hgl,hK.o.own,hK.ext⟩
 have hlt:=of_decide_eq_true hlt;have k0:(0:Int)<=(k2:Int):=by omega
 have k8:(k2:Int)<8:=by omega
 have hsl4:=(Gv iv.wp.a k0 k8).2.2;refine ⟨fun vs w2=>∃(c:Nat) (V:Q8),vs=[.int .i64 (c:Int)]/\c<=(gi W.groups (k2:Int)).shelves.length/\Lt base [b,b1] w w2 W V m/\(∀j:Int,(k2:Int)<j->j<8->gi V.groups j=gi W.groups j)/\∀d:Int,(c:Int)<=d->Qb V (k2:Int) d=Qb W (k2:Int) d,Zw 4 0,fun wr hx _=>⟨0,V,rfl,by omega,hL.step hx,fun j a c=>hg j (by omega) c,fun d _=>by unfold Qb; rw [hg _ (Int.le_refl _) k8]⟩,?_⟩;clear hL hg hs1;rintro c' wv2 hs2 ⟨c,V,he,hc,hL,hg,hsh⟩;simp only [List.cons.injEq,Value.int.injEq,true_and,and_true] at he;subst he;have hVg:V.groups.length=8:=by rw [hL.cl.g]; exact hgl
 have k1:(k2:Int)<(V.groups.length:Int):=by omega
 obtain ⟨ss,hss,hsl⟩:=hL.cl.e (k2:Int) k0 k8;have hlen:(gi V.groups (k2:Int)).shelves.length=(gi W.groups (k2:Int)).shelves.length:=by rw [hss]; exact hsl
 have ix:∀{V':Q8} {w3:World},Lt base [b,b1] w w3 W V' m->Ix m.gO W.groups.length (k2:Int):=fun hL'=>by
  have:=hL'.o.rd.g.ix (i:=(k2:Int)) k0 (by rw [hL'.cl.g]; omega)
  rwa [hL'.cl.g] at this
 refine ⟨ix hL,_,_,_,hL.o.rd.g.shelf k0 k1,fun hlc => ?_,fun hgc=>⟨⟨by omega,by omega⟩,fun wr hx _=>⟨⟨k2+1,V,by simp,by omega,hL.step hx,fun j a d=>hg j (by omega) d⟩,QU (k:=k2) rfl rfl (by omega)⟩⟩⟩;have hlc:=of_decide_eq_true hlc;have c0:(0:Int)<=(c:Int):=by omega
 have hp:=iv.wp.s (k2:Int) (c:Int) k0 k8 c0 (by omega);have hsc:=hsh (c:Int) (Int.le_refl _);have hf:=ZU.1 hp.f;have hv:=ZU.1 hp.v;rw [<-hsc] at hf hv;have hrs:=hL.o.rd.g.shelves _ k0 k1;have hM1:=hL.o.own.stoS (i:=(k2:Int)) (c:=(c:Int)) k0 (by omega) c0 hlc (j:=0) (vs:=[.int .i64 ((Qb V (k2:Int) (c:Int)).floor+50000000000000001)]) (x:={ Qb V (k2:Int) (c:Int) with floor:=(Qb V (k2:Int) (c:Int)).floor+50000000000000001 }) rfl (by show 0+1<=5; decide)
 have hcl:∀{V1:Q8} (s:Ma),Cl W V1->Cl W (setSh V1 (k2:Int) (c:Int) s):=fun {V1} s h1=>⟨h1.n,h1.c,h1.t,by show (List.set _ _ _).length=_; rw [List.length_set]; exact h1.g,fun i a d=>by
  have:=h1.g;obtain ⟨s1,e1,l1⟩:=h1.e i a d;have e2:gi (setSh V1 (k2:Int) (c:Int) s).groups i=if (k2:Int)=i then { gi V1.groups (k2:Int) with shelves:=(gi V1.groups (k2:Int)).shelves.set (Int.toNat (c:Int)) s } else gi V1.groups i:=Yc k0 (by omega) a;rw [e2];split
  ·rename_i e3;subst e3;exact ⟨s1.set (Int.toNat (c:Int)) s,by rw [e1],by rw [List.length_set]; exact l1⟩
  ·exact ⟨s1,e1,l1⟩⟩
 have hL1:=hL.sto (V':=setSh V (k2:Int) (c:Int) { Qb V (k2:Int) (c:Int) with floor:=(Qb V (k2:Int) (c:Int)).floor+50000000000000001 }) (hcl _ hL.cl) hM1 (FK (by omega))
 have hg1:∀{V1:Q8} (s:Ma),V1.groups.length=8->(∀j:Int,(k2:Int)<j->j<8->gi V1.groups j=gi W.groups j)->∀j:Int,(k2:Int)<j->j<8->gi (setSh V1 (k2:Int) (c:Int) s).groups j=gi W.groups j:=fun {V1} s hl h1 j a d=>by
  rw [show gi (setSh V1 (k2:Int) (c:Int) s).groups j=_ from Yc k0 (by omega) (by omega),if_neg (by omega)];exact h1 j a d
 have hs1:∀{V1:Q8} (s:Ma),V1.groups.length=8->(c:Int)<((gi V1.groups (k2:Int)).shelves.length:Int)->(∀d:Int,(c:Int)+1<=d->Qb V1 (k2:Int) d=Qb W (k2:Int) d)->∀d:Int,(c:Int)+1<=d->Qb (setSh V1 (k2:Int) (c:Int) s) (k2:Int) d=Qb W (k2:Int) d:=fun {V1} s hl hcl2 h1 d a=>by
  rw [XV k0 (by omega) c0 hcl2 k0 (by omega),if_neg (by omega)];exact h1 d a
 have hg2:=hg1 { Qb V (k2:Int) (c:Int) with floor:=(Qb V (k2:Int) (c:Int)).floor+50000000000000001 } hVg hg;have hs2':=hs1 { Qb V (k2:Int) (c:Int) with floor:=(Qb V (k2:Int) (c:Int)).floor+50000000000000001 } hVg hlc fun d a=>hsh d (by omega)
 have hl1:(gi (setSh V (k2:Int) (c:Int) { Qb V (k2:Int) (c:Int) with floor:=(Qb V (k2:Int) (c:Int)).floor+50000000000000001 }).groups (k2:Int)).shelves.length=(gi V.groups (k2:Int)).shelves.length:=zab k0 k1 k0
 have hv1:Qb (setSh V (k2:Int) (c:Int) { Qb V (k2:Int) (c:Int) with floor:=(Qb V (k2:Int) (c:Int)).floor+50000000000000001 }) (k2:Int) (c:Int)={ Qb V (k2:Int) (c:Int) with floor:=(Qb V (k2:Int) (c:Int)).floor+50000000000000001 }:=by
  rw [XV k0 k1 c0 hlc k0 c0,if_pos ⟨rfl,rfl⟩]
 refine ⟨ix hL,_,_,_,hL.o.rd.g.shelf k0 k1,ix hL,_,_,_,hL.o.rd.g.shelf k0 k1,hrs.ix ZF c0 hlc,(Qb V (k2:Int) (c:Int)).floor,hrs.f c0 hlc (j:=0) rfl,⟨by omega,by omega⟩,hrs.ix ZF c0 hlc,zp5 hL.o.own hL.o.nb k0 (by omega) c0 hlc (j:=0) (by decide),fun _ => ?_,fun _=>⟨⟨by omega,by omega⟩,fun wr hx _=>⟨⟨c+1,_,by simp,by omega,hL1.step hx,hg2,hs2'⟩,QU (k:=c) rfl rfl (by omega)⟩⟩⟩;generalize setSh V (k2:Int) (c:Int) { Qb V (k2:Int) (c:Int) with floor:=(Qb V (k2:Int) (c:Int)).floor+50000000000000001 }=V1 at hL1 hg2 hs2' hl1 hv1;have hVg1:V1.groups.length=8:=by rw [hL1.cl.g]; exact hgl
 have k11:(k2:Int)<(V1.groups.length:Int):=by omega
 have hlc1:(c:Int)<((gi V1.groups (k2:Int)).shelves.length:Int):=by rw [hl1]; exact hlc
 have hrs1:=hL1.o.rd.g.shelves _ k0 k11;have ev:(Qb V1 (k2:Int) (c:Int)).v=(Qb V (k2:Int) (c:Int)).v:=by rw [hv1]
 have hM2:=hL1.o.own.stoS (i:=(k2:Int)) (c:=(c:Int)) k0 (by omega) c0 hlc1 (j:=2) (vs:=[.int .i64 ((Qb V1 (k2:Int) (c:Int)).v+50000000000000001)]) (x:={ Qb V1 (k2:Int) (c:Int) with v:=(Qb V1 (k2:Int) (c:Int)).v+50000000000000001 }) rfl (by show 2+1<=5; decide);have hL2:=hL1.sto (V':=setSh V1 (k2:Int) (c:Int) { Qb V1 (k2:Int) (c:Int) with v:=(Qb V1 (k2:Int) (c:Int)).v+50000000000000001 }) (hcl _ hL1.cl) hM2 (FK (by omega));exact ⟨ix hL1,_,_,_,hL1.o.rd.g.shelf k0 k11,ix hL1,_,_,_,hL1.o.rd.g.shelf k0 k11,hrs1.ix ZF c0 hlc1,(Qb V1 (k2:Int) (c:Int)).v,hrs1.f c0 hlc1 (j:=2) rfl,⟨by omega,by omega⟩,hrs1.ix ZF c0 hlc1,zp5 hL1.o.own hL1.o.nb k0 (by omega) c0 hlc1 (j:=2) (by decide),⟨by omega,by omega⟩,fun wr hx _=>⟨⟨c+1,_,by simp,by omega,hL2.step hx,hg1 _ hVg1 hg2,hs1 _ hVg1 hlc1 hs2'⟩,QU (k:=c) rfl rfl (by omega)⟩⟩
end
theorem zi4 {b:Ja} (h:Vd b) {c:Int} (c0:0<=c) (c1:c<(b.locals.length:Int)):Vd (Yd b c):=by
 by_cases hp:0<gi b.locals c
 ·exact (zdl h c0 c1 hp).1
 ·have he:=(h.each c c0 c1).1;have e0:gi b.locals c=0:=by omega
  have hs:=K2 b.locals c 0 c0 c1 b.locals.length;rw [if_pos c1] at hs;have hd:=h.dl;refine ⟨h.q1,h.q2,?_,?_,?_,?_,?_,h.s1,h.s2,fun d d0 d1 => ?_,?_⟩
  ·simp only [Yd,List.length_set]; exact h.l1
  ·simp only [Yd,List.length_set]; exact h.l2
  ·simp only [Yd,List.length_set]; split <;> simp [hd]
  ·simp only [Yd]; have:=h.p1; omega
  ·simp only [Yd]; have:=h.p2; omega
  ·simp only [Yd,List.length_set] at d1 ⊢;have hq:=h.each d d0 d1;have q1:=h.q1;rw [Qw _ _ c0 c1 d0,e0]
   by_cases hpp:b.pool+0>0
   ·rw [if_pos hpp,Tp _ _ d0 (by omega)];refine ⟨?_,?_,fun h=>by cases h⟩
    ·split <;> omega
    ·split <;> omega
   ·rw [if_neg hpp];refine ⟨?_,?_,fun hh => ?_⟩
    ·split <;> omega
    ·split <;> omega
    ·have:=hq.2.2 hh
     split <;> omega
  ·simp only [Yd,List.length_set];have:=h.sum;rw [hs,e0]; omega
theorem zkt {b:Ja} (h:Vd b) (op:zpv):Vd (Yu b op).1:=by
 unfold Yu;split
 ·exact (zdh h).1
 ·split
  ·exact h
  ·rename_i hi;have hc:Yn op.at' 0 ((b.locals.length:Int) - 1)=true:=by simpa using hi
   have hc:=Qm.1 hc;split
   ·exact (zet h hc.1 (by omega)).1
   ·split
    ·exact (zac h hc.1 (by omega)).1
    ·split
     ·exact zi4 h hc.1 (by omega)
     ·exact h
theorem zlq {q x:Int} {w:World} (hq:Yn q 1 10000=true) (h1:1<=x) (h4:x<=4) :
  Cz Qv #[.int .i64 q,.int .i64 x] w fun e w'=>∃(B:Ja) (p:MG),e = .returned (.tuple #[.agg (Z3 B p).toArray,.bool true])/\Vd B/\QT w.heap.size w' B p/\Q0 [] w w':=by
 obtain ⟨n,rfl⟩:∃n:Nat,x=(n:Int):=⟨x.toNat,by omega⟩;have hqq:=Qm.1 hq;exact (MF (n:=n) hq (Qm.2 ⟨by omega,by omega⟩)).mono fun e w' ⟨p,he,ho,hx⟩=>⟨_,p,he,j9 hqq.1 hqq.2 (by omega) (by omega),ho,hx⟩
theorem zlp {rb:Nat} {c:OA} {L N:Nat} {w:World} (h:Jq rb c L N w) (hN:N<=900000000000) :
  Cz X9 #[.pointer (some ⟨rb,0,none⟩)] w fun e w'=>∃op:zpv,e = .returned (.agg (zk4 op).toArray)/\Jq rb c L (N+10) w'/\Q0 [rb] w w':=by
 refine (KF (some ⟨rb,0,none⟩) (R:=fun v w'=>∃op:zpv,v = .agg (zk4 op).toArray/\Jq rb c L (N+10) w'/\Q0 [rb] w w') ?_).mono fun e w' ⟨v,he,op,hv,h1⟩=>⟨op,by rw [he,hv],h1⟩
 intro b hb b1 hb1 wr hx hs;refine (Dr.pick ((Dr.start h).put2 hx hb hb1) (by omega) hs).mono ?_;rintro e w1 ⟨v1,he,hk,⟨p0,_,p2⟩,h1⟩;have p2:=p2 (by decide);refine ⟨_,he,hk,⟨by omega,by omega⟩,zpy (by decide) rfl (by omega) (by omega) fun x => ?_⟩;refine ⟨fun vs bs w2=>bs=[]/\(∃x:Int,vs=[.int .i64 x])/\Dr rb c L N 2 [b,b1] w w2,⟨fun _ wr hx hs => ?_,fun _=>⟨fun _ wr hx _=>⟨rfl,⟨_,rfl⟩,(h1.step hx).more (by decide)⟩,fun _ wr hx _=>⟨rfl,⟨_,rfl⟩,(h1.step hx).more (by decide)⟩⟩⟩,?_⟩
 ·refine (Dr.pick (h1.step hx) (by omega) hs).mono ?_;rintro e w3 ⟨v3,he,hk,_,h3⟩;exact ⟨_,he,hk,fun _ wr hx _=>⟨rfl,⟨_,rfl⟩,h3.step hx⟩,fun _ wr hx _=>⟨rfl,⟨_,rfl⟩,h3.step hx⟩⟩
 clear h1;rintro kind w2 hs2 ⟨-,-,h2⟩;refine ⟨fun vs bs w2=>bs=[]/\(∃x:Int,vs=[.int .i64 x])/\Dr rb c L N 4 [b,b1] w w2,fun wr hx hs => ?_,?_⟩
 ·refine (Dr.pick (h2.step hx) (by omega) hs).mono ?_;rintro e w3 ⟨v3,he,hk,_,h3⟩;refine ⟨_,he,hk,fun _ wr hx hs => ?_,fun _ wr hx _=>⟨rfl,⟨_,rfl⟩,(h3.step hx).more (by decide)⟩⟩;refine (Dr.pick (h3.step hx) (by omega) hs).mono ?_;rintro e w4 ⟨v4,he,hk,⟨q0,_,q2⟩,h4⟩;have q2:=q2 (by decide);exact ⟨_,he,hk,⟨by omega,by omega⟩,fun wr hx _=>⟨rfl,⟨_,rfl⟩,h4.step hx⟩⟩
 clear h2;rintro kind2 w5 hs5 ⟨-,-,h5⟩ wr hx hs;refine (Dr.pick (h5.step hx) (by omega) hs).mono ?_;rintro e w6 ⟨v6,he,hk,⟨p60,_,p62⟩,h6⟩;have p62:=p62 (by decide);refine ⟨_,he,hk,fun wr hx hs => ?_⟩;refine (Dr.pick (h6.step hx) (by omega) hs).mono ?_;rintro e w7 ⟨v7,he,hk,⟨p70,_,p72⟩,h7⟩;have p72:=p72 (by decide)
 have hd:0<=Int.tdiv v7 29/\Int.tdiv v7 29<=1:=by
  rw [Int.tdiv_eq_ediv_of_nonneg p70];omega
 refine ⟨_,he,hk,⟨by decide,⟨by omega,by omega⟩⟩,⟨by omega,by omega⟩,fun b2 hb2 wr hx hs => ?_⟩;refine (Dr.pick (h7.put hx hb2) (by omega) hs).mono ?_;rintro e w8 ⟨v8,he,hk,⟨p80,_,p82⟩,h8⟩;have p82:=p82 (by decide);exact ⟨_,he,hk,⟨by omega,by omega⟩,zpy (by decide) rfl (by omega) (by omega) fun x wr hx=>⟨⟨_,_,_⟩,rfl,(h8.step hx).fin (by decide)⟩⟩
def CM:List Int:=[1,20,21,50,100,10000]
theorem zc6 {v:Int} (h0:0<=v) (h1:v<6):Yn (gi CM v) 1 10000=true:=by
 have:v=0\/v=1\/v=2\/v=3\/v=4\/v=5:=by omega
 rcases this with rfl | rfl | rfl | rfl | rfl | rfl <;> rfl
structure Vw (rb:Nat) (c:OA) (L N n:Nat) (bs:List Nat) (w0 w:World) (bt:Nat):Prop where
 d:Dr rb c L N n bs w0 w
 v:Ob XY 1 Qc 0 (rb::bs) w (some ⟨bt,0,none⟩) 6 CM
structure Bw (rb:Nat) (c:OA) (L N n:Nat) (bs:List Nat) (w0 w:World) (B:Ja) (p:MG):Prop where
 P:Vd B
 d:Dr rb c L N n bs w0 w
 o:QT w0.heap.size w B p
 nb:∀x∈ZE p,x∉rb::bs
section
variable {rb b bt:Nat} {c:OA} {L N n k:Nat} {bs cs:List Nat} {w0 w w':World} {B B':Ja} {p p':MG}
theorem Vw.of (h:Dr rb c L N n bs w0 w) (hx:Q0 bs w w') (hb:w.heap.size<=bt) (hh:w'.heap[bt]? = some (Obj.cells ([.int .i64 1,.int .i64 20,.int .i64 21,.int .i64 50,.int .i64 100,.int .i64 10000]:List Value).toArray Qc (0,0))) (hn:bt∉bs):Vw rb c L N n bs w0 w' bt:=
 ⟨h.step hx,.inr ⟨bt,[],rfl,Nat.zero_le _,by simpa [CM,XY] using hh,by simp [CM,XY],by simp [CM]⟩,fun x hxx hm=>by
  have:x=bt:=by simpa [Qy] using hxx
  subst this;rcases List.mem_cons.1 hm with h1 | h1
  ·have:=h.r.rd.lt; omega
  ·exact hn h1⟩
theorem Vw.step (h:Vw rb c L N n bs w0 w bt) (hx:Q0 bs w w'):Vw rb c L N n bs w0 w' bt:=⟨h.d.step hx,h.v.step (hx.mono fun _ hm=>List.mem_cons_of_mem _ hm)⟩
theorem Vw.put (h:Vw rb c L N n bs w0 w bt) (hx:Q0 bs w w') (hb:w.heap.size<=b):Vw rb c L N n (bs++[b]) w0 w' bt:=⟨h.d.put hx hb,h.v.put (hx.mono fun _ hm=>List.mem_cons_of_mem _ hm) hb⟩
theorem Vw.call0 (h:Vw rb c L N n bs w0 w bt) (hx:Q0 [] w w'):Vw rb c L N n bs w0 w' bt:=h.step hx.of_nil
theorem Vw.pick (h:Vw rb c L N n bs w0 w bt) (hN:N+n<=1000000000000) (hs:∀x∈bs,x<w.heap.size) {q:Int} :
  Cz Q1 #[.pointer (some ⟨rb,0,none⟩),.int .i64 q] w fun e w'=>∃v,e = .returned (.int .i64 v)/\Q9 bs w w'/\G6 q v/\Vw rb c L N (n+1) bs w0 w' bt:=
 (LF h.d.r.rd hN).mono fun e w' ⟨v,he,hq,hr,hx⟩=>⟨v,he,Od h.d.r hx hs,hq,⟨h.d.r.upd (by rw [<-Nat.add_assoc]; exact hr),h.d.ext.trans hx,h.d.new⟩,h.v.step (hx.mono fun x hm=>by
  have:x=rb:=by simpa using hm
  subst this; exact List.mem_cons_self)⟩
theorem Vw.ix (h:Vw rb c L N n bs w0 w bt) {v:Int} (h0:0<=v) (h1:v<6):Ix (some (Addr.mk bt 0 none)) 6 v:=h.v.own.ix h0 h1
theorem Vw.cell (h:Vw rb c L N n bs w0 w bt) {v:Int} (h0:0<=v) (h1:v<6):Q2 bs w (some (Addr.mk bt 0 none)) (Int.toNat v*1) [.int .i64 (gi CM v)]:=((h.v.rd Yg.len).less fun _ hm=>List.mem_cons_of_mem _ hm) v h0 h1
theorem zns (h:QT w.heap.size w' B p) (d:Dr rb c L N n bs w0 w) (hs:∀x∈bs,x<w.heap.size):∀x∈ZE p,x∉rb::bs:=fun x hx hm=>by
 have:=(h.lt x hx).1;rcases List.mem_cons.1 hm with h1 | h1
 ·have:=d.r.rd.lt; omega
 ·have:=hs x h1; omega
theorem QT.wid {base:Nat} (h:QT base w B p) (hx:Q0 bs w w') (hd:∀x∈ZE p,x∉bs):QT base w' B p:=⟨h.loc.ext hx fun x hm=>hd x (List.mem_append_left _ hm),h.dry.ext hx fun x hm=>hd x (List.mem_append_right _ hm)⟩
theorem Bw.new (d:Dr rb c L N n bs w0 w) (hs:∀x∈bs,x<w.heap.size) (hP:Vd B) (ho:QT w.heap.size w' B p) (hx:Q0 [] w w'):Bw rb c L N n bs w0 w' B p:=
 ⟨hP,d.step hx.of_nil,⟨ho.loc.mono d.ext.size,ho.dry.mono d.ext.size⟩,zns ho d hs⟩
theorem Bw.step (h:Bw rb c L N n bs w0 w B p) (hx:Q0 bs w w'):Bw rb c L N n bs w0 w' B p:=⟨h.P,h.d.step hx,h.o.wid hx fun x hm hm'=>h.nb x hm (List.mem_cons_of_mem _ hm'),h.nb⟩
theorem Bw.put (h:Bw rb c L N n bs w0 w B p) (hx:Q0 bs w w') (hb:w.heap.size<=b):Bw rb c L N n (bs++[b]) w0 w' B p:=
 ⟨h.P,h.d.put hx hb,h.o.wid hx fun x hm hm'=>h.nb x hm (List.mem_cons_of_mem _ hm'),fun x hx1 hm=>by
  have hlt:=(h.o.lt x hx1).2;rcases List.mem_cons.1 hm with h1 | h1
  ·exact h.nb x hx1 (by rw [h1]; exact List.mem_cons_self)
  ·rcases List.mem_append.1 h1 with h2 | h2
   ·exact h.nb x hx1 (List.mem_cons_of_mem _ h2)
   ·have:x=b:=by simpa using h2
    omega⟩
theorem Bw.drawn (h:Bw rb c L N n bs w0 w B p) (hr:Jq rb c L (N+n+k) w') (hx:Q0 [rb] w w'):Bw rb c L N (n+k) bs w0 w' B p:=
 ⟨h.P,⟨h.d.r.upd (by rw [<-Nat.add_assoc]; exact hr),h.d.ext.trans hx,h.d.new⟩,h.o.wid hx fun x hm hm'=>h.nb x hm (by
  have:x=rb:=by simpa using hm'
  rw [this]; exact List.mem_cons_self),h.nb⟩
theorem Bw.pick (h:Bw rb c L N n bs w0 w B p) (hN:N+n<=1000000000000) (hs:∀x∈bs,x<w.heap.size) {q:Int} :
  Cz Q1 #[.pointer (some ⟨rb,0,none⟩),.int .i64 q] w fun e w'=>∃v,e = .returned (.int .i64 v)/\Q9 bs w w'/\G6 q v/\Bw rb c L N (n+1) bs w0 w' B p:=
 (LF h.d.r.rd hN).mono fun e w' ⟨v,he,hq,hr,hx⟩=>⟨v,he,Od h.d.r hx hs,hq,h.drawn hr hx⟩
theorem Bw.op (h:Bw rb c L N n bs w0 w B p) (hN:N+n<=900000000000) (hs:∀x∈bs,x<w.heap.size) :
  Cz X9 #[.pointer (some ⟨rb,0,none⟩)] w fun e w'=>∃op:zpv,e = .returned (.agg (zk4 op).toArray)/\Q9 bs w w'/\Bw rb c L N (n+10) bs w0 w' B p:=
 (zlp h.d.r.rd hN).mono fun e w' ⟨op,he,hr,hx⟩=>⟨op,he,Od h.d.r hx hs,h.drawn hr hx⟩
theorem Bw.do (h:Bw rb c L N n bs w0 w B p) (hs:∀x∈bs,x<w.heap.size) {op:zpv} :
  Cz ZX #[.agg (Z3 B p).toArray,.agg (zk4 op).toArray] w fun e w'=>∃(B':Ja) (p':MG) (d:Int),e = .returned (.tuple #[.agg (Z3 B' p').toArray,.int .i64 d])/\Q9 bs w w'/\Bw rb c L N n bs w0 w' B' p':=
 (XT (op:=op) h.P (h.o.loc.rd Yg.len (by simp)) (h.o.dry.rd X5.len (by simp))).mono fun e w' ⟨p',he,ho,hx⟩=>⟨_,p',_,he,Qe hx hs,Bw.new h.d hs (zkt h.P op) ho hx⟩
structure zrm (w w':World) (B:Ja) (p:MG):Prop where
 ll:B.locals.length<=5
 dl:B.dry.length<=4
 rl:∀bs:List Nat,(∀x∈bs,x<w.heap.size)->zka bs w' p.lO B.locals
 rd:∀bs:List Nat,(∀x∈bs,x<w.heap.size)->znl bs w' p.dO B.dry
theorem QT.bdv (h:QT w.heap.size w' B p) (hl:B.locals.length<=5) (hd:B.dry.length<=4):zrm w w' B p:=
 ⟨hl,hd,fun bs hs=>h.loc.rd Yg.len fun x hx hm=>by have:=(h.loc.lt x hx).1; have:=hs x hm; omega,fun bs hs=>h.dry.rd X5.len fun x hx hm=>by have:=(h.dry.lt x hx).1; have:=hs x hm; omega⟩
theorem Bw.bdv (h:Bw rb c L N n bs w0 w B p):zrm w0 w B p:=h.o.bdv (by have:=h.P.l2; omega) (by have:=h.P.l2; have:=h.P.dl; omega)
theorem zpf {o:OA} {l:List Bool} {C:Nat} (h:znl bs w o l) (h1:1<=l.length) (hC:l.length<=C):znl bs w (if C=Int.toNat 1 then o else o.map (·.add (Int.toNat 1*1))) l.tail:=fun i i0 i1=>by
 have hl:l.tail.length=l.length - 1:=by simp
 rw [hl] at i1;have hc:=h (i+1) (by omega) (by omega)
 have e:gi l.tail i=gi l (i+1):=by
  obtain ⟨k,rfl⟩:=Int.eq_ofNat_of_zero_le i0;rw [JD (by rw [hl]; omega),show ((k:Int)+1)=((k+1:Nat):Int) by omega,JD (by omega)];simp
 rw [e,if_neg (by show ¬C=1; omega)];refine Uz fun j v hj => ?_
 obtain ⟨a,ha,hb,hcell⟩:=hc.get j v hj;refine ⟨a.add (Int.toNat 1*1),by rw [ha]; rfl,by rw [Zy]; exact hb,?_⟩;rw [JP]
 have:Int.toNat 1*1+(Int.toNat i*1+j)=Int.toNat (i+1)*1+j:=by
  have:Int.toNat (i+1)=Int.toNat i+1:=by omega
  rw [this];show 1*1+_=_;omega
 rw [this]; exact hcell
end
set_option maxHeartbeats 4000000 in
theorem zqt {rb:Nat} {c:OA} {L N:Nat} {w:World} (h:Jq rb c L N w) (hN:N<=800000000000) :
  Cz Uo #[.pointer (some ⟨rb,0,none⟩)] w fun e w'=>∃(B:Ja) (p:MG),e = .returned (.agg (Z3 B p).toArray)/\zrm w w' B p/\Jq rb c L (N+300) w'/\Q0 [rb] w w':=by
 refine (GB (some ⟨rb,0,none⟩) (R:=fun v w'=>∃(B:Ja) (p:MG),v = .agg (Z3 B p).toArray/\zrm w w' B p/\Jq rb c L (N+300) w'/\Q0 [rb] w w') ?_).mono fun e w' ⟨v,he,B,p,hv,h1⟩=>⟨B,p,by rw [he,hv],h1⟩
 intro b hbA;have h0:=Dr.start h;refine ⟨fun vs bs w2=>∃(bt:Nat) (B:Ja) (p:MG),bs=[bt]/\vs=Z3 B p/\Bw rb c L N 2 [b,bt] w w2 B p,?_,?_⟩
 ·repeat' first
   | exact rfl
   | (refine And.intro ?_ ?_)
   | (intro (bt:Nat) (wb:World) hx hsz hh hn; have hV:=Vw.of (by assumption) hx hsz hh hn)
   | (intro (bt:Nat) (wb:World) hx hsz hh hn; have hV:=Vw.of (Dr.add h0 hbA) hx.of_nil hsz hh hn)
   | (intro (bt:Nat) (wb:World) hx hsz hh hn; have hV:=Vw.of (Dr.add (Dr.add h0 hbA) (by assumption)) hx.of_nil hsz hh hn)
   | (intro (bt:Nat) (wb:World) hx hsz hh hn; have hV:=Vw.of (Dr.add (by assumption) (by assumption)) (hx.mono fun _ hm=>List.mem_append_left _ hm) hsz hh hn)
   | (intro (b:Nat) hb)
   | (refine ⟨_,Vw.cell (by assumption) (by omega) (by omega),?_⟩)
   | exact Vw.cell (by assumption) (by omega) (by omega)
   | exact Vw.ix (by assumption) (by omega) (by omega)
   | (intro (wr:World) hx hs; refine (Vw.pick (Vw.step (by assumption) hx) ?_ hs).mono ?_; rotate_left; rintro e w2 ⟨v,he,hk,⟨hp0,_,hp2⟩,hC⟩; have hp2:=hp2 (by decide); refine ⟨_,he,hk,?_⟩)
   | (intro (wr:World) hx hs; refine (Vw.pick (Vw.put (by assumption) hx (by assumption)) ?_ hs).mono ?_; rotate_left; rintro e w2 ⟨v,he,hk,⟨hp0,_,hp2⟩,hC⟩; have hp2:=hp2 (by decide); refine ⟨_,he,hk,?_⟩)
   | (intro (wr:World) hx hs; refine (Dr.pick (Dr.step (by assumption) hx) ?_ hs).mono ?_; rotate_left; rintro e w2 ⟨v,he,hk,⟨hp0,_,hp2⟩,hC⟩; have hp2:=hp2 (by decide); refine ⟨_,he,hk,?_⟩)
   | (intro (wr:World) hx hs; refine (Dr.pick (Dr.put (by assumption) hx (by assumption)) ?_ hs).mono ?_; rotate_left; rintro e w2 ⟨v,he,hk,⟨hp0,_,hp2⟩,hC⟩; have hp2:=hp2 (by decide); refine ⟨_,he,hk,?_⟩)
   | (intro (wr:World) hx hs; refine (Dr.pick (Dr.put2 h0 hx hbA (by assumption)) ?_ hs).mono ?_; rotate_left; rintro e w2 ⟨v,he,hk,⟨hp0,_,hp2⟩,hC⟩; have hp2:=hp2 (by decide); refine ⟨_,he,hk,?_⟩)
   | (intro (wr:World) hx hs; have hV:=Vw.step (by assumption) hx; refine (zlq (zc6 (by omega) (by omega)) (by omega) (by omega)).mono ?_; rintro e w2 ⟨B,p,he,hP,ho,hy⟩; have hB:=Bw.new hV.d hs hP ho hy; have hV2:=hV.call0 hy; refine ⟨_,_,_,_,_,_,_,_,_,_,he,Qe hy hs,?_⟩)
   | (intro (wr:World) hx hs; have hV:=Vw.put (by assumption) hx (by assumption); refine (zlq (zc6 (by omega) (by omega)) (by omega) (by omega)).mono ?_; rintro e w2 ⟨B,p,he,hP,ho,hy⟩; have hB:=Bw.new hV.d hs hP ho hy; have hV2:=hV.call0 hy; refine ⟨_,_,_,_,_,_,_,_,_,_,he,Qe hy hs,?_⟩)
   | (intro (wr:World) hx hs; exact ⟨_,_,_,rfl,rfl,Bw.put (by assumption) hx (by assumption)⟩)
   | (intro (wr:World) hx hs; exact ⟨_,_,_,rfl,rfl,Bw.step (by assumption) hx⟩)
   | omega
 clear h0;rintro l l1 l2 l3O l3L l3C l4O l4L l4C b22 w31 hs31 ⟨bt,B,p,hbt,hv,hB⟩ wr hx hs;have:b22=bt:=by simpa using hbt
 subst this;simp only [Z3,List.cons.injEq,Value.int.injEq,Value.slice.injEq,true_and,and_true] at hv;obtain ⟨rfl,rfl,rfl,⟨rfl,rfl,rfl⟩,rfl,rfl,rfl⟩:=hv;refine (Bw.pick (hB.step hx) (by omega) hs).mono ?_;rintro e1 w1 ⟨v1,he1,hk1,⟨p10,_,p12⟩,hB1⟩;have p12:=p12 (by decide);refine ⟨_,he1,hk1,?_⟩;refine ⟨fun vs w2=>∃(k n:Nat) (B:Ja) (p:MG),vs = .int .i64 (k:Int)::Z3 B p/\(k:Int)<=v1/\n<=3+10*k/\Bw rb c L N n [b,b22] w w2 B p,Zw v1.toNat 0,fun wr hx _=>⟨0,2+1,B,p,rfl,p10,by omega,hB1.step hx⟩,?_⟩;clear hB1 hk1 he1 hs hx hB hs31;clear B p;rintro i1 l5 l6 l7 l8O l8L l8C l9O l9L l9C w36 hs ⟨k,n,B,p,he,hk,hn,hK⟩;simp only [Z3,List.cons.injEq,Value.int.injEq,Value.slice.injEq,true_and,and_true] at he;obtain ⟨rfl,rfl,rfl,rfl,⟨rfl,rfl,rfl⟩,rfl,rfl,rfl⟩:=he;refine ⟨fun hlt wr hx hs => ?_,fun hge wr hx hs => ?_⟩
 ·have hlt:=of_decide_eq_true hlt;refine (Bw.op (hK.step hx) (by omega) hs).mono ?_;rintro e2 w2 ⟨op,he2,hk2,hB2⟩;refine ⟨_,_,_,he2,hk2,rfl,fun wr hx hs => ?_⟩;refine (Bw.do (hB2.step hx) hs (op:=op)).mono ?_;rintro e3 w3 ⟨B3,p3,d,he3,hk3,hB3⟩;exact ⟨_,_,_,_,_,_,_,_,_,_,he3,hk3,⟨by omega,by omega⟩,fun wr hx _=>⟨⟨k+1,n+10,B3,p3,by simp [Z3],by omega,by omega,hB3.step hx⟩,QU (k:=k) rfl rfl (by omega)⟩⟩
 have hge:=of_decide_eq_false hge;refine (Bw.pick (hK.step hx) (by omega) hs).mono ?_;rintro e4 w4 ⟨v4,he4,hk4,_,hB4⟩;refine ⟨_,he4,hk4,fun _ wr hx=>⟨B,p,rfl,(hB4.step hx).bdv,(hB4.step hx).d.fin (by omega)⟩,fun _ wr hx hs => ?_⟩;have l1:=hK.P.l1;have l2:=hK.P.l2;have hdl:=hK.P.dl;have hP:=hK.P;have q2:=hP.q2;have p1:=hP.p1;have p2:=hP.p2;have s1:=hP.s1;have s2:=hP.s2;refine (Bw.pick (hB4.step hx) (by omega) hs).mono ?_;rintro e5 w5 ⟨v5,he5,hk5,⟨p50,_,p52⟩,hB5⟩;have p52:=p52 (by omega);refine ⟨_,he5,hk5,fun wr hx hs => ?_⟩;refine (Bw.pick (hB5.step hx) (by omega) hs).mono ?_;rintro e6 w6 ⟨v6,he6,hk6,_,hB⟩;have hnb:∀x∈ZE p,x∉[b,b22]:=fun x hx hm=>hB.nb x hx (List.mem_cons_of_mem _ hm)
 have hnew:∀x∈ZE p,w.heap.size<=x:=fun x hx=>(hB.o.lt x hx).1
 have fin:∀{w7 wr:World} {B':Ja},QT w.heap.size w7 B' p->Q0 (ZE p) w6 w7->Q0 [b,b22] w7 wr->B'.locals.length<=5->B'.dry.length<=4->zrm w wr B' p/\Jq rb c L (N+300) wr/\Q0 [rb] w wr:=fun {w7 wr B'} ho hx1 hx2 hl hd=>by
  have hd2:Dr rb c L N (n+1+1+1) [b,b22] w w7:=⟨hB.d.r.call hx1 (fun hm=>hB.nb rb hm List.mem_cons_self) fun a ha=>by
   rcases h.ltc a ha with h3 | h3
   ·exact .inl fun hm=>by have:=hnew _ hm; omega
   ·exact .inr h3,hB.d.ext.fresh hx1 fun x hm=>.inl (hnew x hm),hB.d.new⟩
  have hd3:=hd2.step hx2;exact ⟨(ho.wid hx2 hnb).bdv hl hd,hd3.fin (by omega)⟩
 have fin0:∀{wr:World} {B':Ja},B'.locals=B.locals->B'.dry=B.dry->Q0 [b,b22] w6 wr->zrm w wr B' p/\Jq rb c L (N+300) wr/\Q0 [rb] w wr:=fun {wr B'} el ed hx2=>by
  have k:=hB.step hx2;have hb:=k.bdv;exact ⟨⟨by rw [el]; exact hb.ll,by rw [ed]; exact hb.dl,by rw [el]; exact hb.rl,by rw [ed]; exact hb.rd⟩,k.d.fin (by omega)⟩
 have hix:Ix p.dO B.dry.length v5:=hB.o.dry.ix p50 (by omega);have hixl:Ix p.lO B.locals.length v5:=hB.o.loc.ix p50 (by omega);refine ⟨_,he6,hk6,fun _=>⟨⟨by omega,by omega⟩,fun wr hx=>⟨{ B with pool:=B.pool+1 },p,rfl,fin0 rfl rfl hx⟩⟩,fun _=>⟨fun _=>⟨hix,_,(hB.o.dry.rd X5.len fun x hx=>hnb x (List.mem_append_right _ hx)) v5 p50 (by omega),hix,hB.o.dry.wr X5.len (fun x hx=>hnb x (List.mem_append_right _ hx)) p50 (by omega) (j:=0) (n:=1) (by decide),fun wr hx => ?_⟩,fun _=>⟨fun _=>⟨hixl,hB.o.loc.wr Yg.len (fun x hx=>hnb x (List.mem_append_left _ hx)) p50 (by omega) (j:=0) (n:=1) (by decide),fun wr hx => ?_⟩,fun _=>⟨fun _ wr hx=>⟨{ B with quota:=0 },p,rfl,fin0 rfl rfl hx⟩,fun _=>⟨fun _=>⟨⟨by omega,by omega,?_⟩,fun wr hx => ?_⟩,fun _=>⟨fun _ ba hba wr hx hs hh => ?_,fun _=>⟨fun _=>⟨⟨by omega,by omega⟩,⟨by omega,by omega⟩,fun wr hx=>⟨{ B with pool:=B.pool - 1,spent:=B.spent+1 },p,rfl,fin0 rfl rfl hx⟩⟩,fun _ wr hx=>⟨B,p,rfl,fin0 rfl rfl hx⟩⟩⟩⟩⟩⟩⟩⟩
 ·exact ⟨{ B with dry:=B.dry.set v5.toNat (!gi B.dry v5) },p,by simp [Z3],fin (hB.o.stoD p50 (by omega) _) (hB.o.xD _ _) hx (by show B.locals.length<=5; omega) (by show (B.dry.set _ _).length<=4; rw [List.length_set]; omega)⟩
 ·exact ⟨{ B with locals:=B.locals.set v5.toNat (-1) },p,by simp [Z3],fin (hB.o.stoL p50 (by omega) _) (hB.o.xL _ _) hx (by show (B.locals.set _ _).length<=5; rw [List.length_set]; omega) (by show B.dry.length<=4; omega)⟩
 ·have:=hB.o.dry.le; omega
 ·have k:=hB.step hx;have hb:=k.bdv;have hle:=hB.o.dry.le;refine ⟨{ B with dry:=B.dry.tail },{ p with dO:=if p.dC=Int.toNat 1 then p.dO else p.dO.map (·.add (Int.toNat 1*1)),dC:=p.dC - Int.toNat 1 },?_,⟨hb.ll,by show B.dry.tail.length<=4; simp; omega,hb.rl,fun bs hs=>zpf (hb.rd bs hs) (by omega) hle⟩,k.d.fin (by omega)⟩;simp [Z3]
 ·have hB2:=hB.put hx hba;have hnb2:∀x∈ZE p,x∉[b,b22,ba]:=fun x hx hm=>hB2.nb x hx (List.mem_cons_of_mem _ hm)
  obtain ⟨o',cap',w9,hrun,hown,hxa,hor⟩:=zeg Yg Pq hB2.o.loc (x:=0) (fz:=(0,0)) hh (by rfl) (by omega) (by omega) Y3 #[false,false] (by have:=hB2.d.ext.size; omega);have hk9:Q9 [b,b22,ba] wr w9:=hxa.kept fun x hm=>⟨hs x hm,fun hm2=>hnb2 x (List.mem_append_left _ hm2) hm⟩
  refine ⟨_,_,_,w9,hrun,hk9,fun wr2 hx2 => ?_⟩
  have hnbL:∀x∈Qy o',x∉[b,b22,ba]:=fun x hxo hm=>by
   rcases hor with e | e
   ·rw [e] at hxo; exact hnb2 x (List.mem_append_left _ hxo) hm
   ·rw [e] at hxo;have:x=wr.heap.size:=by simpa [Qy] using hxo
    have:=hs x hm;omega
  have hrb:rb∉Qy p.lO:=fun hm=>hB2.nb rb (List.mem_append_left _ hm) List.mem_cons_self
  have hd2:Dr rb c L N (n+1+1+1) [b,b22,ba] w w9:=⟨hB2.d.r.call hxa hrb fun a ha=>by
   rcases h.ltc a ha with h3 | h3
   ·exact .inl fun hm=>by have:=hnew _ (List.mem_append_left _ hm); omega
   ·exact .inr h3,hB2.d.ext.fresh hxa fun x hm=>.inl (hnew x (List.mem_append_left _ hm)),hB2.d.new⟩
  have hdry:Jr Mc 1 Yy w.heap.size wr2 p.dO p.dC B.dry:=(hB2.o.dry.ext hxa (hB2.o.dry.ty_ne hB2.o.loc (by decide))).ext hx2 fun x hm=>hnb2 x (List.mem_append_right _ hm)
  have hloc:Jr XY 1 Qc w.heap.size wr2 o' cap' (B.locals++[0]):=hown.ext hx2 hnbL;exact ⟨{ B with locals:=B.locals++[0] },{ p with lO:=o',lC:=cap' },by simp [Z3],QT.bdv ⟨hloc,hdry⟩ (by simp; omega) (by show B.dry.length<=4; omega),(hd2.step hx2).fin (by omega)⟩
theorem zmm {α:Type} [Inhabited α] {enc:α->List Value} {z:Nat} {bs:List Nat} {w:World} {o:OA} {l:List α} {C:Nat} (h:Rd enc z bs w o l) (h1:1<=l.length) (hC:l.length<=C):Rd enc z bs w (if C=Int.toNat 1 then o else o.map (·.add (Int.toNat 1*z))) l.tail:=fun i i0 i1=>by
 have hl:l.tail.length=l.length - 1:=by simp
 rw [hl] at i1;have hc:=h (i+1) (by omega) (by omega)
 have e:gi l.tail i=gi l (i+1):=by
  obtain ⟨k,rfl⟩:=Int.eq_ofNat_of_zero_le i0;rw [JD (by rw [hl]; omega),show ((k:Int)+1)=((k+1:Nat):Int) by omega,JD (by omega)];simp
 rw [e,if_neg (by show ¬C=1; omega)];refine Uz fun j v hj => ?_
 obtain ⟨a,ha,hb,hcell⟩:=hc.get j v hj;refine ⟨a.add (Int.toNat 1*z),by rw [ha]; rfl,by rw [Zy]; exact hb,?_⟩;rw [JP]
 have:Int.toNat 1*z+(Int.toNat i*z+j)=Int.toNat (i+1)*z+j:=by
  have:Int.toNat (i+1)=Int.toNat i+1:=by omega
  rw [this,Nat.succ_mul];show 1*z+_=_;omega
 rw [this]; exact hcell
def zp6 (rb:Nat) (c:OA) (L N:Nat) (w0:World) (v:Value) (w:World):Prop:=∃(W:Q8) (m:MW),v = .agg (Qa W m).toArray/\Xe W/\(∀ds:List Nat,(∀x∈ds,x<w0.heap.size)->Xf ds w W m)/\Jq rb c L (N+1500) w/\Q0 [rb] w0 w
section
variable {rb:Nat} {c:OA} {L N n q:Nat} {bs:List Nat} {w0 w w1 wr:World} {W W':Q8} {m:MW}
theorem Xk.aft (h:Xk rb c L N n bs w0 w W m) (ltc:∀a,c=some a->a.block<w0.heap.size\/L=0) (hx1:Q0 (QL 8 m) w w1) (hx2:Q0 bs w1 wr) (hq:n<=q):Jq rb c L (N+q) wr/\Q0 [rb] w0 wr:=by
 have hnew:∀x∈QL 8 m,w0.heap.size<=x:=fun x hx=>(h.o.own.lt x hx).1
 have d2:Dr rb c L N n bs w0 w1:=⟨h.d.r.call hx1 (fun hm=>h.o.nb rb hm List.mem_cons_self) fun a ha=>by
  rcases ltc a ha with h3 | h3
  ·exact .inl fun hm=>by have:=hnew _ hm; omega
  ·exact .inr h3,h.d.ext.fresh hx1 fun x hm=>.inl (hnew x hm),h.d.new⟩
 exact (d2.step hx2).fin hq
theorem Xk.btv (h:Xk rb c L N n bs w0 w W m) (ltc:∀a,c=some a->a.block<w0.heap.size\/L=0) (hl:Xe W') (hM:Yf 8 w0.heap.size w1 W' m) (hx1:Q0 (QL 8 m) w w1) (hx2:Q0 bs w1 wr) (hq:n<=1500):zp6 rb c L N w0 (.agg (Qa W' m).toArray) wr:=
 ⟨W',m,rfl,hl,fun ds hd=>(hM.ext hx2 fun x hx hm=>h.o.nb x hx (List.mem_cons_of_mem _ hm)).rd fun x hx hm=>by
  have:=(h.o.own.lt x hx).1;have:=hd x hm;omega,h.aft ltc hx1 hx2 hq⟩
theorem Xk.rdn (h:Xk rb c L N n bs w0 w W m) (ds:List Nat) (hd:∀x∈ds,x<w0.heap.size):Xf ds w W m:=h.o.own.rd fun x hx hm=>by
 have:=(h.o.own.lt x hx).1;have:=hd x hm;omega
theorem Xk.btv0 (h:Xk rb c L N n bs w0 w W m) (hx:Q0 bs w wr) (hq:n<=1500):zp6 rb c L N w0 (.agg (Qa W m).toArray) wr:=
 ⟨W,m,rfl,h.iv.len,(h.step hx).rdn,((h.step hx).d.fin hq)⟩
theorem zot (h:Xe W) (i:Int) (x:Ow):Xe (setCp W i x):=⟨by show (List.set _ _ _).length<=_; rw [List.length_set]; exact h.c,h.t,h.g,h.f⟩
theorem zou (h:Xe W) (i:Int) (x:OY):Xe (setTk W i x):=⟨h.c,by show (List.set _ _ _).length<=_; rw [List.length_set]; exact h.t,h.g,h.f⟩
theorem FU (h:Xe W) {i:Int} (i0:0<=i) (i1:i<(W.groups.length:Int)) {G:Zv} (hG:zan G):Xe (setGr W i G):=by
 have hl:(setGr W i G).groups.length=W.groups.length:=List.length_set;refine ⟨h.c,h.t,by rw [hl]; exact h.g,fun j a b => ?_⟩;rw [hl] at b;rw [Yc i0 i1 a];split
 ·exact hG
 ·exact h.f j a b
theorem zpe {base:Nat} (hM:Yf 8 base w W m) (hn:∀x∈QL 8 m,x∉bs) {g:Int} (g0:0<=g) (g8:g<8) {B:Ja} {p:MG} (hl:zka bs (sto w m.gO (Int.toNat g*14+8) (Z3 B p)) p.lO B.locals) (hd:znl bs (sto w m.gO (Int.toNat g*14+8) (Z3 B p)) p.dO B.dry) :
  Xf bs (sto w m.gO (Int.toNat g*14+8) (Z3 B p)) (setBd W g B) (TH m g.toNat (Ol (m.ms g.toNat) p)):=by
 have hgl:=hM.len;have hx:Q0 (Qy m.gO) w (sto w m.gO (Int.toNat g*14+8) (Z3 B p)):=hM.g.row.stoX _ _;have hrow:=hM.g.row.sto YI.len g0 (by rw [Xc]; omega) (j:=8) (vs:=Z3 B p) (x:=({ gi W.groups g with band:=B },Ol (m.ms g.toNat) p)) (by rw [V8 g0 (by omega)]; rfl) (by show 8+5<=14; decide);rw [<-zch g0 (by omega)] at hrow;have hrow:Jr TQ 14 QM base (sto w m.gO (Int.toNat g*14+8) (Z3 B p)) m.gO m.gC (zju (setBd W g B) (TH m g.toNat (Ol (m.ms g.toNat) p))):=hrow;have hps:(setBd W g B).groups.length=8:=by show (List.set _ _ _).length=_; rw [List.length_set]; exact hgl
 have e1:∀i:Int,0<=i->gi (setBd W g B).groups i=if g=i then { gi W.groups g with band:=B } else gi W.groups i:=fun i a=>Yc g0 (by omega) a
 have e2:∀i:Int,0<=i->(TH m g.toNat (Ol (m.ms g.toNat) p)).ms i.toNat=if g=i then Ol (m.ms g.toNat) p else m.ms i.toNat:=fun i a=>by
  show (if g.toNat=i.toNat then _ else _)=_
  by_cases e:g=i
  ·rw [if_pos e,if_pos (by omega)]
  ·rw [if_neg e,if_neg (by omega)]
 refine ⟨(hM.c.ext hx (hM.c.ty_ne hM.g.row (by decide))).rd Kg.len fun x hx=>hn x (Do hx),(hM.t.ext hx (hM.t.ty_ne hM.g.row (by decide))).rd TP.len fun x hx=>hn x (Dq hx),⟨fun i i0 i1 => ?_,fun i i0 i1 => ?_,fun i i0 i1 => ?_,fun i i0 i1 => ?_⟩⟩
 ·have:=hrow.rd YI.len (bs:=bs) (fun x hx=>hn x (Dp hx)) i i0 (by rw [Xc]; exact i1)
  rwa [V8 i0 i1] at this
 all_goals
  rw [hps] at i1;rw [e1 i i0,e2 i i0]
  have hi:=(hM.each i0 (by omega)).ext hx (by
   have:=XA hM.g.row (hM.g.each i i0 (by rw [Xc]; omega))
   rwa [V8 i0 (by omega)] at this)
  split
 ·exact hl
 ·exact hi.loc.rd Yg.len fun x hx=>hn x (Jl (k:=i.toNat) (by omega) (by simp [Qr,hx]))
 ·exact hd
 ·exact hi.dry.rd X5.len fun x hx=>hn x (Jl (k:=i.toNat) (by omega) (by simp [Qr,hx]))
 ·rename_i e;subst e;exact hi.shl.rd Vq.len fun x hx=>hn x (Jl (k:=g.toNat) (by omega) (by simp [Qr,hx]))
 ·exact hi.shl.rd Vq.len fun x hx=>hn x (Jl (k:=i.toNat) (by omega) (by simp [Qr,hx]))
end
theorem zs7 {v:Int} {k:Nat} {ls:List Value} {P:ByteArray->Prop} (ha:ls.all (fun | .string s=>decide (s.size<=1000) | _=>false)=true) (hl:ls.length=k) (h0:0<=v) (h1:v<(k:Int)) (h:∀x,x.size<=1000->P x):∃x:ByteArray,(0<=v/\ls[Int.toNat v+0]? = some (.string x))/\P x:=by
 have hlt:Int.toNat v+0<ls.length:=by omega
 have:=List.all_eq_true.1 ha _ (List.getElem_mem hlt);have e:=List.getElem?_eq_getElem hlt;generalize ls[Int.toNat v+0]=y at this e
 split at this
 ·exact ⟨_,⟨h0,e⟩,h _ (of_decide_eq_true this)⟩
 ·cases this
set_option maxHeartbeats 8000000 in
theorem zqu {rb:Nat} {c:OA} {L N:Nat} {w:World} (h:Jq rb c L N w) (hN:N<=500000000000) :
  Cz XE #[.pointer (some ⟨rb,0,none⟩)] w fun e w'=>∃v,e = .returned v/\zp6 rb c L N w v w':=by
 refine GC (some ⟨rb,0,none⟩) (R:=fun v w'=>zp6 rb c L N w v w') ?_;intro b hb wr hx hs;have h1:=(Dr.start h).put hx hb;refine (zoq h1.r.rd (by omega)).mono ?_;rintro e2 w2 ⟨W,m,he2,iv,hM,hr,hxp,hne⟩;have hK:=Xk.ofPlay h1 hs iv hM hr hxp hne;refine ⟨_,_,_,_,_,_,_,_,_,_,he2,Od h1.r hxp hs,fun b1 hb1 wr1 hx1 hs1 => ?_⟩;refine ((hK.put hx1 hb1).pick (by omega) hs1).mono ?_;rintro e3 w3 ⟨v3,he3,hk3,_,hK3⟩;refine ⟨_,he3,hk3,fun _ wr hx=>hK3.btv0 hx (by decide),fun _ wr3 hx3 hs3 => ?_⟩;refine ((hK3.step hx3).pick (by omega) hs3).mono ?_;rintro e4 w4 ⟨c1,he4,hk4,⟨c10,_,c12⟩,hK4⟩;have ha:=iv.wp.a;have hc1:=ha.c1;have hc4:=ha.c2;have htl:=ha.t;have hgl:=ha.gl;have c12:=c12 (by omega);refine ⟨_,he4,hk4,fun wr4 hx4 hs4 => ?_⟩;refine ((hK4.step hx4).pick (by omega) hs4).mono ?_;rintro e5 w5 ⟨t,he5,hk5,⟨t0,_,t2⟩,hK5⟩;have t2:=t2 (by decide);refine ⟨_,he5,hk5,fun wr5 hx5 hs5 => ?_⟩;refine ((hK5.step hx5).pick (by omega) hs5).mono ?_;rintro e6 w6 ⟨g,he6,hk6,⟨g0,_,g2⟩,hK6⟩;have g2:=g2 (by decide);refine ⟨_,he6,hk6,fun wr6 hx6 hs6 => ?_⟩;refine ((hK6.step hx6).pick (by omega) hs6).mono ?_;rintro e7 w7 ⟨k,he7,hk7,_,hS⟩;clear hK3 hK4 hK5 hK6 hK hM hr hxp he2 he3 he4 he5 he6 hk3 hk4 hk5 hk6 hx1 hx3 hx4 hx5 hx6 hs1 hs3 hs4 hs5 hs6 h1 hne;refine ⟨_,he7,hk7,?_⟩;have lc:=h.ltc;have ltc:∀a,c=some a->a.block<w.heap.size\/L=0:=lc;have hl:=iv.len;have t1:t<(W.tasks.length:Int):=by omega
 have g1:g<(W.groups.length:Int):=by omega
 have g8:g<((8:Nat):Int):=by omega
 have hix:∀{n:Nat} {w':World},Xk rb c L N n [b,b1] w w' W m->Ix m.cO W.cpus.length c1:=fun h=>h.rd.c.ix ZS c10 c12
 have hit:∀{n:Nat} {w':World},Xk rb c L N n [b,b1] w w' W m->Ix m.tO W.tasks.length t:=fun h=>h.rd.t.ix Qz t0 t1
 have hig:∀{n:Nat} {bs:List Nat} {w':World},Xk rb c L N n bs w w' W m->Ix m.gO W.groups.length g:=fun h=>h.rd.g.ix g0 g1
 have nb:∀{n:Nat} {bs:List Nat} {w':World},Xk rb c L N n bs w w' W m->∀x∈QL 8 m,x∉bs:=fun h x hx hm=>h.o.nb x hx (List.mem_cons_of_mem _ hm)
 have hrd:∀{w':World},Xk rb c L N (0+1100+1+1+1+1+1) [b,b1] w w' W m->Xf [b,b1] w' W m:=fun h=>h.o.own.rd (nb h)
 have fC:∀{n:Nat} {bs:List Nat} {w' wr:World} {j:Nat} {vs:List Value} (x:Ow),Xk rb c L N n bs w w' W m->n<=1500->Md x=(Md (gi W.cpus c1)).take j++vs++(Md (gi W.cpus c1)).drop (j+vs.length)->j+vs.length<=5->Q0 bs (sto w' m.cO (Int.toNat c1*5+j) vs) wr->zp6 rb c L N w (.agg (Qa (setCp W c1 x) m).toArray) wr:=fun x h hn he hj hx=>h.btv ltc (zot hl c1 x) (h.o.own.stoC c10 c12 he hj) CE hx hn
 have fT:∀{n:Nat} {bs:List Nat} {w' wr:World} {j:Nat} {vs:List Value} (x:OY),Xk rb c L N n bs w w' W m->n<=1500->YJ x=(YJ (gi W.tasks t)).take j++vs++(YJ (gi W.tasks t)).drop (j+vs.length)->j+vs.length<=9->Q0 bs (sto w' m.tO (Int.toNat t*9+j) vs) wr->zp6 rb c L N w (.agg (Qa (setTk W t x) m).toArray) wr:=fun x h hn he hj hx=>h.btv ltc (zou hl t x) (h.o.own.stoT t0 t1 he hj) KO hx hn
 have fG:∀{n:Nat} {bs:List Nat} {w' wr:World} {j:Nat} {vs:List Value} (G:Zv),Xk rb c L N n bs w w' W m->n<=1500->zan G->G.band=(gi W.groups g).band->G.shelves=(gi W.groups g).shelves->Yo G (m.ms g.toNat)=(Yo (gi W.groups g) (m.ms g.toNat)).take j++vs++(Yo (gi W.groups g) (m.ms g.toNat)).drop (j+vs.length)->j+vs.length<=14->Q0 bs (sto w' m.gO (Int.toNat g*14+j) vs) wr->zp6 rb c L N w (.agg (Qa (setGr W g G) m).toArray) wr:=fun G h hn hf hb hsh he hj hx=>h.btv ltc (FU hl g0 g1 hf) (h.o.own.stoG0 g0 g8 (by rw [hb]) (by rw [hb]) hsh he hj) DR hx hn
 have eC:∀x:Ow,Qa (setCp W c1 x) m=Qa W m:=fun x=>by simp [Qa,setCp]
 have eT:∀x:OY,Qa (setTk W t x) m=Qa W m:=fun x=>by simp [Qa,setTk]
 have eG:∀x:Zv,Qa (setGr W g x) m=Qa W m:=fun x=>by simp [Qa,setGr]
 have hfg:=hl.f g g0 g1
 have hv:0<=(Q7 W t).v/\(Q7 W t).v<=100000000000000000:=by
  rcases iv.wp.t t t0 (by omega) with hz | ⟨_,hx⟩
  ·rw [hz.2]; decide
  ·exact ZU.1 hx.v
 have hlm:=ZJ 1;refine ⟨fun _=>⟨hix hS,_,(hrd hS).c.f c10 c12 (j:=0) rfl,hix hS,zkd hS.o.own (nb hS) c10 c12 (j:=0) (by decide),fun wr hx => ?_⟩,fun _=>⟨fun _ wr hx hs => ?_,fun _=>⟨fun _ wr hx hs => ?_,fun _=>⟨fun _ wr hx hs => ?_,fun _=>⟨fun _ wr hx hs => ?_,fun _=>⟨fun _ wr hx hs => ?_,fun _=>⟨fun _=>⟨hit hS,_,(hrd hS).t.f t0 t1 (j:=5) rfl,_,O9,⟨by show _<=(Q7 W t).v+_; omega,by show (Q7 W t).v+_<=_; omega⟩,hit hS,zc1 hS.o.own (nb hS) t0 t1 (j:=5) (by decide),fun wr hx => ?_⟩,fun _=>⟨fun _=>⟨hit hS,zc1 hS.o.own (nb hS) t0 t1 (j:=3) (by decide),fun wr hx => ?_⟩,fun _=>⟨fun _=>⟨hit hS,zc1 hS.o.own (nb hS) t0 t1 (j:=4) (by decide),fun wr hx => ?_⟩,fun _=>⟨fun _=>⟨⟨by omega,by omega,by have:=hS.o.own.t.le; omega⟩,fun wr hx => ?_⟩,fun _=>⟨fun _=>⟨hig hS,_,(hrd hS).g.used g0 g1,hig hS,CH hS.o.own (nb hS) g0 g8 (j:=0) (by decide),fun wr hx => ?_⟩,fun _=>⟨fun _ wr hx hs => ?_,fun _=>⟨fun _=>⟨fun b2 hb2=>⟨rfl,fun wr hx hs => ?_⟩,fun wr hx hs => ?_⟩,fun _=>⟨fun _ wr hx hs => ?_,fun _=>⟨fun _ wr hx hs => ?_,fun _=>⟨fun _ wr hx hs => ?_,fun _=>⟨fun _ wr hx hs => ?_,fun _=>⟨fun _=>⟨hig hS,_,_,_,(hrd hS).g.shelf g0 g1,fun hlc => ?_,fun _ wr hx=>hS.btv0 hx (by decide)⟩,fun _=>⟨fun _=>⟨hig hS,_,_,_,(hrd hS).g.shelf g0 g1,fun hlc => ?_,fun _ wr hx=>hS.btv0 hx (by decide)⟩,fun _=>⟨fun _ wr hx hs => ?_,fun _ wr hx=>hS.btv0 hx (by decide)⟩⟩⟩⟩⟩⟩⟩⟩⟩⟩⟩⟩⟩⟩⟩⟩⟩⟩⟩⟩
 case refine_1=>
  have:=fC { gi W.cpus c1 with up := !(gi W.cpus c1).up } hS (by decide) rfl (by show 0+1<=5; decide) hx
  rwa [eC] at this
 case refine_2=>
  refine ((hS.step hx).pick (by omega) hs).mono ?_;rintro e w8 ⟨v,he,hk,⟨p0,_,p2⟩,hP⟩;have p2:=p2 (by decide);refine ⟨_,he,hk,rfl,⟨by omega,by omega⟩,hix hP,zkd hP.o.own (nb hP) c10 c12 (j:=1) (by decide),fun wr hx => ?_⟩;have:=fC { gi W.cpus c1 with cur:=v - 2 } hP (by decide) rfl (by show 1+1<=5; decide) hx
  rwa [eC] at this
 case refine_3=>
  refine ((hS.step hx).pick (by omega) hs).mono ?_;rintro e w8 ⟨v,he,hk,_,hP⟩;refine ⟨_,he,hk,rfl,hix hP,zkd hP.o.own (nb hP) c10 c12 (j:=2) (by decide),fun wr hx => ?_⟩;have:=fC { gi W.cpus c1 with ran:=v } hP (by decide) rfl (by show 2+1<=5; decide) hx
  rwa [eC] at this
 case refine_4=>
  refine ((hS.step hx).pick (by omega) hs).mono ?_;rintro e w8 ⟨v,he,hk,_,hP⟩;refine ⟨_,he,hk,rfl,hit hP,zc1 hP.o.own (nb hP) t0 t1 (j:=0) (by decide),fun wr hx => ?_⟩;have:=fT { gi W.tasks t with state:=v } hP (by decide) rfl (by show 0+1<=9; decide) hx
  rwa [eT] at this
 case refine_5=>
  refine ((hS.step hx).pick (by omega) hs).mono ?_;rintro e w8 ⟨v,he,hk,⟨p0,_,p2⟩,hP⟩;have p2:=p2 (by decide);refine ⟨_,he,hk,rfl,⟨by omega,by omega⟩,hit hP,zc1 hP.o.own (nb hP) t0 t1 (j:=1) (by decide),fun wr hx => ?_⟩;have:=fT { gi W.tasks t with group:=v - 1 } hP (by decide) rfl (by show 1+1<=9; decide) hx
  rwa [eT] at this
 case refine_6=>
  refine ((hS.step hx).pick (by omega) hs).mono ?_;rintro e w8 ⟨v,he,hk,⟨p0,_,p2⟩,hP⟩;have p2:=p2 (by decide);refine ⟨_,he,hk,rfl,⟨by omega,by omega⟩,hit hP,zc1 hP.o.own (nb hP) t0 t1 (j:=2) (by decide),fun wr hx => ?_⟩;have:=fT { gi W.tasks t with cpu:=v - 1 } hP (by decide) rfl (by show 2+1<=9; decide) hx
  rwa [eT] at this
 case refine_7=>
  have:=fT { gi W.tasks t with v:=(gi W.tasks t).v+Zk 1 } hS (by decide) rfl (by show 5+1<=9; decide) hx
  rwa [eT] at this
 case refine_8=>
  have:=fT { gi W.tasks t with nice:=10 } hS (by decide) rfl (by show 3+1<=9; decide) hx
  rwa [eT] at this
 case refine_9=>
  have:=fT { gi W.tasks t with mask:=0 } hS (by decide) rfl (by show 4+1<=9; decide) hx
  rwa [eT] at this
 case refine_10=>
  have hK:=hS.step hx;have hr:=hK.rdn;have hle:=hS.o.own.t.le;refine ⟨{ W with tasks:=W.tasks.tail },{ m with tO:=if m.tC=Int.toNat 1 then m.tO else m.tO.map (·.add (Int.toNat 1*9)),tC:=m.tC - Int.toNat 1 },?_,⟨hl.c,by show W.tasks.tail.length<=_; have:=hl.t; simp; omega,hl.g,hl.f⟩,fun ds hd=>⟨(hr ds hd).c,zmm (hr ds hd).t (by omega) hle,(hr ds hd).g⟩,hK.d.fin (by decide)⟩;simp [Qa]
 case refine_11=>
  have:=fG { gi W.groups g with used := !(gi W.groups g).used } hS (by decide) ⟨hfg.nm,hfg.nx,hfg.lo,hfg.dr,hfg.sh⟩ rfl rfl rfl (by show 0+1<=14; decide) hx
  rwa [eG] at this
 case refine_12=>
  refine ((hS.step hx).pick (by omega) hs).mono ?_;rintro e w8 ⟨v,he,hk,⟨p0,_,p2⟩,hP⟩;have p2:=p2 (by decide);refine ⟨_,he,hk,rfl,⟨by omega,by omega⟩,hig hP,CH hP.o.own (nb hP) g0 g8 (j:=1) (by decide),fun wr hx => ?_⟩;have:=fG { gi W.groups g with parent:=v - 1 } hP (by decide) ⟨hfg.nm,hfg.nx,hfg.lo,hfg.dr,hfg.sh⟩ rfl rfl rfl (by show 1+1<=14; decide) hx
  rwa [eG] at this
 case refine_13=>
  refine ((hS.put hx hb2).pick (by omega) hs).mono ?_;rintro e w8 ⟨v,he,hk,⟨p0,_,p2⟩,hP⟩;have p2:=p2 (by decide);refine ⟨_,he,hk,rfl,⟨by omega,by omega⟩,zs7 (by decide) rfl (by omega) (by omega) fun x hxs=>⟨hig hP,CH hP.o.own (nb hP) g0 g8 (j:=2) (by decide),fun wr hx => ?_⟩⟩;have hm:=Zg;have:=fG { gi W.groups g with name:=x } hP (by decide) ⟨by show x.size<=_; omega,hfg.nx,hfg.lo,hfg.dr,hfg.sh⟩ rfl rfl rfl (by show 2+1<=14; decide) hx
  rwa [eG] at this
 case refine_14=>
  refine ((hS.step hx).pick (by omega) hs).mono ?_;rintro e w8 ⟨v,he,hk,⟨p0,_,p2⟩,hP⟩;have p2:=p2 (by decide);refine ⟨_,he,hk,rfl,fun b3 hb3=>⟨rfl,⟨by omega,by omega⟩,zs7 (by decide) rfl (by omega) (by omega) fun x hxs=>⟨hig hP,CH hP.o.own (nb hP) g0 g8 (j:=2) (by decide),fun wr hx => ?_⟩⟩⟩;have hm:=Zg;have:=fG { gi W.groups g with name:=x } hP (by decide) ⟨by show x.size<=_; omega,hfg.nx,hfg.lo,hfg.dr,hfg.sh⟩ rfl rfl rfl (by show 2+1<=14; decide) hx
  rwa [eG] at this
 case refine_15=>
  refine ((hS.step hx).pick (by omega) hs).mono ?_;rintro e w8 ⟨v,he,hk,_,hP⟩;refine ⟨_,he,hk,rfl,hig hP,CH hP.o.own (nb hP) g0 g8 (j:=3) (by decide),fun wr hx => ?_⟩;have:=fG { gi W.groups g with weight:=v } hP (by decide) ⟨hfg.nm,hfg.nx,hfg.lo,hfg.dr,hfg.sh⟩ rfl rfl rfl (by show 3+1<=14; decide) hx
  rwa [eG] at this
 case refine_16=>
  refine ((hS.step hx).pick (by omega) hs).mono ?_;rintro e w8 ⟨v,he,hk,⟨p0,_,p2⟩,hP⟩;have p2:=p2 (by decide);refine ⟨_,he,hk,rfl,⟨by omega,by omega⟩,hig hP,CH hP.o.own (nb hP) g0 g8 (j:=4) (by decide),fun wr hx => ?_⟩;have:=fG { gi W.groups g with cpus:=v - 1 } hP (by decide) ⟨hfg.nm,hfg.nx,hfg.lo,hfg.dr,hfg.sh⟩ rfl rfl rfl (by show 4+1<=14; decide) hx
  rwa [eG] at this
 case refine_17=>
  refine ((hS.step hx).pick (by omega) hs).mono ?_;rintro e w8 ⟨v,he,hk,⟨p0,_,p2⟩,hP⟩;have p2:=p2 (by decide);refine ⟨_,he,hk,rfl,hig hP,CH hP.o.own (nb hP) g0 g8 (j:=6) (by decide),fun wr hx => ?_⟩;have:=fG { gi W.groups g with next:=v } hP (by decide) ⟨hfg.nm,⟨by show _<=v; omega,by show v<=_; omega⟩,hfg.lo,hfg.dr,hfg.sh⟩ rfl rfl rfl (by show 6+1<=14; decide) hx
  rwa [eG] at this
 case refine_18=>
  have hQ:=hS.step hx;refine (zqt hQ.d.r.rd (by omega)).mono ?_;rintro e w8 ⟨B,p,he,hB,hr,hy⟩;have hP:=hQ.drawn hr hy;refine ⟨_,_,_,_,_,_,_,_,_,he,Od hQ.d.r hy hs,rfl,hig hP,CH hP.o.own (nb hP) g0 g8 (j:=8) (by decide),fun wr2 hx2 => ?_⟩;have hsx:Q0 (QL 8 m) w8 (sto w8 m.gO (Int.toNat g*14+8) (Z3 B p)):=DR
  have hR2:∀ds:List Nat,(∀x∈ds,x<w.heap.size)->Xf ds wr2 (setBd W g B) (TH m g.toNat (Ol (m.ms g.toNat) p)):=fun ds hd=>by
   have hz:=hQ.d.ext.size
   have hb2:∀x∈QL 8 m++([b,b1]++ds),x<wr.heap.size:=fun x hm=>by
    rcases List.mem_append.1 hm with h1 | h1
    ·exact (hQ.o.own.lt x h1).2
    ·rcases List.mem_append.1 h1 with h2 | h2
     ·exact hs x h2
     ·have:=hd x h2; omega
   have hsm:∀x∈[b,b1]++ds,x∈QL 8 m++([b,b1]++ds):=fun x hm=>List.mem_append_right _ hm
   have hsx2:Q0 (QL 8 m++([b,b1]++ds)) w8 (sto w8 m.gO (Int.toNat g*14+8) (Z3 B p)):=hsx.mono fun x hm=>List.mem_append_left _ hm
   have hnb:∀x∈QL 8 m,x∉[b,b1]++ds:=fun x hx hm=>by
    rcases List.mem_append.1 hm with h2 | h2
    ·exact nb hP x hx h2
    ·have:=(hP.o.own.lt x hx).1;have:=hd x h2;omega
   have hR:=zpe hP.o.own hnb g0 g8 (B:=B) (p:=p) (((hB.rl _ hb2).ext hsx2).less hsm) (((hB.rd _ hb2).ext hsx2).less hsm);exact (hR.ext (hx2.mono fun x hm=>List.mem_append_left _ hm)).less fun x hm=>List.mem_append_right _ hm
  have hm:=Zg;have hl5:=hB.ll;have hl4:=hB.dl;refine ⟨setBd W g B,TH m g.toNat (Ol (m.ms g.toNat) p),?_,FU hl g0 g1 ⟨hfg.nm,hfg.nx,by show B.locals.length<=_; omega,by show B.dry.length<=_; omega,hfg.sh⟩,hR2,hP.aft ltc hsx hx2 (by decide)⟩;simp [Qa,setBd,setGr,TH]
 case refine_19=>
  have hlc:=of_decide_eq_true hlc;have hrs:=(hrd hS).g.shelves g g0 g1;refine ⟨hig hS,_,_,_,(hrd hS).g.shelf g0 g1,hig hS,_,_,_,(hrd hS).g.shelf g0 g1,hrs.ix ZF c10 hlc,_,hrs.f c10 hlc (j:=1) rfl,hrs.ix ZF c10 hlc,zp5 hS.o.own (nb hS) g0 g8 c10 hlc (j:=1) (by decide),fun wr hx => ?_⟩;have hM:=hS.o.own.stoS (i:=g) (c:=c1) g0 g8 c10 hlc (j:=1) (vs:=[.bool (!(Qb W g c1).on)]) (x:={ Qb W g c1 with on := !(Qb W g c1).on }) rfl (by show 1+1<=5; decide);have:=hS.btv (W':=setSh W g c1 { Qb W g c1 with on := !(Qb W g c1).on }) ltc (FU hl g0 g1 ⟨hfg.nm,hfg.nx,hfg.lo,hfg.dr,by show (List.set _ _ _).length<=_; rw [List.length_set]; exact hfg.sh⟩) hM (FK (by omega)) hx (by decide)
  rwa [show Qa (setSh W g c1 { Qb W g c1 with on := !(Qb W g c1).on }) m=Qa W m from eG _] at this
 case refine_20=>
  have hlc:=of_decide_eq_true hlc;have hrs:=(hrd hS).g.shelves g g0 g1;have hp:=ZU.1 (iv.wp.s g c1 g0 (by omega) c10 hlc).f;refine ⟨hig hS,_,_,_,(hrd hS).g.shelf g0 g1,hig hS,_,_,_,(hrd hS).g.shelf g0 g1,hrs.ix ZF c10 hlc,(Qb W g c1).floor,hrs.f c10 hlc (j:=0) rfl,⟨by omega,by omega⟩,hrs.ix ZF c10 hlc,zp5 hS.o.own (nb hS) g0 g8 c10 hlc (j:=0) (by decide),fun wr hx => ?_⟩;have hM:=hS.o.own.stoS (i:=g) (c:=c1) g0 g8 c10 hlc (j:=0) (vs:=[.int .i64 ((Qb W g c1).floor+1)]) (x:={ Qb W g c1 with floor:=(Qb W g c1).floor+1 }) rfl (by show 0+1<=5; decide);have:=hS.btv (W':=setSh W g c1 { Qb W g c1 with floor:=(Qb W g c1).floor+1 }) ltc (FU hl g0 g1 ⟨hfg.nm,hfg.nx,hfg.lo,hfg.dr,by show (List.set _ _ _).length<=_; rw [List.length_set]; exact hfg.sh⟩) hM (FK (by omega)) hx (by decide)
  rwa [show Qa (setSh W g c1 { Qb W g c1 with floor:=(Qb W g c1).floor+1 }) m=Qa W m from eG _] at this
 case refine_21=>
  have hQ:=hS.step hx;refine (zqw hQ.o.own iv).mono ?_;rintro e w8 ⟨V,he,hlV,hMV,hxV⟩;refine ⟨_,_,_,_,_,_,_,_,_,_,he,hxV.kept fun x hm=>⟨hs x hm,fun hm2=>nb hQ x hm2 hm⟩,fun wr2 hx2=>hQ.btv ltc hlV hMV hxV hx2 (by decide)⟩
structure Bx (rb:Nat) (c:OA) (L N:Nat) (bs:List Nat) (w0 w:World) (W:Q8) (m:MW):Prop where
 ln:Xe W
 rd:Xf (rb::bs) w W m
 r:RS rb c L N bs w
 s:Sc w0 (rb::bs) w
section
variable {rb b b2:Nat} {c:OA} {L C N:Nat} {bs:List Nat} {w0 w w':World} {W W':Q8} {m m':MW}
theorem Bx.step (h:Bx rb c L N bs w0 w W m) (hx:Q0 bs w w'):Bx rb c L N bs w0 w' W m:=⟨h.ln,h.rd.ext (hx.mono fun _ hm=>List.mem_cons_of_mem _ hm),h.r.step hx,h.s.stepB hx⟩
theorem Bx.call {f:FuncId} {args:Array Value} {k:Nat} {Q:Int->Prop} (h:Bx rb c L N bs w0 w W m) (hs:∀x∈bs,x<w.heap.size) (hc:Cz f args w fun e w'=>∃v,e = .returned (.int .i64 v)/\Q v/\Jq rb c L (N+k) w'/\Q0 [rb] w w') :
  Cz f args w fun e w'=>∃v,e = .returned (.int .i64 v)/\Q9 bs w w'/\Q v/\Bx rb c L (N+k) bs w0 w' W m:=
 hc.mono fun e w' ⟨v,he,hq,hr,hx⟩=>⟨v,he,Od h.r hx hs,hq,h.ln,h.rd.ext (hx.mono fun x hm=>by
  have:x=rb:=by simpa using hm
  rw [this]; exact List.mem_cons_self),h.r.upd hr,h.s.stepR hx⟩
theorem Bx.rd0 (h:Bx rb c L N bs w0 w W m):Xf [] w W m:=h.rd.less (by simp)
theorem zoo (h:E0 c L w0) (hC:L<=C) (hx:Q0 [] w0 w) (hn:∀x∈bs,w0.heap.size<=x) (hs:∀x∈bs,x<w.heap.size) :
  Cz JZ #[.slice c L C] w fun e wv=>∃rb c' L',e = .returned (.pointer (some ⟨rb,0,none⟩))/\Q9 bs w wv/\RS rb c' L' 0 bs wv/\Sc w0 (rb::bs) wv:=by
 refine (zfs (h.ext hx) hC).mono ?_;rintro e wv ⟨rb,c',L',he,hrb,hR,hx1,hblk⟩
 refine ⟨rb,c',L',he,Qe hx1 hs,⟨hR,fun hm=>by
  have:=hs rb hm;omega,fun a' ha' => ?_⟩,⟨hx.trans hx1,fun x hm => ?_⟩⟩
 ·rcases hblk a' ha' with h0 | ⟨h0,a,ha,hab⟩
  ·exact .inr h0
  ·refine .inl fun hm => ?_
   obtain ⟨a0,x0,ha0,_,_,h30⟩:=h 0 h0;have hlt2:=World.block_lt_of_cell? w0 _ h30;rw [Zy] at hlt2;rw [ha] at ha0; cases ha0;have:=hn _ hm;omega
 ·rcases List.mem_cons.1 hm with h1 | h1
  ·have:=hx.size; omega
  ·exact hn x h1
theorem zol (h:RS rb c L 0 bs w) (s:Sc w0 (rb::bs) w) (hs:∀x∈bs,x<w.heap.size) :
  Cz XE #[.pointer (some ⟨rb,0,none⟩)] w fun e w'=>∃(W:Q8) (m:MW),e = .returned (.agg (Qa W m).toArray)/\Q9 bs w w'/\Bx rb c L 1500 bs w0 w' W m:=
 (zqu h.rd (by decide)).mono fun e w' ⟨v,he,W,m,hv,hl,hr,hR,hx⟩=>⟨W,m,by rw [he,hv],Od h hx hs,hl,hr _ fun x hm=>by
  rcases List.mem_cons.1 hm with h1 | h1
  ·rw [h1]; exact h.rd.lt
  ·exact hs x h1,h.upd (hR.mono (by decide)),s.stepR hx⟩
structure zsu (w0 w:World) (W:Q8) (m:MW):Prop where
 ln:Xe W
 rd:Xf [] w W m
 ext:Q0 [] w0 w
theorem Bx.dn (h:Bx rb c L N bs w0 w W m) (hx:Q0 bs w w'):zsu w0 w' W m:=⟨h.ln,(h.step hx).rd0,(h.step hx).s.ext⟩
theorem MH (h:E0 c L w) (hC:L<=C) :
  Cz XZ #[.slice c L C] w fun e w'=>∃(W:Q8) (m:MW) (k:Int),e = .returned (.tuple #[.agg (Qa W m).toArray,.int .i64 k])/\zsu w w' W m:=by
 refine (Mx c L C (R:=fun v w'=>∃(W:Q8) (m:MW) (k:Int),v = .tuple #[.agg (Qa W m).toArray,.int .i64 k]/\zsu w w' W m) ?_).mono fun e w' ⟨v,he,W,m,k,hv,h1⟩=>⟨W,m,k,by rw [he,hv],h1⟩
 intro b hb wr hx hs;refine (zoo (bs:=[b]) h hC hx (by simpa using hb) hs).mono ?_;rintro e wv ⟨rb,c',L',he,hk,hR,hS⟩;refine ⟨_,he,hk,fun wr1 hx1 hs1 => ?_⟩;refine (zol (hR.step hx1) (hS.stepB hx1) hs1).mono ?_;rintro e1 wv1 ⟨W,m,he1,hk1,hB⟩;refine ⟨_,_,_,_,_,_,_,_,_,_,he1,hk1,fun wr2 hx2 hs2 => ?_⟩;refine ((hB.step hx2).call hs2 (zqz (hB.step hx2).r.rd (by decide))).mono ?_;rintro e2 wv2 ⟨t,he2,hk2,_,hB2⟩;exact ⟨_,he2,hk2,fun wr3 hx3=>⟨W,m,t,rfl,hB2.dn hx3⟩⟩
end
noncomputable def zj8 (W:Q8) (t:Int):Int:=if QA W=true/\Zh W t=true then Qo W (Q7 W t).group (Q7 W t).mask else 0
theorem Xn.gu {W:Q8} (wp:Xn W) {t:Int} (h:Zh W t=true):Q6 W.groups (Q7 W t).group=true:=by
 obtain ⟨t0,t1,tn⟩:=ZL h;have htl:=wp.a.t;rcases wp.t t t0 (by omega) with hz | ⟨_,hx⟩
 ·exact absurd (by rw [hz.2]; rfl) tn
 ·exact hx.g
section
variable {W:Q8} {m:MW} {w:World} {bs:List Nat}
theorem Db {t:Int} (h:Xf bs w W m) (hl:Xe W):PX bs UV #[.agg (Qa W m).toArray,.int .i64 t] w (.int .i64 (zj8 W t)):=
 DD W.now m.cO W.cpus.length m.cC m.tO W.tasks.length m.tC m.gO W.groups.length m.gC t fun wr hx=>by
  have h:=(h.ext hx).less (cs:=[]) (by simp);intro _ _;refine ⟨_,YT h hl.c hl.t hl.g hl.f,_,fun _=>Xj h hl.t,fun q => ?_,fun q => ?_⟩
  ·unfold zj8;rw [if_neg];rintro ⟨h1,h2⟩;rw [h1,h2] at q; cases q
  ·simp only [Bool.or_eq_false_iff,Bool.not_eq_false'] at q;have wp:=Qi.1 q.1;obtain ⟨t0,t1,_⟩:=ZL q.2;refine ⟨h.t.ix Qz t0 t1,_,h.t.f t0 t1 (j:=1) rfl,h.t.ix Qz t0 t1,_,h.t.f t0 t1 (j:=4) rfl,_,YU h wp.a.c2 wp.a.tree (wp.gu q.2),?_⟩;unfold zj8;rw [if_pos q]; rfl
theorem D3 {t:Int} (h:Xf bs w W m) (hl:Xe W):PX bs UK #[.agg (Qa W m).toArray,.int .i64 t] w (.int .i64 (zj8 W t)):=by
 refine MX fun wr0 hx0=>HS W.now m.cO W.cpus.length m.cC m.tO W.tasks.length m.tC m.gO W.groups.length m.gC t (R:=fun v w'=>v = .int .i64 (zj8 W t)/\Q0 [] wr0 w') ?_
 have h:=(h.ext hx0).less (cs:=[]) (by simp);intro b wb hxb hb hcell _;have hrd:=h.ext hxb;have hp:=zrj (bs:=[]) hcell hrd (Q0.refl _ _) (by simp);refine ⟨_,_,_,_,_,_,_,_,_,_,hp.cs,_,N6 hrd hl.c hl.g hl.f,Zh W t,fun _=>by exact Pa hp hl.t,fun q wr hx=>⟨?_,hxb.trans hx⟩,fun q => ?_⟩
 ·unfold zj8;rw [if_neg];rintro ⟨h1,h2⟩;rw [h1,h2] at q; cases q
 ·simp only [Bool.or_eq_false_iff,Bool.not_eq_false'] at q;have wp:=Qi.1 q.1;obtain ⟨t0,t1,_⟩:=ZL q.2;refine ⟨_,by exact MC hp wp.a.c2 wp.a.tree t0 t1 (wp.gu q.2),fun wr hx=>⟨?_,hxb.trans hx⟩⟩;unfold zj8;rw [if_pos q]
end
end Go.Proofs.YtclpmgfpjeaibaaGreat
namespace Go.Proofs.YtclpmgfpjeaibaaGreat
open Go.RowKit Go.ChangeShapes
set_option linter.unusedVariables false
set_option linter.unusedSimpArgs false
set_option maxRecDepth 10000
theorem zpn:Tryz.prog.underlying T9=some (.int .u8):=by kernel_rfl
theorem u_sl_uint8:Tryz.prog.underlying ty_sl_uint8=some (.slice T9):=by kernel_rfl
theorem znu:Tryz.prog.cellsOf T9=1:=by kernel_rfl
theorem op_bytes {H:Type} {en:TypeId×Value->H} {w:World} {base:Nat} {spare:Nat->Bool} {held:Bool} {fuel:Nat} {cs:List Value} {x:DataW H×List MemPlace} (h:DataW.trod en Tryz.prog w base spare held fuel ty_sl_uint8 cs=some x) :
  ∃(o:OA) (cap L:Nat),cs=[.slice o L cap]/\E0 o L w/\L<=cap:=by
 obtain ⟨o,len,cap,rfl,h1,_,h3⟩:=zm9 u_sl_uint8 h;refine ⟨o,cap,len,rfl,fun i hi => ?_,h1⟩;obtain ⟨a,n,y,ec,ho,hc,ht⟩:=h3 i hi;rw [znu,Nat.mul_one] at hc;obtain ⟨v,rfl,_,hw⟩:=DataW.trod_int zpn ht;have hv:0<=v/\v<=255:=by simpa [Lit.wf,IntKind.min,IntKind.max,IntKind.signed,IntKind.bits] using hw
 obtain ⟨_,_,hcell⟩:=World.cells?_some hc;have:=hcell 0 (by decide);rw [JP,Nat.add_zero] at this;exact ⟨a,v,ho,hv.1,hv.2,this⟩
end Go.Proofs.YtclpmgfpjeaibaaGreat
namespace Go.Proofs.YtclpmgfpjeaibaaGreat
open Go.RowKit
set_option linter.unusedVariables false
set_option linter.unusedSimpArgs false
set_option maxRecDepth 10000
theorem zmj (gs:List Zv) (u:Int):XI gs 0 u=JU u (gi gs 0).cpus:=by
 unfold XI;rw [show QQ gs 0=[] from Z2 _ _]; rfl
theorem zrd {gs:List Zv} (ht:ZP gs) {h:Int} (hu:Q6 gs h=true) (hz:h≠0) (u:Int):XI gs h u=XI gs (gi gs h).parent (JU u (gi gs h).cpus):=by
 unfold XI;rw [Y2 ht hu hz]; rfl
def zs5 (gs:List Zv) (vs:List Value) (_:World):Nat:=if ZW 1 vs<0 then 0 else (dep 3 gs (ZW 1 vs)).toNat+1
set_option maxHeartbeats 1000000 in
theorem k_FnPinned {a:OA} {La Ca:Nat} {w:World} (ha:E0 a La w) (hca:La<=Ca) :
  Cz P5 #[.slice a La Ca] w fun e w'=>e = .returned (.bool true)/\Q0 [] w w':=by
 refine (EQ a La Ca (R:=fun v w'=>v = .bool true/\Q0 [] w w') ?_).mono fun e w' ⟨v,he,hv,h3⟩=>⟨by rw [he,hv],h3⟩
 refine ⟨fun _ wr hx=>⟨rfl,hx⟩,fun _ wr1 hx1 _ => ?_⟩;refine (MH (ha.ext hx1) hca).mono ?_;rintro e wv ⟨W,m,t,he,hD⟩;have hX:=hx1.trans hD.ext;have hl:=hD.ln;refine ⟨_,_,_,_,_,_,_,_,_,_,_,he,Oe,fun b hb wr2 hx2 hs2 => ?_⟩;have hb0:w.heap.size<=b:=Nat.le_trans hX.size hb;refine (D3 (hD.rd.ext hx2) hl wr2 (Q0.refl _ _)).mono ?_;rintro e1 wv1 ⟨he1,hx3⟩
 have hr:Xf [b] wv1 W m:=((hD.rd.wide (cs:=[b]) fun x hm=>.inr (by
  have:x=b:=by simpa using hm
  omega)).ext (hx2.of_nil)).ext hx3.of_nil
 have hX1:=(hX.trans hx2).trans hx3
 have hfin:∀{wz:World},Q0 [b] wv1 wz->Q0 [] w wz:=fun hz=>hX1.fresh hz fun x hm=>.inl (by
  have:x=b:=by simpa using hm
  omega)
 refine ⟨zj8 W t,he1,Qe hx3 hs2,zj8 W t,Db hr hl,fun q => ?_,fun _=>⟨fun q => ?_,fun q => ?_⟩⟩
 ·simp at q
 ·have q:zj8 W t=0:=by simpa using q
  have hin:((!QA W)||decide (t<0)||decide (t>=((W.tasks.length:Nat):Int)))=false->QA W=true/\0<=t/\t<(W.tasks.length:Int):=fun q=>by
   simp only [Bool.or_eq_false_iff,Bool.not_eq_false',decide_eq_false_iff_not] at q;exact ⟨q.1.1,by omega,by omega⟩
  refine ⟨QA W,YT hr hl.c hl.t hl.g hl.f,fun q=>hr.t.ix Qz (hin q).2.1 (hin q).2.2,(gi W.tasks t).state,fun q=>hr.t.f (hin q).2.1 (hin q).2.2 (j:=0) rfl,fun wr4 hx4=>⟨?_,hfin hx4⟩⟩
  congr 1
  cases h0:((!QA W)||decide (t<0)||decide (t>=((W.tasks.length:Nat):Int))) with
  | true=>rfl
  | false=>
   obtain ⟨hW,t0,t1⟩:=hin h0
   by_cases hst:(gi W.tasks t).state=0
   ·rw [hst]; rfl
   ·exfalso
    have hth:Zh W t=true:=by
     unfold Zh;rw [Qm.2 (by omega)]
     simpa [Q7] using hst
    have:zj8 W t=Qo W (Q7 W t).group (Q7 W t).mask:=if_pos ⟨hW,hth⟩;exact (Pu (Qi.1 hW).a _ _).2 (this▸q)
 ·have q:zj8 W t≠0:=by simpa using q
  have hc:QA W=true/\Zh W t=true:=Decidable.byContradiction fun h=>q (if_neg h)
  obtain ⟨hW,hth⟩:=hc;have hwm:zj8 W t=Qo W (Q7 W t).group (Q7 W t).mask:=if_pos ⟨hW,hth⟩;have wp:=Qi.1 hW;obtain ⟨t0,t1,tn⟩:=ZL hth;have hug:=wp.gu hth;have hlc:=wp.a.c2;have htl:=wp.a.t
  have hmk:Tt (Q7 W t).mask=true:=by
   rcases wp.t t t0 (by omega) with hz | ⟨_,hx⟩
   ·exact absurd (by rw [hz.2]; rfl) tn
   ·exact hx.m
  rw [hwm];refine ⟨fun vs w2=>∃k:Nat,vs=[.int .i64 (Jc W.cpus k),.int .i64 (k:Int)]/\k<=W.cpus.length/\Q0 [b] wv1 w2,Zw W.cpus.length 1,fun wr5 hx5 _=>⟨0,rfl,Nat.zero_le _,hx5⟩,?_⟩;rintro ups c wv2 hs ⟨k,hv,hk,hx⟩;simp only [List.cons.injEq,Value.int.injEq,true_and,and_true] at hv;obtain ⟨rfl,rfl⟩:=hv;have hr2:=hr.ext hx;refine ⟨fun hlt => ?_,fun hge => ?_⟩
  ·have hlt:=of_decide_eq_true hlt;have hb:=Lo (k:=k) (by omega);have hl:=PR W.cpus k (by omega);have hbd:(1*2 ^ (min (Int.toNat (k:Int)) 64):Int)=XX k:=rfl;refine ⟨hr2.c.ix ZS (by omega) hlt,_,hr2.c.f (by omega) hlt (j:=0) rfl,fun hu => ?_,fun hu => ?_⟩
   ·rw [hbd];refine ⟨zlf (by omega),⟨by omega,by omega,by omega⟩,⟨by omega,by omega⟩,⟨by omega,by omega⟩,fun wr6 hx6 _=>⟨⟨k+1,?_,by omega,hx.trans hx6⟩,QU (k:=k) rfl rfl (by omega)⟩⟩;simp only [Jc]; rw [if_pos hu]; rfl
   ·refine ⟨⟨by omega,by omega⟩,fun wr7 hx7 _=>⟨⟨k+1,?_,by omega,hx.trans hx7⟩,QU (k:=k) rfl rfl (by omega)⟩⟩;simp only [Jc]; rw [if_neg (by rw [hu]; decide)]; rfl
  ·have hge:=of_decide_eq_false hge;have:k=W.cpus.length:=by omega
   subst this;have hupD:Jc W.cpus W.cpus.length=Xm W.cpus:=rfl;rw [hupD];have hup:=zif hlc;refine ⟨hr2.t.ix Qz t0 t1,_,hr2.t.f t0 t1 (j:=1) rfl,?_⟩;refine ⟨fun vs w2=>∃(s x:Int),vs=[.int .i64 s,.int .i64 x]/\Tt s=true/\((x = -1/\s=XI W.groups (Q7 W t).group (Xm W.cpus))\/(Q6 W.groups x=true/\XI W.groups x s=XI W.groups (Q7 W t).group (Xm W.cpus)))/\Q0 [b] wv2 w2,zs5 W.groups,fun wr8 hx8 _=>⟨_,_,rfl,hup,.inr ⟨hug,rfl⟩,hx8⟩,?_⟩;rintro s x wv3 hs3 ⟨s',x',hv,hs0,hor,hx4⟩;simp only [List.cons.injEq,Value.int.injEq,true_and,and_true] at hv;obtain ⟨rfl,rfl⟩:=hv;have hr3:=hr2.ext hx4;refine ⟨fun hg => ?_,fun hg => ?_⟩
   ·have hg:=of_decide_eq_true hg;rcases hor with ⟨h1,_⟩ | ⟨hu,hp⟩
    ·omega
    ·obtain ⟨u0,u1,_⟩:=Q5.1 hu;have hgm:=(wp.a.u hu).2.2.m;refine ⟨hr3.g.ix u0 u1,_,hr3.g.cpus u0 u1,hr3.g.ix u0 u1,_,hr3.g.parent u0 u1,fun wr9 hx9 _ => ?_⟩;rw [<-U8 hs0 hgm]
     by_cases hz:x=0
     ·subst hz;rw [wp.a.tree.rp];refine ⟨⟨_,_,rfl,Kl _ _,.inl ⟨rfl,by rw [<-hp,zmj]⟩,hx4.trans hx9⟩,?_⟩;show (0:Nat)<_;unfold zs5;rw [if_neg (by show ¬(0:Int)<0; decide)];omega
     ·obtain ⟨hpu,_,_,d,e,e2,hd⟩:=ZQ wp.a.tree hu hz;obtain ⟨v0,_,_⟩:=Q5.1 hpu;refine ⟨⟨_,_,rfl,Kl _ _,.inr ⟨hpu,by rw [<-hp,zrd wp.a.tree hu hz]⟩,hx4.trans hx9⟩,?_⟩;unfold zs5;rw [if_neg (by show ¬(gi W.groups x).parent<0; omega),if_neg (by show ¬x<0; omega)];show (dep 3 W.groups (gi W.groups x).parent).toNat+1<(dep 3 W.groups x).toNat+1;omega
   ·have hg:=of_decide_eq_false hg;rcases hor with ⟨_,h1⟩ | ⟨hu,_⟩
    ·have hand:XK .and .i64 s (Q7 W t).mask=JU (Q7 W t).mask (XI W.groups (Q7 W t).group (Xm W.cpus)):=by rw [<-U8 hs0 hmk,Kk,h1]
     have hX3:∀{wz:World},Q0 [b] wv3 wz->Q0 [] w wz:=fun hz=>hfin ((hx.trans hx4).trans hz)
     refine ⟨hr3.t.ix Qz t0 t1,_,hr3.t.f t0 t1 (j:=4) rfl,fun q1 wr10 hx10=>⟨?_,hX3 hx10⟩,fun q1=>⟨fun q2 wr11 hx11=>⟨?_,hX3 hx11⟩,fun q2 wr12 hx12=>⟨?_,hX3 hx12⟩⟩⟩
     ·have q1:XK .and .i64 s (Q7 W t).mask≠0:=by simpa [Q7] using q1
      show Value.bool (_==XK .and .i64 s (Q7 W t).mask)=_;rw [hand] at q1 ⊢;unfold Qo;rw [if_pos q1,beq_self_eq_true]
     ·have q1:XK .and .i64 s (Q7 W t).mask=0:=by simpa [Q7] using q1
      have q2:s≠0:=by simpa using q2
      rw [hand] at q1;unfold Qo;rw [if_neg (by rw [q1]; simp),if_pos (by rw [<-h1]; exact q2),h1,beq_self_eq_true]
     ·have q1:XK .and .i64 s (Q7 W t).mask=0:=by simpa [Q7] using q1
      have q2:s=0:=by simpa using q2
      rw [hand] at q1;unfold Qo;rw [if_neg (by rw [q1]; simp),if_neg (by rw [<-h1,q2]; simp),beq_self_eq_true]
    ·obtain ⟨u0,_,_⟩:=Q5.1 hu;omega
end Go.Proofs.YtclpmgfpjeaibaaGreat
