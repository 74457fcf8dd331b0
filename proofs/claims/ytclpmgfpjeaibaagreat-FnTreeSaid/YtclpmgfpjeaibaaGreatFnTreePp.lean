/- Part 16 of what the law FnTree needs: the engine, the functions' propositions, the contracts. -/
import Derived.Test.YtclpmgfpjeaibaaGreatFnTreePo
namespace Go.Proofs.YtclpmgfpjeaibaaGreat
open Go.RowKit
set_option linter.unusedVariables false
set_option linter.unusedSimpArgs false
set_option maxRecDepth 10000
set_option maxHeartbeats 4000000 in
theorem znw {rb:Nat} {c:OA} {L N:Nat} {w:World} {items:Int} (h:Jp rb c L N w) (hN:N<=700000000000) (hi:items<=27) :
  Cz JX #[.pointer (some ⟨rb,0,none⟩),.int .i64 items] w fun e w'=>∃(W:Q7) (m:MW),e = .returned (.agg (Qa W m).toArray)/\Xn W/\Y8 8 w.heap.size w' W m/\Jp rb c L (N+1000) w'/\Q0 [rb] w w'/\∀x∈QF 8 m,x≠rb:=by
 refine (Lf (some ⟨rb,0,none⟩) items (R:=fun v w'=>∃(W:Q7) (m:MW),v = .agg (Qa W m).toArray/\Xn W/\Y8 8 w.heap.size w' W m/\Jp rb c L (N+1000) w'/\Q0 [rb] w w'/\∀x∈QF 8 m,x≠rb) ?_).mono fun e w' ⟨v,he,W,m,hv,h3⟩=>⟨W,m,by rw [he,hv],h3⟩
 intro b hb b1 hb1 wr hx hs;refine (Dr.pick ((Dr.start h).put2 hx hb hb1) (by omega) hs).mono ?_;rintro e w1 ⟨v,he,hk,⟨p0,_,p2⟩,h1⟩;have p2:=p2 (by decide);refine ⟨_,he,hk,⟨by omega,by omega⟩,zp5 (lo:=1) (hi:=4) (by decide) rfl (by omega) (by omega) fun x x1 x4 wr hx hs => ?_⟩;obtain ⟨q,rfl⟩:∃q:Nat,x=(q:Int):=⟨x.toNat,by omega⟩;have h2:=h1.step hx;refine (DF (n:=q) (by omega) (by omega)).mono ?_;rintro e2 w2 ⟨m,he2,hM,hx5⟩
 have hb2:∀x∈rb::[b,b1],x<wr.heap.size:=fun x hm=>by
  rcases List.mem_cons.1 hm with h1 | h1
  ·rw [h1]; exact h2.r.rd.lt
  ·exact hs x h1
 have hK:X1 rb c L N 1 [b,b1] w w2 (J3 q) m:=⟨zk7 (by omega) (by omega),⟨h2.r.call0 hx5,h2.ext.trans hx5.of_nil,h2.new⟩,(OW.of hM hb2).mono h2.ext.size⟩;refine ⟨_,_,_,_,_,_,_,_,_,_,_,he2,Qf hx5 hs,fun b2 hb2 wr hx hs => ?_⟩;refine ((hK.put hx hb2).pick (by omega) hs).mono ?_;rintro e3 w3 ⟨v1,he3,hk3,⟨p10,_,p12⟩,hK1⟩;have p12:=p12 (by decide);refine ⟨_,he3,hk3,?_⟩;refine ⟨fun vs w2=>∃(k n:Nat) (W:Q7) (m:MW),vs = .int .i64 (k:Int)::Qa W m/\(k:Int)<=v1/\n<=2+2*k/\X1 rb c L N n [b,b1,b2] w w2 W m,Zm v1.toNat 0,fun wr hx _=>⟨0,2,J3 q,m,rfl,p10,by omega,hK1.step hx⟩,?_⟩;clear hK1 hk3 he3 hs hx hM hK he2 hx5 h1 h2 he hk;rintro i1 l l1O l1L l1C l2O l2L l2C l3O l3L l3C wv hs ⟨k,n,W,m,he,hk,hn,hK⟩;simp only [Qa,List.cons.injEq,Value.int.injEq,Value.slice.injEq,true_and,and_true] at he;obtain ⟨rfl,rfl,⟨rfl,rfl,rfl⟩,⟨rfl,rfl,rfl⟩,rfl,rfl,rfl⟩:=he;refine ⟨fun hlt => ?_,fun hge wr hx hs => ?_⟩
 ·have hlt:=of_decide_eq_true hlt
  repeat' first
   | exact rfl
   | (refine And.intro ?_ ?_)
   | (refine zng (by decide) rfl (by omega) (by omega) fun x => ?_)
   | (refine zpy (by decide) rfl (by omega) (by omega) fun x => ?_)
   | (intro (b:Nat) hb)
   | (intro (wr:World) hx hs; refine (X1.pick (X1.step (by assumption) hx) ?_ hs).mono ?_; rotate_left; rintro e w2 ⟨v,he,hk,⟨hp0,_,hp2⟩,hC⟩; have hp2:=hp2 (by decide); refine ⟨_,he,hk,?_⟩)
   | (intro (wr:World) hx hs; refine (X1.pick (X1.put (by assumption) hx (by assumption)) ?_ hs).mono ?_; rotate_left; rintro e w2 ⟨v,he,hk,⟨hp0,_,hp2⟩,hC⟩; have hp2:=hp2 (by decide); refine ⟨_,he,hk,?_⟩)
   | (intro (wr:World) hx hs; refine (X1.pick (X1.put2 (by assumption) hx (by assumption) (by assumption)) ?_ hs).mono ?_; rotate_left; rintro e w2 ⟨v,he,hk,⟨hp0,_,hp2⟩,hC⟩; have hp2:=hp2 (by decide); refine ⟨_,he,hk,?_⟩)
   | (intro (wr:World) hx hs; refine (X1.mak (X1.step (by assumption) hx) hs).mono ?_; rintro e w2 ⟨W',m',a,d,he,hk,hC⟩; refine ⟨_,_,_,_,_,_,_,_,_,_,_,_,he,hk,⟨by omega,by omega⟩,fun wr hx _=>⟨⟨k+1,n+2,W',m',by simp [Qa],by omega,by omega,((hC.step hx).more (by omega)).sub (by simp)⟩,QI (k:=k) rfl rfl (by omega)⟩⟩)
   | (intro (wr:World) hx hs; refine (X1.mak (X1.put (by assumption) hx (by assumption)) hs).mono ?_; rintro e w2 ⟨W',m',a,d,he,hk,hC⟩; refine ⟨_,_,_,_,_,_,_,_,_,_,_,_,he,hk,⟨by omega,by omega⟩,fun wr hx _=>⟨⟨k+1,n+2,W',m',by simp [Qa],by omega,by omega,((hC.step hx).more (by omega)).sub (by simp)⟩,QI (k:=k) rfl rfl (by omega)⟩⟩)
   | (intro (wr:World) hx hs; refine (X1.mak (X1.put2 (by assumption) hx (by assumption) (by assumption)) hs).mono ?_; rintro e w2 ⟨W',m',a,d,he,hk,hC⟩; refine ⟨_,_,_,_,_,_,_,_,_,_,_,_,he,hk,⟨by omega,by omega⟩,fun wr hx _=>⟨⟨k+1,n+2,W',m',by simp [Qa],by omega,by omega,((hC.step hx).more (by omega)).sub (by simp)⟩,QI (k:=k) rfl rfl (by omega)⟩⟩)
   | omega
 refine ((hK.step hx).pick (by omega) hs).mono ?_;rintro e4 w4 ⟨v3,he4,hk4,⟨p30,_,p32⟩,hC6⟩;have p32:=p32 (by decide);refine ⟨_,he4,hk4,⟨by omega,by omega⟩,?_⟩;refine ⟨fun vs w2=>∃(k n:Nat) (W:Q7) (m:MW),vs = .int .i64 (k:Int)::Qa W m/\(k:Int)<=1+v3/\n<=20+3*k/\X1 rb c L N n [b,b1,b2] w w2 W m,Zm (1+v3).toNat 0,fun wr8 hx8 _=>⟨0,n+1,W,m,rfl,by omega,by omega,hC6.step hx8⟩,?_⟩;clear hK hC6 hk4 he4 hs hx hge hk hn;clear W m n k;rintro i3 l4 l5O l5L l5C l6O l6L l6C l7O l7L l7C wv hs ⟨k,n,W,m,he,hk,hn,hK⟩;simp only [Qa,List.cons.injEq,Value.int.injEq,Value.slice.injEq,true_and,and_true] at he;obtain ⟨rfl,rfl,⟨rfl,rfl,rfl⟩,⟨rfl,rfl,rfl⟩,rfl,rfl,rfl⟩:=he;refine ⟨fun hlt wr hx hs => ?_,fun hge => ?_⟩
 ·have hlt:=of_decide_eq_true hlt;refine ((hK.step hx).pick (by omega) hs).mono ?_;rintro e5 w5 ⟨v5,he5,hk5,_,hC5⟩;refine ⟨_,he5,hk5,rfl,fun wr hx hs => ?_⟩;refine ((hC5.step hx).weight (by omega) hs).mono ?_;rintro e6 w6 ⟨v6,he6,hk6,_,hC6⟩;refine ⟨_,he6,hk6,rfl,_,Uu,_,Xu,zmv _,fun wr hx hs => ?_⟩;refine ((hC6.step hx).fork hs).mono ?_;rintro e7 w7 ⟨W7,m7,a,d,he7,hk7,hC7⟩;exact ⟨_,_,_,_,_,_,_,_,_,_,_,_,he7,hk7,⟨by omega,by omega⟩,fun wr hx _=>⟨⟨k+1,n+1+2,W7,m7,by simp [Qa],by omega,by omega,hC7.step hx⟩,QI (k:=k) rfl rfl (by omega)⟩⟩
 ·have hge:=of_decide_eq_false hge;refine ⟨fun vs w2=>∃(k n:Nat) (W:Q7) (m:MW),vs = .int .i64 (k:Int)::Qa W m/\k<=27/\n<=50+20*k/\X1 rb c L N n [b,b1,b2] w w2 W m,Zm 27 0,fun wr8 hx8 _=>⟨0,n,W,m,rfl,by omega,by omega,hK.step hx8⟩,?_⟩;clear hK hs;rintro i5 l8 l9O l9L l9C l10O l10L l10C l11O l11L l11C wv hs ⟨k,n,W,m,he,hk,hn,hK⟩;simp only [Qa,List.cons.injEq,Value.int.injEq,Value.slice.injEq,true_and,and_true] at he;obtain ⟨rfl,rfl,⟨rfl,rfl,rfl⟩,⟨rfl,rfl,rfl⟩,rfl,rfl,rfl⟩:=he;refine ⟨fun hlt wr hx hs => ?_,fun hge wr hx=>⟨W,m,rfl,(hK.step hx).fin (by omega)⟩⟩;have hlt:=of_decide_eq_true hlt;refine ((hK.step hx).item (by omega) hs (V:=W) (p:=m)).mono ?_;rintro e5 w5 ⟨k5,a5,q5,r5,s5,he5,hk5,hC5⟩;refine ⟨_,_,_,_,_,he5,hk5,rfl,fun wr hx hs => ?_⟩;refine ((hC5.step hx).do hs).mono ?_;rintro e6 w6 ⟨W6,m6,d,he6,hk6,hC6⟩;exact ⟨_,_,_,_,_,_,_,_,_,_,_,he6,hk6,⟨by omega,by omega⟩,fun wr hx _=>⟨⟨k+1,n+20,W6,m6,by simp [Qa],by omega,by omega,hC6.step hx⟩,QI (k:=k) rfl rfl (by omega)⟩⟩
theorem zpe:Tryz.prog.underlying ty_sl_uint8=some (.slice VC):=by kernel_rfl
theorem zpd:Tryz.prog.underlying VC=some (.int .u8):=by kernel_rfl
theorem zpf:Tryz.prog.underlying Zk=some .string:=by kernel_rfl
theorem X1.ofPlay {rb:Nat} {c:OA} {L N n k:Nat} {bs:List Nat} {w0 w w':World} {W:Q7} {m:MW} (d:Dr rb c L N n bs w0 w) (hs:∀x∈bs,x<w.heap.size) (iv:Xn W) (hM:Y8 8 w.heap.size w' W m) (hr:Jp rb c L (N+n+k) w') (hx:Q0 [rb] w w') (hne:∀x∈QF 8 m,x≠rb):X1 rb c L N (n+k) bs w0 w' W m:=
 ⟨iv,⟨d.r.upd (by rw [<-Nat.add_assoc]; exact hr),d.ext.trans hx,d.new⟩,⟨hM.mono d.ext.size,fun x hx1 hm=>by
  rcases List.mem_cons.1 hm with h1 | h1
  ·exact hne x hx1 h1
  ·have:=(hM.lt x hx1).1;have:=hs x h1;omega⟩⟩
set_option maxHeartbeats 2000000 in
theorem zlg {rb:Nat} {c:OA} {L N:Nat} {w:World} (h:Jp rb c L N w) (hN:N<=600000000000) :
  Cz Jl #[.pointer (some ⟨rb,0,none⟩)] w fun e w'=>∃(W:Q7) (m:MW),e = .returned (.agg (Qa W m).toArray)/\Xn W/\Y8 8 w.heap.size w' W m/\Jp rb c L (N+1100) w'/\Q0 [rb] w w'/\∀x∈QF 8 m,x≠rb:=by
 refine (Ke (some ⟨rb,0,none⟩) (R:=fun v w'=>∃(W:Q7) (m:MW),v = .agg (Qa W m).toArray/\Xn W/\Y8 8 w.heap.size w' W m/\Jp rb c L (N+1100) w'/\Q0 [rb] w w'/\∀x∈QF 8 m,x≠rb) ?_).mono fun e w' ⟨v,he,W,m,hv,h3⟩=>⟨W,m,by rw [he,hv],h3⟩
 intro b hb wr hx hs;refine (Dr.pick ((Dr.start h).put hx hb) (by omega) hs).mono ?_;rintro e w1 ⟨v,he,hk,⟨p0,_,p2⟩,h1⟩;have p2:=p2 (by decide);refine ⟨_,he,hk,fun wr hx hs => ?_⟩;have h2:=h1.step hx;refine (znw h2.r.rd (by omega) (items:=v) (by omega)).mono ?_;rintro e2 w2 ⟨W,m,he2,iv,hM,hr,hxp,hne⟩;have hK:=X1.ofPlay h2 hs iv hM hr hxp hne;refine ⟨_,_,_,_,_,_,_,_,_,_,he2,Oe h2.r hxp hs,fun b1 hb1 wr hx hs => ?_⟩;refine ((hK.put hx hb1).pick (by omega) hs).mono ?_;rintro e3 w3 ⟨v3,he3,hk3,_,hK3⟩;refine ⟨_,he3,hk3,fun _ => ?_,fun _ wr hx=>⟨W,m,rfl,(hK3.step hx).fin (by omega)⟩⟩;refine ⟨fun vs w2=>∃(k:Nat) (W:Q7) (m:MW),vs = .int .i64 (k:Int)::Qa W m/\k<=12/\X1 rb c L N (0+1+1000+1) [b,b1] w w2 W m,Zm 12 0,fun wr hx _=>⟨0,W,m,rfl,by omega,hK3.step hx⟩,?_⟩;clear hK3 hK hM iv hne hr hxp he2 hk3 he3 h2 h1 hs hx;rintro i1 l l1O l1L l1C l2O l2L l2C l3O l3L l3C wv hs ⟨k,W,m,he,hk,hK⟩;simp only [Qa,List.cons.injEq,Value.int.injEq,Value.slice.injEq,true_and,and_true] at he;obtain ⟨rfl,rfl,⟨rfl,rfl,rfl⟩,⟨rfl,rfl,rfl⟩,rfl,rfl,rfl⟩:=he;refine ⟨fun hlt wr hx hs => ?_,fun hge => ?_⟩
 ·have hlt:=of_decide_eq_true hlt;refine ((hK.step hx).fork hs).mono ?_;rintro e7 w7 ⟨W7,m7,a,d,he7,hk7,hC7⟩;exact ⟨_,_,_,_,_,_,_,_,_,_,_,_,he7,hk7,⟨by omega,by omega⟩,fun wr hx _=>⟨⟨k+1,W7,m7,by simp [Qa],by omega,hC7.step hx⟩,QI (k:=k) rfl rfl (by omega)⟩⟩
 refine ⟨fun vs w2=>∃(k:Nat) (W:Q7) (m:MW),vs = .int .i64 (k:Int)::Qa W m/\k<=8/\X1 rb c L N (0+1+1000+1) [b,b1] w w2 W m,Zm 8 0,fun wr hx _=>⟨0,W,m,rfl,by omega,hK.step hx⟩,?_⟩;clear hK hs;rintro i3 l4 l5O l5L l5C l6O l6L l6C l7O l7L l7C wv hs ⟨k,W,m,he,hk,hK⟩;simp only [Qa,List.cons.injEq,Value.int.injEq,Value.slice.injEq,true_and,and_true] at he;obtain ⟨rfl,rfl,⟨rfl,rfl,rfl⟩,⟨rfl,rfl,rfl⟩,rfl,rfl,rfl⟩:=he;refine ⟨fun hlt=>⟨⟨by omega,by omega⟩,⟨by have:=of_decide_eq_true hlt; show (0:Int)<=_; omega,by have:=of_decide_eq_true hlt; show _<=(255:Int); omega⟩,fun b3 wb hxb hsz hh hn wr hx hs => ?_⟩,fun _ wr hx=>⟨W,m,rfl,(hK.step hx).fin (by omega)⟩⟩;have hlt:=of_decide_eq_true hlt;have hK1:=(hK.step hxb).step hx
 have hh2:wr.heap[b3]? = some (Obj.cells ([.int .u8 (48+(k:Int))]:List Value).toArray VC (0,0)):=by
  rw [hx.block b3 (T9 hh) hn]; exact hh
 have hc:=run_convert_bytes_arg wr ty_sl_uint8 VC zpe zpd b3 0 1 1 [48+(k:Int)] rfl (fun i hi=>by
  have:i=0:=by omega
  subst this;rw [Ol hh2]; rfl) Zk zpf
 refine ⟨_,wr,hc,fun _ _=>rfl,?_,fun wr2 hx2 hs2 => ?_⟩
 ·have e1:(strOfNums [48+(k:Int)]).size=1:=rfl;rw [e1]; decide
 refine ((hK1.step hx2).mak hs2).mono ?_;rintro e7 w7 ⟨W7,m7,a,d,he7,hk7,hC7⟩;exact ⟨_,_,_,_,_,_,_,_,_,_,_,_,he7,hk7,⟨by omega,by omega⟩,fun wr hx _=>⟨⟨k+1,W7,m7,by simp [Qa],by omega,hC7.step hx⟩,QI (k:=k) rfl rfl (by omega)⟩⟩
structure Cl (W V:Q7):Prop where
 n:V.now=W.now
 c:V.cpus=W.cpus
 t:V.tasks.length=W.tasks.length
 g:V.groups.length=W.groups.length
 e:∀i:Int,0<=i->i<8->∃ss:List Pi,gi V.groups i={ gi W.groups i with shelves:=ss }/\ss.length=(gi W.groups i).shelves.length
theorem Cl.refl (W:Q7):Cl W W:=⟨rfl,rfl,rfl,rfl,fun i _ _=>⟨_,rfl,rfl⟩⟩
theorem Cl.enc {W V:Q7} (h:Cl W V) (m:MW):Qa V m=Qa W m:=by simp [Qa,h.n,h.c,h.t,h.g]
theorem Cl.len {W V:Q7} (h:Cl W V) (hl:X4 W) (h8:W.groups.length=8):X4 V:=by
 refine ⟨by rw [h.c]; exact hl.c,by rw [h.t]; exact hl.t,by rw [h.g]; exact hl.g,fun i a b => ?_⟩;rw [h.g] at b;obtain ⟨ss,e,l⟩:=h.e i a (by omega);have hf:=hl.f i a b;rw [e];exact ⟨hf.nm,hf.nx,hf.lo,hf.dr,by show ss.length<=_; rw [l]; exact hf.sh⟩
structure Lt (base:Nat) (bs:List Nat) (w0 w:World) (W V:Q7) (m:MW):Prop where
 cl:Cl W V
 o:OW 8 base bs w V m
 ext:Q0 (QF 8 m) w0 w
 new:∀x∈bs,w0.heap.size<=x
section
variable {base:Nat} {bs:List Nat} {w0 w w':World} {W V V':Q7} {m:MW}
theorem Lt.step (h:Lt base bs w0 w W V m) (hx:Q0 bs w w'):Lt base bs w0 w' W V m:=⟨h.cl,h.o.step hx,h.ext.fresh hx fun x hm=>.inl (h.new x hm),h.new⟩
theorem Lt.sto (h:Lt base bs w0 w W V m) (hc:Cl W V') (hM:Y8 8 base w' V' m) (hx:Q0 (QF 8 m) w w'):Lt base bs w0 w' W V' m:=⟨hc,⟨hM,h.o.nb⟩,h.ext.trans hx,h.new⟩
set_option maxHeartbeats 1000000 in
theorem znu (h:Y8 8 base w W m) (iv:Xn W) :
  Cz VM #[.agg (Qa W m).toArray] w fun e w'=>∃V:Q7,e = .returned (.agg (Qa V m).toArray)/\X4 V/\Y8 8 base w' V m/\Q0 (QF 8 m) w w':=by
 refine (EW W.now m.cO W.cpus.length m.cC m.tO W.tasks.length m.tC m.gO W.groups.length m.gC (R:=fun v w'=>∃V:Q7,v = .agg (Qa V m).toArray/\X4 V/\Y8 8 base w' V m/\Q0 (QF 8 m) w w') ?_).mono fun e w' ⟨v,he,V,hv,h3⟩=>⟨V,by rw [he,hv],h3⟩
 intro b hb b1 hb1;have hgl:=iv.wp.a.gl;have htl:=iv.wp.a.t
 have hnew:∀x∈[b,b1],w.heap.size<=x:=by
  intro x hx;simp at hx;omega
 have h0:Lt base [b,b1] w w W W m:=⟨Cl.refl W,⟨h,fun x hx hm=>by
  have:=(h.lt x hx).2;have:=hnew x hm;omega⟩,Q0.refl _ _,hnew⟩
 refine ⟨fun vs w2=>∃(k:Nat) (V:Q7),vs=[.int .i64 (k:Int)]/\k<=12/\Lt base [b,b1] w w2 W V m/\V.groups=W.groups/\∀j:Int,(k:Int)<=j->j<12->Q8 V j=Q8 W j,Zm 12 0,fun wr hx _=>⟨0,W,rfl,by omega,h0.step hx.of_nil,rfl,fun _ _ _=>rfl⟩,?_⟩;clear h0;rintro t wv hs ⟨k,V,he,hk,hL,hg,ht⟩;simp only [List.cons.injEq,Value.int.injEq,true_and,and_true] at he;subst he;have hVt:V.tasks.length=12:=by rw [hL.cl.t]; exact htl
 refine ⟨fun hlt => ?_,fun hge => ?_⟩
 ·have hlt:=of_decide_eq_true hlt;have k0:(0:Int)<=(k:Int):=by omega
  have k1:(k:Int)<(V.tasks.length:Int):=by omega
  have ix:Ix m.tO W.tasks.length (k:Int):=by
   have:=hL.o.rd.t.ix QJ k0 k1
   rwa [hL.cl.t] at this
  have hv:0<=(Q8 V (k:Int)).v/\(Q8 V (k:Int)).v<=100000000000000000:=by
   rw [ht _ (Int.le_refl _) (by omega)];rcases iv.wp.t (k:Int) k0 (by omega) with hz | ⟨_,hx⟩
   ·rw [hz.2]; decide
   ·exact ZR.1 hx.v
  refine ⟨ix,_,hL.o.rd.t.f k0 k1 (j:=0) rfl,fun _=>⟨ix,_,hL.o.rd.t.f k0 k1 (j:=5) rfl,⟨by show _<=(Q8 V (k:Int)).v+_; omega,by show (Q8 V (k:Int)).v+_<=_; omega⟩,ix,CS hL.o.own hL.o.nb k0 k1 (j:=5) (by decide),⟨by omega,by omega⟩,fun wr hx _=>⟨⟨k+1,setTk V (k:Int) { Q8 V (k:Int) with v:=(Q8 V (k:Int)).v+50000000000000001 },by simp,by omega,?_,hg,fun j a c => ?_⟩,QI (k:=k) rfl rfl (by omega)⟩⟩,fun _=>⟨⟨by omega,by omega⟩,fun wr hx _=>⟨⟨k+1,V,by simp,by omega,hL.step hx,hg,fun j a c=>ht j (by omega) c⟩,QI (k:=k) rfl rfl (by omega)⟩⟩⟩
  ·refine (hL.sto (V':=setTk V (k:Int) { Q8 V (k:Int) with v:=(Q8 V (k:Int)).v+50000000000000001 }) ⟨hL.cl.n,hL.cl.c,by show (List.set _ _ _).length=_; rw [List.length_set]; exact hL.cl.t,hL.cl.g,hL.cl.e⟩ (hL.o.own.stoT k0 k1 (j:=5) (vs:=[.int .i64 ((Q8 V (k:Int)).v+50000000000000001)]) (x:={ Q8 V (k:Int) with v:=(Q8 V (k:Int)).v+50000000000000001 }) rfl (by show 5+1<=9; decide)) MD).step hx
  ·rw [show Q8 (setTk V (k:Int) { Q8 V (k:Int) with v:=(Q8 V (k:Int)).v+50000000000000001 }) j=_ from (Qt V.tasks { Q8 V (k:Int) with v:=(Q8 V (k:Int)).v+50000000000000001 } k0 k1 (j:=j) (by omega)),if_neg (by omega)];exact ht j (by omega) c
 have hge:=of_decide_eq_false hge;refine ⟨fun vs w2=>∃(k:Nat) (V:Q7),vs=[.int .i64 (k:Int)]/\k<=8/\Lt base [b,b1] w w2 W V m/\∀j:Int,(k:Int)<=j->j<8->gi V.groups j=gi W.groups j,Zm 8 0,fun wr hx _=>⟨0,V,rfl,by omega,hL.step hx,fun j _ _=>by rw [hg]⟩,?_⟩;clear hL hg ht hs hVt;rintro k' wv1 hs1 ⟨k2,V,he,hk2,hL,hg⟩;simp only [List.cons.injEq,Value.int.injEq,true_and,and_true] at he;subst he;refine ⟨fun hlt => ?_,fun hge2 wr hx => ?_⟩
 rotate_left
 ·have hK:=hL.step hx;exact ⟨V,by rw [hK.cl.enc]; rfl,hK.cl.len iv.len hgl,hK.o.own,hK.ext⟩
 have hlt:=of_decide_eq_true hlt;have k0:(0:Int)<=(k2:Int):=by omega
 have k8:(k2:Int)<8:=by omega
 have hsl4:=(L2 iv.wp.a k0 k8).2.2;refine ⟨fun vs w2=>∃(c:Nat) (V:Q7),vs=[.int .i64 (c:Int)]/\c<=(gi W.groups (k2:Int)).shelves.length/\Lt base [b,b1] w w2 W V m/\(∀j:Int,(k2:Int)<j->j<8->gi V.groups j=gi W.groups j)/\∀d:Int,(c:Int)<=d->Qc V (k2:Int) d=Qc W (k2:Int) d,Zm 4 0,fun wr hx _=>⟨0,V,rfl,by omega,hL.step hx,fun j a c=>hg j (by omega) c,fun d _=>by unfold Qc; rw [hg _ (Int.le_refl _) k8]⟩,?_⟩;clear hL hg hs1;rintro c' wv2 hs2 ⟨c,V,he,hc,hL,hg,hsh⟩;simp only [List.cons.injEq,Value.int.injEq,true_and,and_true] at he;subst he;have hVg:V.groups.length=8:=by rw [hL.cl.g]; exact hgl
 have k1:(k2:Int)<(V.groups.length:Int):=by omega
 obtain ⟨ss,hss,hsl⟩:=hL.cl.e (k2:Int) k0 k8;have hlen:(gi V.groups (k2:Int)).shelves.length=(gi W.groups (k2:Int)).shelves.length:=by rw [hss]; exact hsl
 have ix:∀{V':Q7} {w3:World},Lt base [b,b1] w w3 W V' m->Ix m.gO W.groups.length (k2:Int):=fun hL'=>by
  have:=hL'.o.rd.g.ix (i:=(k2:Int)) k0 (by rw [hL'.cl.g]; omega)
  rwa [hL'.cl.g] at this
 refine ⟨ix hL,_,_,_,hL.o.rd.g.shelf k0 k1,fun hlc => ?_,fun hgc=>⟨⟨by omega,by omega⟩,fun wr hx _=>⟨⟨k2+1,V,by simp,by omega,hL.step hx,fun j a d=>hg j (by omega) d⟩,QI (k:=k2) rfl rfl (by omega)⟩⟩⟩;have hlc:=of_decide_eq_true hlc;have c0:(0:Int)<=(c:Int):=by omega
 have hp:=iv.wp.s (k2:Int) (c:Int) k0 k8 c0 (by omega);have hsc:=hsh (c:Int) (Int.le_refl _);have hf:=ZR.1 hp.f;have hv:=ZR.1 hp.v;rw [<-hsc] at hf hv;have hrs:=hL.o.rd.g.shelves _ k0 k1;have hM1:=hL.o.own.stoS (i:=(k2:Int)) (c:=(c:Int)) k0 (by omega) c0 hlc (j:=0) (vs:=[.int .i64 ((Qc V (k2:Int) (c:Int)).floor+50000000000000001)]) (x:={ Qc V (k2:Int) (c:Int) with floor:=(Qc V (k2:Int) (c:Int)).floor+50000000000000001 }) rfl (by show 0+1<=5; decide)
 have hcl:∀{V1:Q7} (s:Pi),Cl W V1->Cl W (setSh V1 (k2:Int) (c:Int) s):=fun {V1} s h1=>⟨h1.n,h1.c,h1.t,by show (List.set _ _ _).length=_; rw [List.length_set]; exact h1.g,fun i a d=>by
  have:=h1.g;obtain ⟨s1,e1,l1⟩:=h1.e i a d;have e2:gi (setSh V1 (k2:Int) (c:Int) s).groups i=if (k2:Int)=i then { gi V1.groups (k2:Int) with shelves:=(gi V1.groups (k2:Int)).shelves.set (Int.toNat (c:Int)) s } else gi V1.groups i:=Y4 k0 (by omega) a;rw [e2];split
  ·rename_i e3;subst e3;exact ⟨s1.set (Int.toNat (c:Int)) s,by rw [e1],by rw [List.length_set]; exact l1⟩
  ·exact ⟨s1,e1,l1⟩⟩
 have hL1:=hL.sto (V':=setSh V (k2:Int) (c:Int) { Qc V (k2:Int) (c:Int) with floor:=(Qc V (k2:Int) (c:Int)).floor+50000000000000001 }) (hcl _ hL.cl) hM1 (E3 (by omega))
 have hg1:∀{V1:Q7} (s:Pi),V1.groups.length=8->(∀j:Int,(k2:Int)<j->j<8->gi V1.groups j=gi W.groups j)->∀j:Int,(k2:Int)<j->j<8->gi (setSh V1 (k2:Int) (c:Int) s).groups j=gi W.groups j:=fun {V1} s hl h1 j a d=>by
  rw [show gi (setSh V1 (k2:Int) (c:Int) s).groups j=_ from Y4 k0 (by omega) (by omega),if_neg (by omega)];exact h1 j a d
 have hs1:∀{V1:Q7} (s:Pi),V1.groups.length=8->(c:Int)<((gi V1.groups (k2:Int)).shelves.length:Int)->(∀d:Int,(c:Int)+1<=d->Qc V1 (k2:Int) d=Qc W (k2:Int) d)->∀d:Int,(c:Int)+1<=d->Qc (setSh V1 (k2:Int) (c:Int) s) (k2:Int) d=Qc W (k2:Int) d:=fun {V1} s hl hcl2 h1 d a=>by
  rw [XE k0 (by omega) c0 hcl2 k0 (by omega),if_neg (by omega)];exact h1 d a
 have hg2:=hg1 { Qc V (k2:Int) (c:Int) with floor:=(Qc V (k2:Int) (c:Int)).floor+50000000000000001 } hVg hg;have hs2':=hs1 { Qc V (k2:Int) (c:Int) with floor:=(Qc V (k2:Int) (c:Int)).floor+50000000000000001 } hVg hlc fun d a=>hsh d (by omega)
 have hl1:(gi (setSh V (k2:Int) (c:Int) { Qc V (k2:Int) (c:Int) with floor:=(Qc V (k2:Int) (c:Int)).floor+50000000000000001 }).groups (k2:Int)).shelves.length=(gi V.groups (k2:Int)).shelves.length:=Ac k0 k1 k0
 have hv1:Qc (setSh V (k2:Int) (c:Int) { Qc V (k2:Int) (c:Int) with floor:=(Qc V (k2:Int) (c:Int)).floor+50000000000000001 }) (k2:Int) (c:Int)={ Qc V (k2:Int) (c:Int) with floor:=(Qc V (k2:Int) (c:Int)).floor+50000000000000001 }:=by
  rw [XE k0 k1 c0 hlc k0 c0,if_pos ⟨rfl,rfl⟩]
 refine ⟨ix hL,_,_,_,hL.o.rd.g.shelf k0 k1,ix hL,_,_,_,hL.o.rd.g.shelf k0 k1,hrs.ix ZK c0 hlc,(Qc V (k2:Int) (c:Int)).floor,hrs.f c0 hlc (j:=0) rfl,⟨by omega,by omega⟩,hrs.ix ZK c0 hlc,zm0 hL.o.own hL.o.nb k0 (by omega) c0 hlc (j:=0) (by decide),fun _ => ?_,fun _=>⟨⟨by omega,by omega⟩,fun wr hx _=>⟨⟨c+1,_,by simp,by omega,hL1.step hx,hg2,hs2'⟩,QI (k:=c) rfl rfl (by omega)⟩⟩⟩;generalize setSh V (k2:Int) (c:Int) { Qc V (k2:Int) (c:Int) with floor:=(Qc V (k2:Int) (c:Int)).floor+50000000000000001 }=V1 at hL1 hg2 hs2' hl1 hv1;have hVg1:V1.groups.length=8:=by rw [hL1.cl.g]; exact hgl
 have k11:(k2:Int)<(V1.groups.length:Int):=by omega
 have hlc1:(c:Int)<((gi V1.groups (k2:Int)).shelves.length:Int):=by rw [hl1]; exact hlc
 have hrs1:=hL1.o.rd.g.shelves _ k0 k11;have ev:(Qc V1 (k2:Int) (c:Int)).v=(Qc V (k2:Int) (c:Int)).v:=by rw [hv1]
 have hM2:=hL1.o.own.stoS (i:=(k2:Int)) (c:=(c:Int)) k0 (by omega) c0 hlc1 (j:=2) (vs:=[.int .i64 ((Qc V1 (k2:Int) (c:Int)).v+50000000000000001)]) (x:={ Qc V1 (k2:Int) (c:Int) with v:=(Qc V1 (k2:Int) (c:Int)).v+50000000000000001 }) rfl (by show 2+1<=5; decide);have hL2:=hL1.sto (V':=setSh V1 (k2:Int) (c:Int) { Qc V1 (k2:Int) (c:Int) with v:=(Qc V1 (k2:Int) (c:Int)).v+50000000000000001 }) (hcl _ hL1.cl) hM2 (E3 (by omega));exact ⟨ix hL1,_,_,_,hL1.o.rd.g.shelf k0 k11,ix hL1,_,_,_,hL1.o.rd.g.shelf k0 k11,hrs1.ix ZK c0 hlc1,(Qc V1 (k2:Int) (c:Int)).v,hrs1.f c0 hlc1 (j:=2) rfl,⟨by omega,by omega⟩,hrs1.ix ZK c0 hlc1,zm0 hL1.o.own hL1.o.nb k0 (by omega) c0 hlc1 (j:=2) (by decide),⟨by omega,by omega⟩,fun wr hx _=>⟨⟨c+1,_,by simp,by omega,hL2.step hx,hg1 _ hVg1 hg2,hs1 _ hVg1 hlc1 hs2'⟩,QI (k:=c) rfl rfl (by omega)⟩⟩
end
theorem zfu {b:XS} (h:VF b) {c:Int} (c0:0<=c) (c1:c<(b.locals.length:Int)):VF (Y6 b c):=by
 by_cases hp:0<gi b.locals c
 ·exact (z5 h c0 c1 hp).1
 ·have he:=(h.each c c0 c1).1;have e0:gi b.locals c=0:=by omega
  have hs:=PR b.locals c 0 c0 c1 b.locals.length;rw [if_pos c1] at hs;have hd:=h.dl;refine ⟨h.q1,h.q2,?_,?_,?_,?_,?_,h.s1,h.s2,fun d d0 d1 => ?_,?_⟩
  ·simp only [Y6,List.length_set]; exact h.l1
  ·simp only [Y6,List.length_set]; exact h.l2
  ·simp only [Y6,List.length_set]; split <;> simp [hd]
  ·simp only [Y6]; have:=h.p1; omega
  ·simp only [Y6]; have:=h.p2; omega
  ·simp only [Y6,List.length_set] at d1 ⊢;have hq:=h.each d d0 d1;have q1:=h.q1;rw [Qt _ _ c0 c1 d0,e0]
   by_cases hpp:b.pool+0>0
   ·rw [if_pos hpp,VO _ _ d0 (by omega)];refine ⟨?_,?_,fun h=>by cases h⟩
    ·split <;> omega
    ·split <;> omega
   ·rw [if_neg hpp];refine ⟨?_,?_,fun hh => ?_⟩
    ·split <;> omega
    ·split <;> omega
    ·have:=hq.2.2 hh
     split <;> omega
  ·simp only [Y6,List.length_set];have:=h.sum;rw [hs,e0]; omega
theorem zhk {b:XS} (h:VF b) (op:zmp):VF (Ym b op).1:=by
 unfold Ym;split
 ·exact (y7 h).1
 ·split
  ·exact h
  ·rename_i hi;have hc:X3 op.at' 0 ((b.locals.length:Int) - 1)=true:=by simpa using hi
   have hc:=Qx.1 hc;split
   ·exact (zbg h hc.1 (by omega)).1
   ·split
    ·exact (Ad h hc.1 (by omega)).1
    ·split
     ·exact zfu h hc.1 (by omega)
     ·exact h
theorem zij {q x:Int} {w:World} (hq:X3 q 1 10000=true) (h1:1<=x) (h4:x<=4) :
  Cz Qs #[.int .i64 q,.int .i64 x] w fun e w'=>∃(B:XS) (p:MG),e = .returned (.tuple #[.agg (Z2 B p).toArray,.bool true])/\VF B/\QQ w.heap.size w' B p/\Q0 [] w w':=by
 obtain ⟨n,rfl⟩:∃n:Nat,x=(n:Int):=⟨x.toNat,by omega⟩;have hqq:=Qx.1 hq;exact (PB (n:=n) hq (Qx.2 ⟨by omega,by omega⟩)).mono fun e w' ⟨p,he,ho,hx⟩=>⟨_,p,he,NT hqq.1 hqq.2 (by omega) (by omega),ho,hx⟩
theorem zii {rb:Nat} {c:OA} {L N:Nat} {w:World} (h:Jp rb c L N w) (hN:N<=900000000000) :
  Cz YR #[.pointer (some ⟨rb,0,none⟩)] w fun e w'=>∃op:zmp,e = .returned (.agg (zhu op).toArray)/\Jp rb c L (N+10) w'/\Q0 [rb] w w':=by
 refine (Mw (some ⟨rb,0,none⟩) (R:=fun v w'=>∃op:zmp,v = .agg (zhu op).toArray/\Jp rb c L (N+10) w'/\Q0 [rb] w w') ?_).mono fun e w' ⟨v,he,op,hv,h1⟩=>⟨op,by rw [he,hv],h1⟩
 intro b hb b1 hb1 wr hx hs;refine (Dr.pick ((Dr.start h).put2 hx hb hb1) (by omega) hs).mono ?_;rintro e w1 ⟨v1,he,hk,⟨p0,_,p2⟩,h1⟩;have p2:=p2 (by decide);refine ⟨_,he,hk,⟨by omega,by omega⟩,zng (by decide) rfl (by omega) (by omega) fun x => ?_⟩;refine ⟨fun vs bs w2=>bs=[]/\(∃x:Int,vs=[.int .i64 x])/\Dr rb c L N 2 [b,b1] w w2,⟨fun _ wr hx hs => ?_,fun _=>⟨fun _ wr hx _=>⟨rfl,⟨_,rfl⟩,(h1.step hx).more (by decide)⟩,fun _ wr hx _=>⟨rfl,⟨_,rfl⟩,(h1.step hx).more (by decide)⟩⟩⟩,?_⟩
 ·refine (Dr.pick (h1.step hx) (by omega) hs).mono ?_;rintro e w3 ⟨v3,he,hk,_,h3⟩;exact ⟨_,he,hk,fun _ wr hx _=>⟨rfl,⟨_,rfl⟩,h3.step hx⟩,fun _ wr hx _=>⟨rfl,⟨_,rfl⟩,h3.step hx⟩⟩
 clear h1;rintro kind w2 hs2 ⟨-,-,h2⟩;refine ⟨fun vs bs w2=>bs=[]/\(∃x:Int,vs=[.int .i64 x])/\Dr rb c L N 4 [b,b1] w w2,fun wr hx hs => ?_,?_⟩
 ·refine (Dr.pick (h2.step hx) (by omega) hs).mono ?_;rintro e w3 ⟨v3,he,hk,_,h3⟩;refine ⟨_,he,hk,fun _ wr hx hs => ?_,fun _ wr hx _=>⟨rfl,⟨_,rfl⟩,(h3.step hx).more (by decide)⟩⟩;refine (Dr.pick (h3.step hx) (by omega) hs).mono ?_;rintro e w4 ⟨v4,he,hk,⟨q0,_,q2⟩,h4⟩;have q2:=q2 (by decide);exact ⟨_,he,hk,⟨by omega,by omega⟩,fun wr hx _=>⟨rfl,⟨_,rfl⟩,h4.step hx⟩⟩
 clear h2;rintro kind2 w5 hs5 ⟨-,-,h5⟩ wr hx hs;refine (Dr.pick (h5.step hx) (by omega) hs).mono ?_;rintro e w6 ⟨v6,he,hk,⟨p60,_,p62⟩,h6⟩;have p62:=p62 (by decide);refine ⟨_,he,hk,fun wr hx hs => ?_⟩;refine (Dr.pick (h6.step hx) (by omega) hs).mono ?_;rintro e w7 ⟨v7,he,hk,⟨p70,_,p72⟩,h7⟩;have p72:=p72 (by decide)
 have hd:0<=Int.tdiv v7 29/\Int.tdiv v7 29<=1:=by
  rw [Int.tdiv_eq_ediv_of_nonneg p70];omega
 refine ⟨_,he,hk,⟨by decide,⟨by omega,by omega⟩⟩,⟨by omega,by omega⟩,fun b2 hb2 wr hx hs => ?_⟩;refine (Dr.pick (h7.put hx hb2) (by omega) hs).mono ?_;rintro e w8 ⟨v8,he,hk,⟨p80,_,p82⟩,h8⟩;have p82:=p82 (by decide);exact ⟨_,he,hk,⟨by omega,by omega⟩,zng (by decide) rfl (by omega) (by omega) fun x wr hx=>⟨⟨_,_,_⟩,rfl,(h8.step hx).fin (by decide)⟩⟩
def NF:List Int:=[1,20,21,50,100,10000]
theorem CW {v:Int} (h0:0<=v) (h1:v<6):X3 (gi NF v) 1 10000=true:=by
 have:v=0\/v=1\/v=2\/v=3\/v=4\/v=5:=by omega
 rcases this with rfl | rfl | rfl | rfl | rfl | rfl <;> rfl
structure Vw (rb:Nat) (c:OA) (L N n:Nat) (bs:List Nat) (w0 w:World) (bt:Nat):Prop where
 d:Dr rb c L N n bs w0 w
 v:Ob Xh 1 Qb 0 (rb::bs) w (some ⟨bt,0,none⟩) 6 NF
structure Bw (rb:Nat) (c:OA) (L N n:Nat) (bs:List Nat) (w0 w:World) (B:XS) (p:MG):Prop where
 P:VF B
 d:Dr rb c L N n bs w0 w
 o:QQ w0.heap.size w B p
 nb:∀x∈Zz p,x∉rb::bs
section
variable {rb b bt:Nat} {c:OA} {L N n k:Nat} {bs cs:List Nat} {w0 w w':World} {B B':XS} {p p':MG}
theorem Vw.of (h:Dr rb c L N n bs w0 w) (hx:Q0 bs w w') (hb:w.heap.size<=bt) (hh:w'.heap[bt]? = some (Obj.cells ([.int .i64 1,.int .i64 20,.int .i64 21,.int .i64 50,.int .i64 100,.int .i64 10000]:List Value).toArray Qb (0,0))) (hn:bt∉bs):Vw rb c L N n bs w0 w' bt:=
 ⟨h.step hx,.inr ⟨bt,[],rfl,Nat.zero_le _,by simpa [NF,Xh] using hh,by simp [NF,Xh],by simp [NF]⟩,fun x hxx hm=>by
  have:x=bt:=by simpa [Qu] using hxx
  subst this;rcases List.mem_cons.1 hm with h1 | h1
  ·have:=h.r.rd.lt; omega
  ·exact hn h1⟩
theorem Vw.step (h:Vw rb c L N n bs w0 w bt) (hx:Q0 bs w w'):Vw rb c L N n bs w0 w' bt:=⟨h.d.step hx,h.v.step (hx.mono fun _ hm=>List.mem_cons_of_mem _ hm)⟩
theorem Vw.put (h:Vw rb c L N n bs w0 w bt) (hx:Q0 bs w w') (hb:w.heap.size<=b):Vw rb c L N n (bs++[b]) w0 w' bt:=⟨h.d.put hx hb,h.v.put (hx.mono fun _ hm=>List.mem_cons_of_mem _ hm) hb⟩
theorem Vw.call0 (h:Vw rb c L N n bs w0 w bt) (hx:Q0 [] w w'):Vw rb c L N n bs w0 w' bt:=h.step hx.of_nil
theorem Vw.pick (h:Vw rb c L N n bs w0 w bt) (hN:N+n<=1000000000000) (hs:∀x∈bs,x<w.heap.size) {q:Int} :
  Cz Q1 #[.pointer (some ⟨rb,0,none⟩),.int .i64 q] w fun e w'=>∃v,e = .returned (.int .i64 v)/\Q9 bs w w'/\KH q v/\Vw rb c L N (n+1) bs w0 w' bt:=
 (Km h.d.r.rd hN).mono fun e w' ⟨v,he,hq,hr,hx⟩=>⟨v,he,Oe h.d.r hx hs,hq,⟨h.d.r.upd (by rw [<-Nat.add_assoc]; exact hr),h.d.ext.trans hx,h.d.new⟩,h.v.step (hx.mono fun x hm=>by
  have:x=rb:=by simpa using hm
  subst this; exact List.mem_cons_self)⟩
theorem Vw.ix (h:Vw rb c L N n bs w0 w bt) {v:Int} (h0:0<=v) (h1:v<6):Ix (some (Addr.mk bt 0 none)) 6 v:=h.v.own.ix h0 h1
theorem Vw.cell (h:Vw rb c L N n bs w0 w bt) {v:Int} (h0:0<=v) (h1:v<6):Q2 bs w (some (Addr.mk bt 0 none)) (Int.toNat v*1) [.int .i64 (gi NF v)]:=((h.v.rd ZO.len).less fun _ hm=>List.mem_cons_of_mem _ hm) v h0 h1
theorem zkh (h:QQ w.heap.size w' B p) (d:Dr rb c L N n bs w0 w) (hs:∀x∈bs,x<w.heap.size):∀x∈Zz p,x∉rb::bs:=fun x hx hm=>by
 have:=(h.lt x hx).1;rcases List.mem_cons.1 hm with h1 | h1
 ·have:=d.r.rd.lt; omega
 ·have:=hs x h1; omega
theorem QQ.wid {base:Nat} (h:QQ base w B p) (hx:Q0 bs w w') (hd:∀x∈Zz p,x∉bs):QQ base w' B p:=⟨h.loc.ext hx fun x hm=>hd x (List.mem_append_left _ hm),h.dry.ext hx fun x hm=>hd x (List.mem_append_right _ hm)⟩
theorem Bw.new (d:Dr rb c L N n bs w0 w) (hs:∀x∈bs,x<w.heap.size) (hP:VF B) (ho:QQ w.heap.size w' B p) (hx:Q0 [] w w'):Bw rb c L N n bs w0 w' B p:=
 ⟨hP,d.step hx.of_nil,⟨ho.loc.mono d.ext.size,ho.dry.mono d.ext.size⟩,zkh ho d hs⟩
theorem Bw.step (h:Bw rb c L N n bs w0 w B p) (hx:Q0 bs w w'):Bw rb c L N n bs w0 w' B p:=⟨h.P,h.d.step hx,h.o.wid hx fun x hm hm'=>h.nb x hm (List.mem_cons_of_mem _ hm'),h.nb⟩
theorem Bw.put (h:Bw rb c L N n bs w0 w B p) (hx:Q0 bs w w') (hb:w.heap.size<=b):Bw rb c L N n (bs++[b]) w0 w' B p:=
 ⟨h.P,h.d.put hx hb,h.o.wid hx fun x hm hm'=>h.nb x hm (List.mem_cons_of_mem _ hm'),fun x hx1 hm=>by
  have hlt:=(h.o.lt x hx1).2;rcases List.mem_cons.1 hm with h1 | h1
  ·exact h.nb x hx1 (by rw [h1]; exact List.mem_cons_self)
  ·rcases List.mem_append.1 h1 with h2 | h2
   ·exact h.nb x hx1 (List.mem_cons_of_mem _ h2)
   ·have:x=b:=by simpa using h2
    omega⟩
theorem Bw.drawn (h:Bw rb c L N n bs w0 w B p) (hr:Jp rb c L (N+n+k) w') (hx:Q0 [rb] w w'):Bw rb c L N (n+k) bs w0 w' B p:=
 ⟨h.P,⟨h.d.r.upd (by rw [<-Nat.add_assoc]; exact hr),h.d.ext.trans hx,h.d.new⟩,h.o.wid hx fun x hm hm'=>h.nb x hm (by
  have:x=rb:=by simpa using hm'
  rw [this]; exact List.mem_cons_self),h.nb⟩
theorem Bw.pick (h:Bw rb c L N n bs w0 w B p) (hN:N+n<=1000000000000) (hs:∀x∈bs,x<w.heap.size) {q:Int} :
  Cz Q1 #[.pointer (some ⟨rb,0,none⟩),.int .i64 q] w fun e w'=>∃v,e = .returned (.int .i64 v)/\Q9 bs w w'/\KH q v/\Bw rb c L N (n+1) bs w0 w' B p:=
 (Km h.d.r.rd hN).mono fun e w' ⟨v,he,hq,hr,hx⟩=>⟨v,he,Oe h.d.r hx hs,hq,h.drawn hr hx⟩
theorem Bw.op (h:Bw rb c L N n bs w0 w B p) (hN:N+n<=900000000000) (hs:∀x∈bs,x<w.heap.size) :
  Cz YR #[.pointer (some ⟨rb,0,none⟩)] w fun e w'=>∃op:zmp,e = .returned (.agg (zhu op).toArray)/\Q9 bs w w'/\Bw rb c L N (n+10) bs w0 w' B p:=
 (zii h.d.r.rd hN).mono fun e w' ⟨op,he,hr,hx⟩=>⟨op,he,Oe h.d.r hx hs,h.drawn hr hx⟩
theorem Bw.do (h:Bw rb c L N n bs w0 w B p) (hs:∀x∈bs,x<w.heap.size) {op:zmp} :
  Cz ZQ #[.agg (Z2 B p).toArray,.agg (zhu op).toArray] w fun e w'=>∃(B':XS) (p':MG) (d:Int),e = .returned (.tuple #[.agg (Z2 B' p').toArray,.int .i64 d])/\Q9 bs w w'/\Bw rb c L N n bs w0 w' B' p':=
 (XB (op:=op) h.P (h.o.loc.rd ZO.len (by simp)) (h.o.dry.rd YO.len (by simp))).mono fun e w' ⟨p',he,ho,hx⟩=>⟨_,p',_,he,Qf hx hs,Bw.new h.d hs (zhk h.P op) ho hx⟩
structure zof (w w':World) (B:XS) (p:MG):Prop where
 ll:B.locals.length<=5
 dl:B.dry.length<=4
 rl:∀bs:List Nat,(∀x∈bs,x<w.heap.size)->zkb bs w' p.lO B.locals
 rd:∀bs:List Nat,(∀x∈bs,x<w.heap.size)->zmq bs w' p.dO B.dry
theorem QQ.bdv (h:QQ w.heap.size w' B p) (hl:B.locals.length<=5) (hd:B.dry.length<=4):zof w w' B p:=
 ⟨hl,hd,fun bs hs=>h.loc.rd ZO.len fun x hx hm=>by have:=(h.loc.lt x hx).1; have:=hs x hm; omega,fun bs hs=>h.dry.rd YO.len fun x hx hm=>by have:=(h.dry.lt x hx).1; have:=hs x hm; omega⟩
theorem Bw.bdv (h:Bw rb c L N n bs w0 w B p):zof w0 w B p:=h.o.bdv (by have:=h.P.l2; omega) (by have:=h.P.l2; have:=h.P.dl; omega)
theorem zl6 {o:OA} {l:List Bool} {C:Nat} (h:zmq bs w o l) (h1:1<=l.length) (hC:l.length<=C):zmq bs w (if C=Int.toNat 1 then o else o.map (·.add (Int.toNat 1*1))) l.tail:=fun i i0 i1=>by
 have hl:l.tail.length=l.length - 1:=by simp
 rw [hl] at i1;have hc:=h (i+1) (by omega) (by omega)
 have e:gi l.tail i=gi l (i+1):=by
  obtain ⟨k,rfl⟩:=Int.eq_ofNat_of_zero_le i0;rw [Ju (by rw [hl]; omega),show ((k:Int)+1)=((k+1:Nat):Int) by omega,Ju (by omega)];simp
 rw [e,if_neg (by show ¬C=1; omega)];refine U6 fun j v hj => ?_
 obtain ⟨a,ha,hb,hcell⟩:=hc.get j v hj;refine ⟨a.add (Int.toNat 1*1),by rw [ha]; rfl,by rw [Zy]; exact hb,?_⟩;rw [Uc]
 have:Int.toNat 1*1+(Int.toNat i*1+j)=Int.toNat (i+1)*1+j:=by
  have:Int.toNat (i+1)=Int.toNat i+1:=by omega
  rw [this];show 1*1+_=_;omega
 rw [this]; exact hcell
end
set_option maxHeartbeats 4000000 in
theorem znr {rb:Nat} {c:OA} {L N:Nat} {w:World} (h:Jp rb c L N w) (hN:N<=800000000000) :
  Cz JW #[.pointer (some ⟨rb,0,none⟩)] w fun e w'=>∃(B:XS) (p:MG),e = .returned (.agg (Z2 B p).toArray)/\zof w w' B p/\Jp rb c L (N+300) w'/\Q0 [rb] w w':=by
 refine (L9 (some ⟨rb,0,none⟩) (R:=fun v w'=>∃(B:XS) (p:MG),v = .agg (Z2 B p).toArray/\zof w w' B p/\Jp rb c L (N+300) w'/\Q0 [rb] w w') ?_).mono fun e w' ⟨v,he,B,p,hv,h1⟩=>⟨B,p,by rw [he,hv],h1⟩
 intro b hbA;have h0:=Dr.start h;refine ⟨fun vs bs w2=>∃(bt:Nat) (B:XS) (p:MG),bs=[bt]/\vs=Z2 B p/\Bw rb c L N 2 [b,bt] w w2 B p,?_,?_⟩
 ·repeat' first
   | exact rfl
   | (refine And.intro ?_ ?_)
   | (intro (bt:Nat) (wb:World) hx hsz hh hn; have hV:=Vw.of (by assumption) hx hsz hh hn)
   | (intro (bt:Nat) (wb:World) hx hsz hh hn; have hV:=Vw.of (Dr.add h0 hbA) hx.of_nil hsz hh hn)
   | (intro (bt:Nat) (wb:World) hx hsz hh hn; have hV:=Vw.of (Dr.add (Dr.add h0 hbA) (by assumption)) hx.of_nil hsz hh hn)
   | (intro (bt:Nat) (wb:World) hx hsz hh hn; have hV:=Vw.of (Dr.add (by assumption) (by assumption)) (hx.mono fun _ hm=>List.mem_append_left _ hm) hsz hh hn)
   | (intro (b:Nat) hb)
   | (refine ⟨_,Vw.cell (by assumption) (by omega) (by omega),?_⟩)
   | exact Vw.cell (by assumption) (by omega) (by omega)
   | exact Vw.ix (by assumption) (by omega) (by omega)
   | (intro (wr:World) hx hs; refine (Vw.pick (Vw.step (by assumption) hx) ?_ hs).mono ?_; rotate_left; rintro e w2 ⟨v,he,hk,⟨hp0,_,hp2⟩,hC⟩; have hp2:=hp2 (by decide); refine ⟨_,he,hk,?_⟩)
   | (intro (wr:World) hx hs; refine (Vw.pick (Vw.put (by assumption) hx (by assumption)) ?_ hs).mono ?_; rotate_left; rintro e w2 ⟨v,he,hk,⟨hp0,_,hp2⟩,hC⟩; have hp2:=hp2 (by decide); refine ⟨_,he,hk,?_⟩)
   | (intro (wr:World) hx hs; refine (Dr.pick (Dr.step (by assumption) hx) ?_ hs).mono ?_; rotate_left; rintro e w2 ⟨v,he,hk,⟨hp0,_,hp2⟩,hC⟩; have hp2:=hp2 (by decide); refine ⟨_,he,hk,?_⟩)
   | (intro (wr:World) hx hs; refine (Dr.pick (Dr.put (by assumption) hx (by assumption)) ?_ hs).mono ?_; rotate_left; rintro e w2 ⟨v,he,hk,⟨hp0,_,hp2⟩,hC⟩; have hp2:=hp2 (by decide); refine ⟨_,he,hk,?_⟩)
   | (intro (wr:World) hx hs; refine (Dr.pick (Dr.put2 h0 hx hbA (by assumption)) ?_ hs).mono ?_; rotate_left; rintro e w2 ⟨v,he,hk,⟨hp0,_,hp2⟩,hC⟩; have hp2:=hp2 (by decide); refine ⟨_,he,hk,?_⟩)
   | (intro (wr:World) hx hs; have hV:=Vw.step (by assumption) hx; refine (zij (CW (by omega) (by omega)) (by omega) (by omega)).mono ?_; rintro e w2 ⟨B,p,he,hP,ho,hy⟩; have hB:=Bw.new hV.d hs hP ho hy; have hV2:=hV.call0 hy; refine ⟨_,_,_,_,_,_,_,_,_,_,he,Qf hy hs,?_⟩)
   | (intro (wr:World) hx hs; have hV:=Vw.put (by assumption) hx (by assumption); refine (zij (CW (by omega) (by omega)) (by omega) (by omega)).mono ?_; rintro e w2 ⟨B,p,he,hP,ho,hy⟩; have hB:=Bw.new hV.d hs hP ho hy; have hV2:=hV.call0 hy; refine ⟨_,_,_,_,_,_,_,_,_,_,he,Qf hy hs,?_⟩)
   | (intro (wr:World) hx hs; exact ⟨_,_,_,rfl,rfl,Bw.put (by assumption) hx (by assumption)⟩)
   | (intro (wr:World) hx hs; exact ⟨_,_,_,rfl,rfl,Bw.step (by assumption) hx⟩)
   | omega
 clear h0;rintro l l1 l2 l3O l3L l3C l4O l4L l4C b22 w31 hs31 ⟨bt,B,p,hbt,hv,hB⟩ wr hx hs;have:b22=bt:=by simpa using hbt
 subst this;simp only [Z2,List.cons.injEq,Value.int.injEq,Value.slice.injEq,true_and,and_true] at hv;obtain ⟨rfl,rfl,rfl,⟨rfl,rfl,rfl⟩,rfl,rfl,rfl⟩:=hv;refine (Bw.pick (hB.step hx) (by omega) hs).mono ?_;rintro e1 w1 ⟨v1,he1,hk1,⟨p10,_,p12⟩,hB1⟩;have p12:=p12 (by decide);refine ⟨_,he1,hk1,?_⟩;refine ⟨fun vs w2=>∃(k n:Nat) (B:XS) (p:MG),vs = .int .i64 (k:Int)::Z2 B p/\(k:Int)<=v1/\n<=3+10*k/\Bw rb c L N n [b,b22] w w2 B p,Zm v1.toNat 0,fun wr hx _=>⟨0,2+1,B,p,rfl,p10,by omega,hB1.step hx⟩,?_⟩;clear hB1 hk1 he1 hs hx hB hs31;clear B p;rintro i1 l5 l6 l7 l8O l8L l8C l9O l9L l9C w36 hs ⟨k,n,B,p,he,hk,hn,hK⟩;simp only [Z2,List.cons.injEq,Value.int.injEq,Value.slice.injEq,true_and,and_true] at he;obtain ⟨rfl,rfl,rfl,rfl,⟨rfl,rfl,rfl⟩,rfl,rfl,rfl⟩:=he;refine ⟨fun hlt wr hx hs => ?_,fun hge wr hx hs => ?_⟩
 ·have hlt:=of_decide_eq_true hlt;refine (Bw.op (hK.step hx) (by omega) hs).mono ?_;rintro e2 w2 ⟨op,he2,hk2,hB2⟩;refine ⟨_,_,_,he2,hk2,rfl,fun wr hx hs => ?_⟩;refine (Bw.do (hB2.step hx) hs (op:=op)).mono ?_;rintro e3 w3 ⟨B3,p3,d,he3,hk3,hB3⟩;exact ⟨_,_,_,_,_,_,_,_,_,_,he3,hk3,⟨by omega,by omega⟩,fun wr hx _=>⟨⟨k+1,n+10,B3,p3,by simp [Z2],by omega,by omega,hB3.step hx⟩,QI (k:=k) rfl rfl (by omega)⟩⟩
 have hge:=of_decide_eq_false hge;refine (Bw.pick (hK.step hx) (by omega) hs).mono ?_;rintro e4 w4 ⟨v4,he4,hk4,_,hB4⟩;refine ⟨_,he4,hk4,fun _ wr hx=>⟨B,p,rfl,(hB4.step hx).bdv,(hB4.step hx).d.fin (by omega)⟩,fun _ wr hx hs => ?_⟩;have l1:=hK.P.l1;have l2:=hK.P.l2;have hdl:=hK.P.dl;have hP:=hK.P;have q2:=hP.q2;have p1:=hP.p1;have p2:=hP.p2;have s1:=hP.s1;have s2:=hP.s2;refine (Bw.pick (hB4.step hx) (by omega) hs).mono ?_;rintro e5 w5 ⟨v5,he5,hk5,⟨p50,_,p52⟩,hB5⟩;have p52:=p52 (by omega);refine ⟨_,he5,hk5,fun wr hx hs => ?_⟩;refine (Bw.pick (hB5.step hx) (by omega) hs).mono ?_;rintro e6 w6 ⟨v6,he6,hk6,_,hB⟩;have hnb:∀x∈Zz p,x∉[b,b22]:=fun x hx hm=>hB.nb x hx (List.mem_cons_of_mem _ hm)
 have hnew:∀x∈Zz p,w.heap.size<=x:=fun x hx=>(hB.o.lt x hx).1
 have fin:∀{w7 wr:World} {B':XS},QQ w.heap.size w7 B' p->Q0 (Zz p) w6 w7->Q0 [b,b22] w7 wr->B'.locals.length<=5->B'.dry.length<=4->zof w wr B' p/\Jp rb c L (N+300) wr/\Q0 [rb] w wr:=fun {w7 wr B'} ho hx1 hx2 hl hd=>by
  have hd2:Dr rb c L N (n+1+1+1) [b,b22] w w7:=⟨hB.d.r.call hx1 (fun hm=>hB.nb rb hm List.mem_cons_self) fun a ha=>by
   rcases h.ltc a ha with h3 | h3
   ·exact .inl fun hm=>by have:=hnew _ hm; omega
   ·exact .inr h3,hB.d.ext.fresh hx1 fun x hm=>.inl (hnew x hm),hB.d.new⟩
  have hd3:=hd2.step hx2;exact ⟨(ho.wid hx2 hnb).bdv hl hd,hd3.fin (by omega)⟩
 have fin0:∀{wr:World} {B':XS},B'.locals=B.locals->B'.dry=B.dry->Q0 [b,b22] w6 wr->zof w wr B' p/\Jp rb c L (N+300) wr/\Q0 [rb] w wr:=fun {wr B'} el ed hx2=>by
  have k:=hB.step hx2;have hb:=k.bdv;exact ⟨⟨by rw [el]; exact hb.ll,by rw [ed]; exact hb.dl,by rw [el]; exact hb.rl,by rw [ed]; exact hb.rd⟩,k.d.fin (by omega)⟩
 have hix:Ix p.dO B.dry.length v5:=hB.o.dry.ix p50 (by omega);have hixl:Ix p.lO B.locals.length v5:=hB.o.loc.ix p50 (by omega);refine ⟨_,he6,hk6,fun _=>⟨⟨by omega,by omega⟩,fun wr hx=>⟨{ B with pool:=B.pool+1 },p,rfl,fin0 rfl rfl hx⟩⟩,fun _=>⟨fun _=>⟨hix,_,(hB.o.dry.rd YO.len fun x hx=>hnb x (List.mem_append_right _ hx)) v5 p50 (by omega),hix,hB.o.dry.wr YO.len (fun x hx=>hnb x (List.mem_append_right _ hx)) p50 (by omega) (j:=0) (n:=1) (by decide),fun wr hx => ?_⟩,fun _=>⟨fun _=>⟨hixl,hB.o.loc.wr ZO.len (fun x hx=>hnb x (List.mem_append_left _ hx)) p50 (by omega) (j:=0) (n:=1) (by decide),fun wr hx => ?_⟩,fun _=>⟨fun _ wr hx=>⟨{ B with quota:=0 },p,rfl,fin0 rfl rfl hx⟩,fun _=>⟨fun _=>⟨⟨by omega,by omega,?_⟩,fun wr hx => ?_⟩,fun _=>⟨fun _ ba hba wr hx hs hh => ?_,fun _=>⟨fun _=>⟨⟨by omega,by omega⟩,⟨by omega,by omega⟩,fun wr hx=>⟨{ B with pool:=B.pool - 1,spent:=B.spent+1 },p,rfl,fin0 rfl rfl hx⟩⟩,fun _ wr hx=>⟨B,p,rfl,fin0 rfl rfl hx⟩⟩⟩⟩⟩⟩⟩⟩
 ·exact ⟨{ B with dry:=B.dry.set v5.toNat (!gi B.dry v5) },p,by simp [Z2],fin (hB.o.stoD p50 (by omega) _) (hB.o.xD _ _) hx (by show B.locals.length<=5; omega) (by show (B.dry.set _ _).length<=4; rw [List.length_set]; omega)⟩
 ·exact ⟨{ B with locals:=B.locals.set v5.toNat (-1) },p,by simp [Z2],fin (hB.o.stoL p50 (by omega) _) (hB.o.xL _ _) hx (by show (B.locals.set _ _).length<=5; rw [List.length_set]; omega) (by show B.dry.length<=4; omega)⟩
 ·have:=hB.o.dry.le; omega
 ·have k:=hB.step hx;have hb:=k.bdv;have hle:=hB.o.dry.le;refine ⟨{ B with dry:=B.dry.tail },{ p with dO:=if p.dC=Int.toNat 1 then p.dO else p.dO.map (·.add (Int.toNat 1*1)),dC:=p.dC - Int.toNat 1 },?_,⟨hb.ll,by show B.dry.tail.length<=4; simp; omega,hb.rl,fun bs hs=>zl6 (hb.rd bs hs) (by omega) hle⟩,k.d.fin (by omega)⟩;simp [Z2]
 ·have hB2:=hB.put hx hba;have hnb2:∀x∈Zz p,x∉[b,b22,ba]:=fun x hx hm=>hB2.nb x hx (List.mem_cons_of_mem _ hm)
  obtain ⟨o',cap',w9,hrun,hown,hxa,hor⟩:=za2 ZO TK hB2.o.loc (x:=0) (fz:=(0,0)) hh (by rfl) (by omega) (by omega) Zj #[false,false] (by have:=hB2.d.ext.size; omega);have hk9:Q9 [b,b22,ba] wr w9:=hxa.kept fun x hm=>⟨hs x hm,fun hm2=>hnb2 x (List.mem_append_left _ hm2) hm⟩
  refine ⟨_,_,_,w9,hrun,hk9,fun wr2 hx2 => ?_⟩
  have hnbL:∀x∈Qu o',x∉[b,b22,ba]:=fun x hxo hm=>by
   rcases hor with e | e
   ·rw [e] at hxo; exact hnb2 x (List.mem_append_left _ hxo) hm
   ·rw [e] at hxo;have:x=wr.heap.size:=by simpa [Qu] using hxo
    have:=hs x hm;omega
  have hrb:rb∉Qu p.lO:=fun hm=>hB2.nb rb (List.mem_append_left _ hm) List.mem_cons_self
  have hd2:Dr rb c L N (n+1+1+1) [b,b22,ba] w w9:=⟨hB2.d.r.call hxa hrb fun a ha=>by
   rcases h.ltc a ha with h3 | h3
   ·exact .inl fun hm=>by have:=hnew _ (List.mem_append_left _ hm); omega
   ·exact .inr h3,hB2.d.ext.fresh hxa fun x hm=>.inl (hnew x (List.mem_append_left _ hm)),hB2.d.new⟩
  have hdry:XR Pj 1 Yp w.heap.size wr2 p.dO p.dC B.dry:=(hB2.o.dry.ext hxa (hB2.o.dry.ty_ne hB2.o.loc (by decide))).ext hx2 fun x hm=>hnb2 x (List.mem_append_right _ hm)
  have hloc:XR Xh 1 Qb w.heap.size wr2 o' cap' (B.locals++[0]):=hown.ext hx2 hnbL;exact ⟨{ B with locals:=B.locals++[0] },{ p with lO:=o',lC:=cap' },by simp [Z2],QQ.bdv ⟨hloc,hdry⟩ (by simp; omega) (by show B.dry.length<=4; omega),(hd2.step hx2).fin (by omega)⟩
theorem zjf {α:Type} [Inhabited α] {enc:α->List Value} {z:Nat} {bs:List Nat} {w:World} {o:OA} {l:List α} {C:Nat} (h:Rd enc z bs w o l) (h1:1<=l.length) (hC:l.length<=C):Rd enc z bs w (if C=Int.toNat 1 then o else o.map (·.add (Int.toNat 1*z))) l.tail:=fun i i0 i1=>by
 have hl:l.tail.length=l.length - 1:=by simp
 rw [hl] at i1;have hc:=h (i+1) (by omega) (by omega)
 have e:gi l.tail i=gi l (i+1):=by
  obtain ⟨k,rfl⟩:=Int.eq_ofNat_of_zero_le i0;rw [Ju (by rw [hl]; omega),show ((k:Int)+1)=((k+1:Nat):Int) by omega,Ju (by omega)];simp
 rw [e,if_neg (by show ¬C=1; omega)];refine U6 fun j v hj => ?_
 obtain ⟨a,ha,hb,hcell⟩:=hc.get j v hj;refine ⟨a.add (Int.toNat 1*z),by rw [ha]; rfl,by rw [Zy]; exact hb,?_⟩;rw [Uc]
 have:Int.toNat 1*z+(Int.toNat i*z+j)=Int.toNat (i+1)*z+j:=by
  have:Int.toNat (i+1)=Int.toNat i+1:=by omega
  rw [this,Nat.succ_mul];show 1*z+_=_;omega
 rw [this]; exact hcell
def zm1 (rb:Nat) (c:OA) (L N:Nat) (w0:World) (v:Value) (w:World):Prop:=∃(W:Q7) (m:MW),v = .agg (Qa W m).toArray/\X4 W/\(∀ds:List Nat,(∀x∈ds,x<w0.heap.size)->Xo ds w W m)/\Jp rb c L (N+1500) w/\Q0 [rb] w0 w
section
variable {rb:Nat} {c:OA} {L N n q:Nat} {bs:List Nat} {w0 w w1 wr:World} {W W':Q7} {m:MW}
theorem X1.aft (h:X1 rb c L N n bs w0 w W m) (ltc:∀a,c=some a->a.block<w0.heap.size\/L=0) (hx1:Q0 (QF 8 m) w w1) (hx2:Q0 bs w1 wr) (hq:n<=q):Jp rb c L (N+q) wr/\Q0 [rb] w0 wr:=by
 have hnew:∀x∈QF 8 m,w0.heap.size<=x:=fun x hx=>(h.o.own.lt x hx).1
 have d2:Dr rb c L N n bs w0 w1:=⟨h.d.r.call hx1 (fun hm=>h.o.nb rb hm List.mem_cons_self) fun a ha=>by
  rcases ltc a ha with h3 | h3
  ·exact .inl fun hm=>by have:=hnew _ hm; omega
  ·exact .inr h3,h.d.ext.fresh hx1 fun x hm=>.inl (hnew x hm),h.d.new⟩
 exact (d2.step hx2).fin hq
theorem X1.btv (h:X1 rb c L N n bs w0 w W m) (ltc:∀a,c=some a->a.block<w0.heap.size\/L=0) (hl:X4 W') (hM:Y8 8 w0.heap.size w1 W' m) (hx1:Q0 (QF 8 m) w w1) (hx2:Q0 bs w1 wr) (hq:n<=1500):zm1 rb c L N w0 (.agg (Qa W' m).toArray) wr:=
 ⟨W',m,rfl,hl,fun ds hd=>(hM.ext hx2 fun x hx hm=>h.o.nb x hx (List.mem_cons_of_mem _ hm)).rd fun x hx hm=>by
  have:=(h.o.own.lt x hx).1;have:=hd x hm;omega,h.aft ltc hx1 hx2 hq⟩
theorem X1.rdn (h:X1 rb c L N n bs w0 w W m) (ds:List Nat) (hd:∀x∈ds,x<w0.heap.size):Xo ds w W m:=h.o.own.rd fun x hx hm=>by
 have:=(h.o.own.lt x hx).1;have:=hd x hm;omega
theorem X1.btv0 (h:X1 rb c L N n bs w0 w W m) (hx:Q0 bs w wr) (hq:n<=1500):zm1 rb c L N w0 (.agg (Qa W m).toArray) wr:=
 ⟨W,m,rfl,h.iv.len,(h.step hx).rdn,((h.step hx).d.fin hq)⟩
theorem zlj (h:X4 W) (i:Int) (x:TQ):X4 (setCp W i x):=⟨by show (List.set _ _ _).length<=_; rw [List.length_set]; exact h.c,h.t,h.g,h.f⟩
theorem zlk (h:X4 W) (i:Int) (x:Oi):X4 (setTk W i x):=⟨h.c,by show (List.set _ _ _).length<=_; rw [List.length_set]; exact h.t,h.g,h.f⟩
theorem Ed (h:X4 W) {i:Int} (i0:0<=i) (i1:i<(W.groups.length:Int)) {G:Z0} (hG:zg6 G):X4 (setGr W i G):=by
 have hl:(setGr W i G).groups.length=W.groups.length:=List.length_set;refine ⟨h.c,h.t,by rw [hl]; exact h.g,fun j a b => ?_⟩;rw [hl] at b;rw [Y4 i0 i1 a];split
 ·exact hG
 ·exact h.f j a b
theorem zl5 {base:Nat} (hM:Y8 8 base w W m) (hn:∀x∈QF 8 m,x∉bs) {g:Int} (g0:0<=g) (g8:g<8) {B:XS} {p:MG} (hl:zkb bs (sto w m.gO (Int.toNat g*14+8) (Z2 B p)) p.lO B.locals) (hd:zmq bs (sto w m.gO (Int.toNat g*14+8) (Z2 B p)) p.dO B.dry) :
  Xo bs (sto w m.gO (Int.toNat g*14+8) (Z2 B p)) (setBd W g B) (T3 m g.toNat (TF (m.ms g.toNat) p)):=by
 have hgl:=hM.len;have hx:Q0 (Qu m.gO) w (sto w m.gO (Int.toNat g*14+8) (Z2 B p)):=hM.g.row.stoX _ _;have hrow:=hM.g.row.sto Yy.len g0 (by rw [YW]; omega) (j:=8) (vs:=Z2 B p) (x:=({ gi W.groups g with band:=B },TF (m.ms g.toNat) p)) (by rw [Uz g0 (by omega)]; rfl) (by show 8+5<=14; decide);rw [<-Cv g0 (by omega)] at hrow;have hrow:XR Tf 14 QH base (sto w m.gO (Int.toNat g*14+8) (Z2 B p)) m.gO m.gC (zgn (setBd W g B) (T3 m g.toNat (TF (m.ms g.toNat) p))):=hrow;have hps:(setBd W g B).groups.length=8:=by show (List.set _ _ _).length=_; rw [List.length_set]; exact hgl
 have e1:∀i:Int,0<=i->gi (setBd W g B).groups i=if g=i then { gi W.groups g with band:=B } else gi W.groups i:=fun i a=>Y4 g0 (by omega) a
 have e2:∀i:Int,0<=i->(T3 m g.toNat (TF (m.ms g.toNat) p)).ms i.toNat=if g=i then TF (m.ms g.toNat) p else m.ms i.toNat:=fun i a=>by
  show (if g.toNat=i.toNat then _ else _)=_
  by_cases e:g=i
  ·rw [if_pos e,if_pos (by omega)]
  ·rw [if_neg e,if_neg (by omega)]
 refine ⟨(hM.c.ext hx (hM.c.ty_ne hM.g.row (by decide))).rd Ma.len fun x hx=>hn x (GM hx),(hM.t.ext hx (hM.t.ty_ne hM.g.row (by decide))).rd Te.len fun x hx=>hn x (GO hx),⟨fun i i0 i1 => ?_,fun i i0 i1 => ?_,fun i i0 i1 => ?_,fun i i0 i1 => ?_⟩⟩
 ·have:=hrow.rd Yy.len (bs:=bs) (fun x hx=>hn x (GN hx)) i i0 (by rw [YW]; exact i1)
  rwa [Uz i0 i1] at this
 all_goals
  rw [hps] at i1;rw [e1 i i0,e2 i i0]
  have hi:=(hM.each i0 (by omega)).ext hx (by
   have:=Xj hM.g.row (hM.g.each i i0 (by rw [YW]; omega))
   rwa [Uz i0 (by omega)] at this)
  split
 ·exact hl
 ·exact hi.loc.rd ZO.len fun x hx=>hn x (J1 (k:=i.toNat) (by omega) (by simp [Qp,hx]))
 ·exact hd
 ·exact hi.dry.rd YO.len fun x hx=>hn x (J1 (k:=i.toNat) (by omega) (by simp [Qp,hx]))
 ·rename_i e;subst e;exact hi.shl.rd UO.len fun x hx=>hn x (J1 (k:=g.toNat) (by omega) (by simp [Qp,hx]))
 ·exact hi.shl.rd UO.len fun x hx=>hn x (J1 (k:=i.toNat) (by omega) (by simp [Qp,hx]))
end
theorem zpx {v:Int} {k:Nat} {ls:List Value} {P:ByteArray->Prop} (ha:ls.all (fun | .string s=>decide (s.size<=1000) | _=>false)=true) (hl:ls.length=k) (h0:0<=v) (h1:v<(k:Int)) (h:∀x,x.size<=1000->P x):∃x:ByteArray,(0<=v/\ls[Int.toNat v+0]? = some (.string x))/\P x:=by
 have hlt:Int.toNat v+0<ls.length:=by omega
 have:=List.all_eq_true.1 ha _ (List.getElem_mem hlt);have e:=List.getElem?_eq_getElem hlt;generalize ls[Int.toNat v+0]=y at this e
 split at this
 ·exact ⟨_,⟨h0,e⟩,h _ (of_decide_eq_true this)⟩
 ·cases this
set_option maxHeartbeats 8000000 in
theorem zns {rb:Nat} {c:OA} {L N:Nat} {w:World} (h:Jp rb c L N w) (hN:N<=500000000000) :
  Cz Xr #[.pointer (some ⟨rb,0,none⟩)] w fun e w'=>∃v,e = .returned v/\zm1 rb c L N w v w':=by
 refine Lb (some ⟨rb,0,none⟩) (R:=fun v w'=>zm1 rb c L N w v w') ?_;intro b hb wr hx hs;have h1:=(Dr.start h).put hx hb;refine (zlg h1.r.rd (by omega)).mono ?_;rintro e2 w2 ⟨W,m,he2,iv,hM,hr,hxp,hne⟩;have hK:=X1.ofPlay h1 hs iv hM hr hxp hne;refine ⟨_,_,_,_,_,_,_,_,_,_,he2,Oe h1.r hxp hs,fun b1 hb1 wr1 hx1 hs1 => ?_⟩;refine ((hK.put hx1 hb1).pick (by omega) hs1).mono ?_;rintro e3 w3 ⟨v3,he3,hk3,_,hK3⟩;refine ⟨_,he3,hk3,fun _ wr hx=>hK3.btv0 hx (by decide),fun _ wr3 hx3 hs3 => ?_⟩;refine ((hK3.step hx3).pick (by omega) hs3).mono ?_;rintro e4 w4 ⟨c1,he4,hk4,⟨c10,_,c12⟩,hK4⟩;have ha:=iv.wp.a;have hc1:=ha.c1;have hc4:=ha.c2;have htl:=ha.t;have hgl:=ha.gl;have c12:=c12 (by omega);refine ⟨_,he4,hk4,fun wr4 hx4 hs4 => ?_⟩;refine ((hK4.step hx4).pick (by omega) hs4).mono ?_;rintro e5 w5 ⟨t,he5,hk5,⟨t0,_,t2⟩,hK5⟩;have t2:=t2 (by decide);refine ⟨_,he5,hk5,fun wr5 hx5 hs5 => ?_⟩;refine ((hK5.step hx5).pick (by omega) hs5).mono ?_;rintro e6 w6 ⟨g,he6,hk6,⟨g0,_,g2⟩,hK6⟩;have g2:=g2 (by decide);refine ⟨_,he6,hk6,fun wr6 hx6 hs6 => ?_⟩;refine ((hK6.step hx6).pick (by omega) hs6).mono ?_;rintro e7 w7 ⟨k,he7,hk7,_,hS⟩;clear hK3 hK4 hK5 hK6 hK hM hr hxp he2 he3 he4 he5 he6 hk3 hk4 hk5 hk6 hx1 hx3 hx4 hx5 hx6 hs1 hs3 hs4 hs5 hs6 h1 hne;refine ⟨_,he7,hk7,?_⟩;have lc:=h.ltc;have ltc:∀a,c=some a->a.block<w.heap.size\/L=0:=lc;have hl:=iv.len;have t1:t<(W.tasks.length:Int):=by omega
 have g1:g<(W.groups.length:Int):=by omega
 have g8:g<((8:Nat):Int):=by omega
 have hix:∀{n:Nat} {w':World},X1 rb c L N n [b,b1] w w' W m->Ix m.cO W.cpus.length c1:=fun h=>h.rd.c.ix ZZ c10 c12
 have hit:∀{n:Nat} {w':World},X1 rb c L N n [b,b1] w w' W m->Ix m.tO W.tasks.length t:=fun h=>h.rd.t.ix QJ t0 t1
 have hig:∀{n:Nat} {bs:List Nat} {w':World},X1 rb c L N n bs w w' W m->Ix m.gO W.groups.length g:=fun h=>h.rd.g.ix g0 g1
 have nb:∀{n:Nat} {bs:List Nat} {w':World},X1 rb c L N n bs w w' W m->∀x∈QF 8 m,x∉bs:=fun h x hx hm=>h.o.nb x hx (List.mem_cons_of_mem _ hm)
 have hrd:∀{w':World},X1 rb c L N (0+1100+1+1+1+1+1) [b,b1] w w' W m->Xo [b,b1] w' W m:=fun h=>h.o.own.rd (nb h)
 have fC:∀{n:Nat} {bs:List Nat} {w' wr:World} {j:Nat} {vs:List Value} (x:TQ),X1 rb c L N n bs w w' W m->n<=1500->Pk x=(Pk (gi W.cpus c1)).take j++vs++(Pk (gi W.cpus c1)).drop (j+vs.length)->j+vs.length<=5->Q0 bs (sto w' m.cO (Int.toNat c1*5+j) vs) wr->zm1 rb c L N w (.agg (Qa (setCp W c1 x) m).toArray) wr:=fun x h hn he hj hx=>h.btv ltc (zlj hl c1 x) (h.o.own.stoC c10 c12 he hj) Ny hx hn
 have fT:∀{n:Nat} {bs:List Nat} {w' wr:World} {j:Nat} {vs:List Value} (x:Oi),X1 rb c L N n bs w w' W m->n<=1500->Yz x=(Yz (gi W.tasks t)).take j++vs++(Yz (gi W.tasks t)).drop (j+vs.length)->j+vs.length<=9->Q0 bs (sto w' m.tO (Int.toNat t*9+j) vs) wr->zm1 rb c L N w (.agg (Qa (setTk W t x) m).toArray) wr:=fun x h hn he hj hx=>h.btv ltc (zlk hl t x) (h.o.own.stoT t0 t1 he hj) MD hx hn
 have fG:∀{n:Nat} {bs:List Nat} {w' wr:World} {j:Nat} {vs:List Value} (G:Z0),X1 rb c L N n bs w w' W m->n<=1500->zg6 G->G.band=(gi W.groups g).band->G.shelves=(gi W.groups g).shelves->Yq G (m.ms g.toNat)=(Yq (gi W.groups g) (m.ms g.toNat)).take j++vs++(Yq (gi W.groups g) (m.ms g.toNat)).drop (j+vs.length)->j+vs.length<=14->Q0 bs (sto w' m.gO (Int.toNat g*14+j) vs) wr->zm1 rb c L N w (.agg (Qa (setGr W g G) m).toArray) wr:=fun G h hn hf hb hsh he hj hx=>h.btv ltc (Ed hl g0 g1 hf) (h.o.own.stoG0 g0 g8 (by rw [hb]) (by rw [hb]) hsh he hj) Hd hx hn
 have eC:∀x:TQ,Qa (setCp W c1 x) m=Qa W m:=fun x=>by simp [Qa,setCp]
 have eT:∀x:Oi,Qa (setTk W t x) m=Qa W m:=fun x=>by simp [Qa,setTk]
 have eG:∀x:Z0,Qa (setGr W g x) m=Qa W m:=fun x=>by simp [Qa,setGr]
 have hfg:=hl.f g g0 g1
 have hv:0<=(Q8 W t).v/\(Q8 W t).v<=100000000000000000:=by
  rcases iv.wp.t t t0 (by omega) with hz | ⟨_,hx⟩
  ·rw [hz.2]; decide
  ·exact ZR.1 hx.v
 have hlm:=ZD 1;refine ⟨fun _=>⟨hix hS,_,(hrd hS).c.f c10 c12 (j:=0) rfl,hix hS,zg4 hS.o.own (nb hS) c10 c12 (j:=0) (by decide),fun wr hx => ?_⟩,fun _=>⟨fun _ wr hx hs => ?_,fun _=>⟨fun _ wr hx hs => ?_,fun _=>⟨fun _ wr hx hs => ?_,fun _=>⟨fun _ wr hx hs => ?_,fun _=>⟨fun _ wr hx hs => ?_,fun _=>⟨fun _=>⟨hit hS,_,(hrd hS).t.f t0 t1 (j:=5) rfl,_,Tu,⟨by show _<=(Q8 W t).v+_; omega,by show (Q8 W t).v+_<=_; omega⟩,hit hS,CS hS.o.own (nb hS) t0 t1 (j:=5) (by decide),fun wr hx => ?_⟩,fun _=>⟨fun _=>⟨hit hS,CS hS.o.own (nb hS) t0 t1 (j:=3) (by decide),fun wr hx => ?_⟩,fun _=>⟨fun _=>⟨hit hS,CS hS.o.own (nb hS) t0 t1 (j:=4) (by decide),fun wr hx => ?_⟩,fun _=>⟨fun _=>⟨⟨by omega,by omega,by have:=hS.o.own.t.le; omega⟩,fun wr hx => ?_⟩,fun _=>⟨fun _=>⟨hig hS,_,(hrd hS).g.used g0 g1,hig hS,NB hS.o.own (nb hS) g0 g8 (j:=0) (by decide),fun wr hx => ?_⟩,fun _=>⟨fun _ wr hx hs => ?_,fun _=>⟨fun _=>⟨fun b2 hb2=>⟨rfl,fun wr hx hs => ?_⟩,fun wr hx hs => ?_⟩,fun _=>⟨fun _ wr hx hs => ?_,fun _=>⟨fun _ wr hx hs => ?_,fun _=>⟨fun _ wr hx hs => ?_,fun _=>⟨fun _ wr hx hs => ?_,fun _=>⟨fun _=>⟨hig hS,_,_,_,(hrd hS).g.shelf g0 g1,fun hlc => ?_,fun _ wr hx=>hS.btv0 hx (by decide)⟩,fun _=>⟨fun _=>⟨hig hS,_,_,_,(hrd hS).g.shelf g0 g1,fun hlc => ?_,fun _ wr hx=>hS.btv0 hx (by decide)⟩,fun _=>⟨fun _ wr hx hs => ?_,fun _ wr hx=>hS.btv0 hx (by decide)⟩⟩⟩⟩⟩⟩⟩⟩⟩⟩⟩⟩⟩⟩⟩⟩⟩⟩⟩⟩
 case refine_1=>
  have:=fC { gi W.cpus c1 with up := !(gi W.cpus c1).up } hS (by decide) rfl (by show 0+1<=5; decide) hx
  rwa [eC] at this
 case refine_2=>
  refine ((hS.step hx).pick (by omega) hs).mono ?_;rintro e w8 ⟨v,he,hk,⟨p0,_,p2⟩,hP⟩;have p2:=p2 (by decide);refine ⟨_,he,hk,rfl,⟨by omega,by omega⟩,hix hP,zg4 hP.o.own (nb hP) c10 c12 (j:=1) (by decide),fun wr hx => ?_⟩;have:=fC { gi W.cpus c1 with cur:=v - 2 } hP (by decide) rfl (by show 1+1<=5; decide) hx
  rwa [eC] at this
 case refine_3=>
  refine ((hS.step hx).pick (by omega) hs).mono ?_;rintro e w8 ⟨v,he,hk,_,hP⟩;refine ⟨_,he,hk,rfl,hix hP,zg4 hP.o.own (nb hP) c10 c12 (j:=2) (by decide),fun wr hx => ?_⟩;have:=fC { gi W.cpus c1 with ran:=v } hP (by decide) rfl (by show 2+1<=5; decide) hx
  rwa [eC] at this
 case refine_4=>
  refine ((hS.step hx).pick (by omega) hs).mono ?_;rintro e w8 ⟨v,he,hk,_,hP⟩;refine ⟨_,he,hk,rfl,hit hP,CS hP.o.own (nb hP) t0 t1 (j:=0) (by decide),fun wr hx => ?_⟩;have:=fT { gi W.tasks t with state:=v } hP (by decide) rfl (by show 0+1<=9; decide) hx
  rwa [eT] at this
 case refine_5=>
  refine ((hS.step hx).pick (by omega) hs).mono ?_;rintro e w8 ⟨v,he,hk,⟨p0,_,p2⟩,hP⟩;have p2:=p2 (by decide);refine ⟨_,he,hk,rfl,⟨by omega,by omega⟩,hit hP,CS hP.o.own (nb hP) t0 t1 (j:=1) (by decide),fun wr hx => ?_⟩;have:=fT { gi W.tasks t with group:=v - 1 } hP (by decide) rfl (by show 1+1<=9; decide) hx
  rwa [eT] at this
 case refine_6=>
  refine ((hS.step hx).pick (by omega) hs).mono ?_;rintro e w8 ⟨v,he,hk,⟨p0,_,p2⟩,hP⟩;have p2:=p2 (by decide);refine ⟨_,he,hk,rfl,⟨by omega,by omega⟩,hit hP,CS hP.o.own (nb hP) t0 t1 (j:=2) (by decide),fun wr hx => ?_⟩;have:=fT { gi W.tasks t with cpu:=v - 1 } hP (by decide) rfl (by show 2+1<=9; decide) hx
  rwa [eT] at this
 case refine_7=>
  have:=fT { gi W.tasks t with v:=(gi W.tasks t).v+Zs 1 } hS (by decide) rfl (by show 5+1<=9; decide) hx
  rwa [eT] at this
 case refine_8=>
  have:=fT { gi W.tasks t with nice:=10 } hS (by decide) rfl (by show 3+1<=9; decide) hx
  rwa [eT] at this
 case refine_9=>
  have:=fT { gi W.tasks t with mask:=0 } hS (by decide) rfl (by show 4+1<=9; decide) hx
  rwa [eT] at this
 case refine_10=>
  have hK:=hS.step hx;have hr:=hK.rdn;have hle:=hS.o.own.t.le;refine ⟨{ W with tasks:=W.tasks.tail },{ m with tO:=if m.tC=Int.toNat 1 then m.tO else m.tO.map (·.add (Int.toNat 1*9)),tC:=m.tC - Int.toNat 1 },?_,⟨hl.c,by show W.tasks.tail.length<=_; have:=hl.t; simp; omega,hl.g,hl.f⟩,fun ds hd=>⟨(hr ds hd).c,zjf (hr ds hd).t (by omega) hle,(hr ds hd).g⟩,hK.d.fin (by decide)⟩;simp [Qa]
 case refine_11=>
  have:=fG { gi W.groups g with used := !(gi W.groups g).used } hS (by decide) ⟨hfg.nm,hfg.nx,hfg.lo,hfg.dr,hfg.sh⟩ rfl rfl rfl (by show 0+1<=14; decide) hx
  rwa [eG] at this
 case refine_12=>
  refine ((hS.step hx).pick (by omega) hs).mono ?_;rintro e w8 ⟨v,he,hk,⟨p0,_,p2⟩,hP⟩;have p2:=p2 (by decide);refine ⟨_,he,hk,rfl,⟨by omega,by omega⟩,hig hP,NB hP.o.own (nb hP) g0 g8 (j:=1) (by decide),fun wr hx => ?_⟩;have:=fG { gi W.groups g with parent:=v - 1 } hP (by decide) ⟨hfg.nm,hfg.nx,hfg.lo,hfg.dr,hfg.sh⟩ rfl rfl rfl (by show 1+1<=14; decide) hx
  rwa [eG] at this
 case refine_13=>
  refine ((hS.put hx hb2).pick (by omega) hs).mono ?_;rintro e w8 ⟨v,he,hk,⟨p0,_,p2⟩,hP⟩;have p2:=p2 (by decide);refine ⟨_,he,hk,rfl,⟨by omega,by omega⟩,zpx (by decide) rfl (by omega) (by omega) fun x hxs=>⟨hig hP,NB hP.o.own (nb hP) g0 g8 (j:=2) (by decide),fun wr hx => ?_⟩⟩;have hm:=Zp;have:=fG { gi W.groups g with name:=x } hP (by decide) ⟨by show x.size<=_; omega,hfg.nx,hfg.lo,hfg.dr,hfg.sh⟩ rfl rfl rfl (by show 2+1<=14; decide) hx
  rwa [eG] at this
 case refine_14=>
  refine ((hS.step hx).pick (by omega) hs).mono ?_;rintro e w8 ⟨v,he,hk,⟨p0,_,p2⟩,hP⟩;have p2:=p2 (by decide);refine ⟨_,he,hk,rfl,fun b3 hb3=>⟨rfl,⟨by omega,by omega⟩,zpx (by decide) rfl (by omega) (by omega) fun x hxs=>⟨hig hP,NB hP.o.own (nb hP) g0 g8 (j:=2) (by decide),fun wr hx => ?_⟩⟩⟩;have hm:=Zp;have:=fG { gi W.groups g with name:=x } hP (by decide) ⟨by show x.size<=_; omega,hfg.nx,hfg.lo,hfg.dr,hfg.sh⟩ rfl rfl rfl (by show 2+1<=14; decide) hx
  rwa [eG] at this
 case refine_15=>
  refine ((hS.step hx).pick (by omega) hs).mono ?_;rintro e w8 ⟨v,he,hk,_,hP⟩;refine ⟨_,he,hk,rfl,hig hP,NB hP.o.own (nb hP) g0 g8 (j:=3) (by decide),fun wr hx => ?_⟩;have:=fG { gi W.groups g with weight:=v } hP (by decide) ⟨hfg.nm,hfg.nx,hfg.lo,hfg.dr,hfg.sh⟩ rfl rfl rfl (by show 3+1<=14; decide) hx
  rwa [eG] at this
 case refine_16=>
  refine ((hS.step hx).pick (by omega) hs).mono ?_;rintro e w8 ⟨v,he,hk,⟨p0,_,p2⟩,hP⟩;have p2:=p2 (by decide);refine ⟨_,he,hk,rfl,⟨by omega,by omega⟩,hig hP,NB hP.o.own (nb hP) g0 g8 (j:=4) (by decide),fun wr hx => ?_⟩;have:=fG { gi W.groups g with cpus:=v - 1 } hP (by decide) ⟨hfg.nm,hfg.nx,hfg.lo,hfg.dr,hfg.sh⟩ rfl rfl rfl (by show 4+1<=14; decide) hx
  rwa [eG] at this
 case refine_17=>
  refine ((hS.step hx).pick (by omega) hs).mono ?_;rintro e w8 ⟨v,he,hk,⟨p0,_,p2⟩,hP⟩;have p2:=p2 (by decide);refine ⟨_,he,hk,rfl,hig hP,NB hP.o.own (nb hP) g0 g8 (j:=6) (by decide),fun wr hx => ?_⟩;have:=fG { gi W.groups g with next:=v } hP (by decide) ⟨hfg.nm,⟨by show _<=v; omega,by show v<=_; omega⟩,hfg.lo,hfg.dr,hfg.sh⟩ rfl rfl rfl (by show 6+1<=14; decide) hx
  rwa [eG] at this
 case refine_18=>
  have hQ:=hS.step hx;refine (znr hQ.d.r.rd (by omega)).mono ?_;rintro e w8 ⟨B,p,he,hB,hr,hy⟩;have hP:=hQ.drawn hr hy;refine ⟨_,_,_,_,_,_,_,_,_,he,Oe hQ.d.r hy hs,rfl,hig hP,NB hP.o.own (nb hP) g0 g8 (j:=8) (by decide),fun wr2 hx2 => ?_⟩;have hsx:Q0 (QF 8 m) w8 (sto w8 m.gO (Int.toNat g*14+8) (Z2 B p)):=Hd
  have hR2:∀ds:List Nat,(∀x∈ds,x<w.heap.size)->Xo ds wr2 (setBd W g B) (T3 m g.toNat (TF (m.ms g.toNat) p)):=fun ds hd=>by
   have hz:=hQ.d.ext.size
   have hb2:∀x∈QF 8 m++([b,b1]++ds),x<wr.heap.size:=fun x hm=>by
    rcases List.mem_append.1 hm with h1 | h1
    ·exact (hQ.o.own.lt x h1).2
    ·rcases List.mem_append.1 h1 with h2 | h2
     ·exact hs x h2
     ·have:=hd x h2; omega
   have hsm:∀x∈[b,b1]++ds,x∈QF 8 m++([b,b1]++ds):=fun x hm=>List.mem_append_right _ hm
   have hsx2:Q0 (QF 8 m++([b,b1]++ds)) w8 (sto w8 m.gO (Int.toNat g*14+8) (Z2 B p)):=hsx.mono fun x hm=>List.mem_append_left _ hm
   have hnb:∀x∈QF 8 m,x∉[b,b1]++ds:=fun x hx hm=>by
    rcases List.mem_append.1 hm with h2 | h2
    ·exact nb hP x hx h2
    ·have:=(hP.o.own.lt x hx).1;have:=hd x h2;omega
   have hR:=zl5 hP.o.own hnb g0 g8 (B:=B) (p:=p) (((hB.rl _ hb2).ext hsx2).less hsm) (((hB.rd _ hb2).ext hsx2).less hsm);exact (hR.ext (hx2.mono fun x hm=>List.mem_append_left _ hm)).less fun x hm=>List.mem_append_right _ hm
  have hm:=Zp;have hl5:=hB.ll;have hl4:=hB.dl;refine ⟨setBd W g B,T3 m g.toNat (TF (m.ms g.toNat) p),?_,Ed hl g0 g1 ⟨hfg.nm,hfg.nx,by show B.locals.length<=_; omega,by show B.dry.length<=_; omega,hfg.sh⟩,hR2,hP.aft ltc hsx hx2 (by decide)⟩;simp [Qa,setBd,setGr,T3]
 case refine_19=>
  have hlc:=of_decide_eq_true hlc;have hrs:=(hrd hS).g.shelves g g0 g1;refine ⟨hig hS,_,_,_,(hrd hS).g.shelf g0 g1,hig hS,_,_,_,(hrd hS).g.shelf g0 g1,hrs.ix ZK c10 hlc,_,hrs.f c10 hlc (j:=1) rfl,hrs.ix ZK c10 hlc,zm0 hS.o.own (nb hS) g0 g8 c10 hlc (j:=1) (by decide),fun wr hx => ?_⟩;have hM:=hS.o.own.stoS (i:=g) (c:=c1) g0 g8 c10 hlc (j:=1) (vs:=[.bool (!(Qc W g c1).on)]) (x:={ Qc W g c1 with on := !(Qc W g c1).on }) rfl (by show 1+1<=5; decide);have:=hS.btv (W':=setSh W g c1 { Qc W g c1 with on := !(Qc W g c1).on }) ltc (Ed hl g0 g1 ⟨hfg.nm,hfg.nx,hfg.lo,hfg.dr,by show (List.set _ _ _).length<=_; rw [List.length_set]; exact hfg.sh⟩) hM (E3 (by omega)) hx (by decide)
  rwa [show Qa (setSh W g c1 { Qc W g c1 with on := !(Qc W g c1).on }) m=Qa W m from eG _] at this
 case refine_20=>
  have hlc:=of_decide_eq_true hlc;have hrs:=(hrd hS).g.shelves g g0 g1;have hp:=ZR.1 (iv.wp.s g c1 g0 (by omega) c10 hlc).f;refine ⟨hig hS,_,_,_,(hrd hS).g.shelf g0 g1,hig hS,_,_,_,(hrd hS).g.shelf g0 g1,hrs.ix ZK c10 hlc,(Qc W g c1).floor,hrs.f c10 hlc (j:=0) rfl,⟨by omega,by omega⟩,hrs.ix ZK c10 hlc,zm0 hS.o.own (nb hS) g0 g8 c10 hlc (j:=0) (by decide),fun wr hx => ?_⟩;have hM:=hS.o.own.stoS (i:=g) (c:=c1) g0 g8 c10 hlc (j:=0) (vs:=[.int .i64 ((Qc W g c1).floor+1)]) (x:={ Qc W g c1 with floor:=(Qc W g c1).floor+1 }) rfl (by show 0+1<=5; decide);have:=hS.btv (W':=setSh W g c1 { Qc W g c1 with floor:=(Qc W g c1).floor+1 }) ltc (Ed hl g0 g1 ⟨hfg.nm,hfg.nx,hfg.lo,hfg.dr,by show (List.set _ _ _).length<=_; rw [List.length_set]; exact hfg.sh⟩) hM (E3 (by omega)) hx (by decide)
  rwa [show Qa (setSh W g c1 { Qc W g c1 with floor:=(Qc W g c1).floor+1 }) m=Qa W m from eG _] at this
 case refine_21=>
  have hQ:=hS.step hx;refine (znu hQ.o.own iv).mono ?_;rintro e w8 ⟨V,he,hlV,hMV,hxV⟩;refine ⟨_,_,_,_,_,_,_,_,_,_,he,hxV.kept fun x hm=>⟨hs x hm,fun hm2=>nb hQ x hm2 hm⟩,fun wr2 hx2=>hQ.btv ltc hlV hMV hxV hx2 (by decide)⟩
structure Bx (rb:Nat) (c:OA) (L N:Nat) (bs:List Nat) (w0 w:World) (W:Q7) (m:MW):Prop where
 ln:X4 W
 rd:Xo (rb::bs) w W m
 r:RS rb c L N bs w
 s:Sc w0 (rb::bs) w
section
variable {rb b b2:Nat} {c:OA} {L C N:Nat} {bs:List Nat} {w0 w w':World} {W W':Q7} {m m':MW}
theorem Bx.step (h:Bx rb c L N bs w0 w W m) (hx:Q0 bs w w'):Bx rb c L N bs w0 w' W m:=⟨h.ln,h.rd.ext (hx.mono fun _ hm=>List.mem_cons_of_mem _ hm),h.r.step hx,h.s.stepB hx⟩
theorem Bx.rd0 (h:Bx rb c L N bs w0 w W m):Xo [] w W m:=h.rd.less (by simp)
theorem zle (h:Hm c L w0) (hC:L<=C) (hx:Q0 [] w0 w) (hn:∀x∈bs,w0.heap.size<=x) (hs:∀x∈bs,x<w.heap.size) :
  Cz JC #[.slice c L C] w fun e wv=>∃rb c' L',e = .returned (.pointer (some ⟨rb,0,none⟩))/\Q9 bs w wv/\RS rb c' L' 0 bs wv/\Sc w0 (rb::bs) wv:=by
 refine (zcd (h.ext hx) hC).mono ?_;rintro e wv ⟨rb,c',L',he,hrb,hR,hx1,hblk⟩
 refine ⟨rb,c',L',he,Qf hx1 hs,⟨hR,fun hm=>by
  have:=hs rb hm;omega,fun a' ha' => ?_⟩,⟨hx.trans hx1,fun x hm => ?_⟩⟩
 ·rcases hblk a' ha' with h0 | ⟨h0,a,ha,hab⟩
  ·exact .inr h0
  ·refine .inl fun hm => ?_
   obtain ⟨a0,x0,ha0,_,_,h30⟩:=h 0 h0;have hlt2:=World.block_lt_of_cell? w0 _ h30;rw [Zy] at hlt2;rw [ha] at ha0; cases ha0;have:=hn _ hm;omega
 ·rcases List.mem_cons.1 hm with h1 | h1
  ·have:=hx.size; omega
  ·exact hn x h1
theorem zld (h:RS rb c L 0 bs w) (s:Sc w0 (rb::bs) w) (hs:∀x∈bs,x<w.heap.size) :
  Cz Xr #[.pointer (some ⟨rb,0,none⟩)] w fun e w'=>∃(W:Q7) (m:MW),e = .returned (.agg (Qa W m).toArray)/\Q9 bs w w'/\Bx rb c L 1500 bs w0 w' W m:=
 (zns h.rd (by decide)).mono fun e w' ⟨v,he,W,m,hv,hl,hr,hR,hx⟩=>⟨W,m,by rw [he,hv],Oe h hx hs,hl,hr _ fun x hm=>by
  rcases List.mem_cons.1 hm with h1 | h1
  ·rw [h1]; exact h.rd.lt
  ·exact hs x h1,h.upd (hR.mono (by decide)),s.stepR hx⟩
structure zpm (w0 w:World) (W:Q7) (m:MW):Prop where
 ln:X4 W
 rd:Xo [] w W m
 ext:Q0 [] w0 w
theorem Bx.dn (h:Bx rb c L N bs w0 w W m) (hx:Q0 bs w w'):zpm w0 w' W m:=⟨h.ln,(h.step hx).rd0,(h.step hx).s.ext⟩
theorem Ln (h:Hm c L w) (hC:L<=C) :
  Cz JR #[.slice c L C] w fun e w'=>∃(W:Q7) (m:MW),e = .returned (.slice m.gO W.groups.length m.gC)/\zpm w w' W m:=by
 refine (L5 c L C (R:=fun v w'=>∃(W:Q7) (m:MW),v = .slice m.gO W.groups.length m.gC/\zpm w w' W m) ?_).mono fun e w' ⟨v,he,W,m,hv,h1⟩=>⟨W,m,by rw [he,hv],h1⟩
 intro wr hx hs;refine (zle (bs:=[]) h hC hx (by simp) hs).mono ?_;rintro e wv ⟨rb,c',L',he,hk,hR,hS⟩;refine ⟨_,he,hk,fun wr1 hx1 hs1 => ?_⟩;refine (zld (hR.step hx1) (hS.stepB hx1) hs1).mono ?_;rintro e1 wv1 ⟨W,m,he1,hk1,hB⟩;exact ⟨_,_,_,_,_,_,_,_,_,_,he1,hk1,fun wr2 hx2=>⟨W,m,rfl,hB.dn hx2⟩⟩
end
def Xk:Nat->List Z0->Int->ByteArray
 | 0,_,_=>⟨[].toArray⟩
 | f+1,gs,g=>if g=0 then ⟨[].toArray⟩ else (Xk f gs (gi gs g).parent++⟨[47].toArray⟩)++(gi gs g).name
theorem JY (f:Nat) (gs:List Z0):Xk f gs 0=⟨[].toArray⟩:=by cases f <;> simp [Xk]
theorem zcq {gs:List Z0} (ht:Z6 gs):∀(f f':Nat) (h:Int),Q6 gs h=true->dep 3 gs h<=f->dep 3 gs h<=f'->Xk f gs h=Xk f' gs h:=by
 intro f
 induction f with
 | zero=>
  intro f' h hu h1 h2
  have hz:h=0:=Decidable.byContradiction fun hz=>by
   obtain ⟨_,_,_,d,e,_⟩:=Zl ht hu hz;omega
  subst hz;rw [JY,JY]
 | succ f ih=>
  intro f' h hu h1 h2
  by_cases hz:h=0
  ·subst hz;rw [JY,JY]
  ·obtain ⟨hp,_,_,d,e,e2,_⟩:=Zl ht hu hz
   cases f' with
   | zero=>omega
   | succ f'=>
    simp only [Xk];rw [ih f' (gi gs h).parent hp (by omega) (by omega)]
theorem FR {gs:List Z0} (ht:Z6 gs) {h:Int} (hu:Q6 gs h=true) (hz:h≠0):Xk 3 gs h=(Xk 3 gs (gi gs h).parent++⟨[47].toArray⟩)++(gi gs h).name:=by
 obtain ⟨hp,_,_,d,e,e2,hd⟩:=Zl ht hu hz;rw [<-zcq ht 2 3 (gi gs h).parent hp (by omega) (by omega)];have:Xk 3 gs h=if h=0 then ⟨[].toArray⟩ else (Xk 2 gs (gi gs h).parent++⟨[47].toArray⟩)++(gi gs h).name:=rfl;rw [this,if_neg hz]
theorem zej {gs:List Z0} (ht:Z6 gs) {h:Int} (hu:Q6 gs h=true):(gi gs h).name.size<=8:=by
 obtain ⟨a,b,u⟩:=Q4.1 hu;have hl:=ht.len
 by_cases hz:h=0
 ·subst hz; rw [ht.rn]; decide
 ·have:=ht.nm h (by omega) (by omega) u;exact (Vc.1 this).1.2
theorem zba (l:List UInt8):(ByteArray.mk l.toArray).size=l.length:=rfl
theorem B4:(ByteArray.mk [47].toArray).size=1:=rfl
theorem zap {gs:List Z0} (ht:Z6 gs):∀(f:Nat) (h:Int),Q6 gs h=true->(Xk f gs h).size<=9*f
 | 0,_,_=>by simp only [Xk]; rw [zba]; simp
 | f+1,h,hu=>by
  simp only [Xk]
  by_cases hz:h=0
  ·rw [if_pos hz,zba]; simp
  ·rw [if_neg hz];have h1:=zap ht f _ (Zl ht hu hz).1;have h2:=zej ht hu;rw [ByteArray.size_append,ByteArray.size_append,B4];omega
def M1 (gs:List Z0) (g:Int):ByteArray:=if g=0 then ⟨[47].toArray⟩ else Xk 3 gs g
def F5:Nat->List Z0->ByteArray->Int->Int
 | 0,_,_,_ => -1
 | f+1,gs,p,g=>if ((gi gs g).used&&QX (M1 gs g) p)=true then g else F5 f gs p (g+1)
noncomputable def ML (gs:List Z0) (p:ByteArray):Int:=if Yu gs=true then F5 8 gs p 0 else -1
def zf1 (gs:List Z0) (g:Int) (k:Nat):Bool:=(gi gs (k:Int)).used&&((gi gs (k:Int)).parent==g)
def VR (gs:List Z0) (g:Int) (k:Nat):List Int:=((List.range k).filter (zf1 gs g)).map fun (i:Nat)=>(i:Int)
theorem zf0 {gs:List Z0} {g:Int} {k:Nat} (h:zf1 gs g k=true):VR gs g (k+1)=VR gs g k++[(k:Int)]:=by
 unfold VR;rw [List.range_succ,List.filter_append]; simp [h]
theorem NN {gs:List Z0} {g:Int} {k:Nat} (h:zf1 gs g k=false):VR gs g (k+1)=VR gs g k:=by
 unfold VR;rw [List.range_succ,List.filter_append]; simp [h]
theorem zea (gs:List Z0) (g:Int) (k:Nat):(VR gs g k).length<=k:=by
 unfold VR;rw [List.length_map];have:=List.length_filter_le (zf1 gs g) (List.range k)
 simpa using this
theorem zim {gs:List Z0} {g:Int} {k:Nat} {x:Int} (h:x∈VR gs g k):0<=x/\x<(k:Int)/\(gi gs x).used=true:=by
 unfold VR at h;obtain ⟨i,hi,rfl⟩:=List.mem_map.1 h;obtain ⟨h1,h2⟩:=List.mem_filter.1 hi;have h1:=List.mem_range.1 h1;unfold zf1 at h2;simp only [Bool.and_eq_true] at h2;exact ⟨by omega,by omega,h2.1⟩
noncomputable def Fo (gs:List Z0) (g:Int):List Int:=if (Yu gs&&Q6 gs g)=true then VR gs g 8 else []
section
variable {gs:List Z0} {ms:Nat->MG} {o:OA} {c:Nat} {w:World}
theorem Ht {gs:List Z0} {nb:Int->Nat} {w:World} {bs:List Nat} (ht:Z6 gs) (h:Ns bs w gs nb) {x:Int} (hu:Q6 gs x=true):PX bs XK #[.pointer (some ⟨nb x,0,none⟩)] w (.string (M1 gs x)):=
 GV (some ⟨nb x,0,none⟩) fun wr hx=>by
  have h:=(h.ext hx).less (cs:=[]) (by simp);refine ⟨rfl,x,(h.node x hu).get 0 _ rfl,fun hz => ?_,fun hz => ?_⟩
  ·have hz:x=0:=by simpa using hz
   unfold M1; rw [if_pos hz]
  ·have hz:x≠0:=by simpa using hz
   have hle:=zap ht 3 x hu;have hpd:M1 gs x=Xk 3 gs x:=if_neg hz;rw [hpd];refine ⟨fun vs=>∃(y:Int) (s:ByteArray),Q6 gs y=true/\vs=[.pointer (some ⟨nb y,0,none⟩),.string s]/\Xk 3 gs y++s=Xk 3 gs x,fun vs=>(dep 3 gs (match vs with | [.pointer (some a),_]=>(match wr.cell? a with | some (.int _ z)=>z | _=>0) | _=>0)).toNat,⟨x,_,hu,rfl,by apply ByteArray.ext; simp⟩,?_⟩;rintro n1 s ⟨y,s',hy,he,hI⟩;simp only [List.cons.injEq,Value.string.injEq,Value.pointer.injEq,and_true] at he;obtain ⟨rfl,rfl⟩:=he;have hn:=h.node y hy
   have hcell:∀z:Int,Q6 gs z=true->wr.cell? ⟨nb z,0,none⟩=some (.int .i64 z):=fun z hz=>by
    obtain ⟨a,ha,_,hc⟩:=(h.node z hz).get 0 _ rfl;cases ha
    simpa [Addr.add] using hc
   refine ⟨rfl,y,hn.get 0 _ rfl,fun hz => ?_,fun hz => ?_⟩
   ·have hz:y≠0:=by simpa using hz
    obtain ⟨hp,a,b,d,e,e2,hd⟩:=Zl ht hy hz;have hm:CH gs nb y=some ⟨nb (gi gs y).parent,0,none⟩:=by unfold CH; rw [if_neg hz]
    have hsz:(Xk 3 gs y).size+s.size=(Xk 3 gs x).size:=by rw [<-hI,ByteArray.size_append]
    have hps:=FR ht hy hz;have h8:=zej ht hy;refine ⟨rfl,_,hn.get 1 _ rfl,?_,?_,rfl,_,hn.get 2 _ rfl,⟨(gi gs y).parent,_,hp,by rw [hm],?_⟩,?_⟩
    ·rw [B4]; omega
    ·rw [ByteArray.size_append,B4]; omega
    ·rw [<-hI,hps,ByteArray.append_assoc,ByteArray.append_assoc,ByteArray.append_assoc]
    ·rw [hm];simp only [hcell _ hp,hcell _ hy];omega
   ·have hz:y=0:=by simpa using hz
    subst hz;rw [JY] at hI;rw [<-hI]
    congr 1
theorem P7 {bs:List Nat} {p:ByteArray} (h:TS bs w o gs ms) (hl:gs.length<=maxLen):PX bs J8 #[.slice o gs.length c,.string p] w (.int .i64 (ML gs p)):=by
 refine OJ fun wr hx=>D9 o gs.length c p (R:=fun v w'=>v = .int .i64 (ML gs p)/\Q0 [] wr w') ?_
 have h:=(h.ext hx).less (cs:=[]) (by simp);intro w1 hx1 _;refine (C9 (h.ext hx1) hl).mono fun e w2 ⟨o',L,C,ok,he,hok,hx2,hno,hyes⟩=>⟨_,_,_,_,he,YT,?_⟩
 have hX2:=hx1.trans hx2
 cases hq:Yu gs with
 | false=>
  have hL:=hno (hok.trans hq);subst hL;have hF:ML gs p = -1:=by unfold ML; rw [hq]; rfl
  rw [hF];refine Vb 0 0 rfl (fun k w3=>k=0/\Q0 [] wr w3) (fun w3 hx3 _=>⟨rfl,hX2.trans hx3⟩) fun k w3 _ ⟨hk,hX⟩=>⟨fun hlt => ?_,fun _ w4 hx4=>⟨rfl,hX.trans hx4⟩⟩
  have hlt:=of_decide_eq_true hlt;subst hk;exact absurd hlt (by decide)
 | true=>
  obtain ⟨hL,pl,nb,hpl,hR,hP,hN⟩:=hyes (hok.trans hq);subst hL;have ht:=Y5.1 hq;have hl8:=ht.len;refine Vb 8 0 rfl (fun k w3=>k<=8/\Q0 [] w2 w3/\F5 (8 - k) gs p (k:Int)=ML gs p) (fun w3 hx3 _=>⟨Nat.zero_le _,hx3,by unfold ML; rw [if_pos hq]; rfl⟩) fun k w3 _ ⟨hk,hX,hF⟩=>⟨fun hlt => ?_,fun hge w4 hx4 => ?_⟩
  ·have hlt:=of_decide_eq_true hlt;have hk8:k<8:=by omega
   have hF':F5 (8 - k) gs p (k:Int)=if ((gi gs (k:Int)).used&&QX (M1 gs (k:Int)) p)=true then (k:Int) else F5 (8 - (k+1)) gs p ((k:Int)+1):=by
    rw [show 8 - k=(8 - (k+1))+1 by omega]; rfl
   have hc:=(hR.ext hX) (k:Int) (by omega) (by omega);refine ⟨by have:=(hR.ext hX).ix zhv (i:=(k:Int)) (by omega) (by omega); rwa [hpl] at this,_,hc,M1 gs (k:Int),fun hs => ?_,?_⟩
   ·rw [hP (k:Int) (by omega) (by omega)] at hs ⊢
    split at hs
    ·rename_i hu;rw [if_pos hu];exact Ht ht (hN.ext hX) (Q4.2 ⟨by omega,by omega,hu⟩)
    ·simp at hs
   ·have e:(!(gi pl (k:Int)).isNone)=(gi gs (k:Int)).used:=by
     rw [hP (k:Int) (by omega) (by omega)]
     cases hu:(gi gs (k:Int)).used <;> simp
    rw [e];refine ⟨fun g w4 hx4=>⟨by rw [<-hF,hF',if_pos g],(hX2.trans hX).trans hx4⟩,fun g=>⟨⟨by omega,by omega⟩,fun w4 hx4 _=>QN hk8 ⟨by omega,hX.trans hx4,by rw [<-hF,hF',if_neg (by rw [g]; decide)]; rfl⟩⟩⟩
  ·have hge:=of_decide_eq_false hge;have hk8:k=8:=by omega
   subst hk8;rw [<-hF]; exact ⟨rfl,(hX2.trans hX).trans hx4⟩
theorem Dx {g:Int} (h:TS [] w o gs ms) (hl:gs.length<=maxLen):Cz UP #[.slice o gs.length c,.int .i64 g] w fun e w'=>∃o' c',e = .returned (.slice o' (Fo gs g).length c')/\XR Xh 1 Qb w.heap.size w' o' c' (Fo gs g)/\Q0 [] w w':=by
 refine (Da o gs.length c g (R:=fun v w'=>∃o' c',v = .slice o' (Fo gs g).length c'/\XR Xh 1 Qb w.heap.size w' o' c' (Fo gs g)/\Q0 [] w w') ?_).mono fun e w' ⟨v,he,o',c',hv,h1⟩=>⟨o',c',by rw [he,hv],h1⟩
 refine ⟨_,Oc h hl,_,fun _=>X8 h hl,fun q wr hx => ?_,fun q => ?_⟩
 ·have:Fo gs g=[]:=if_neg (by cases h1:Yu gs <;> cases h2:Q6 gs g <;> simp_all);rw [this]; exact ⟨none,0,rfl,.inl ⟨rfl,rfl,rfl⟩,hx⟩
 ·simp only [Bool.or_eq_false_iff,Bool.not_eq_false'] at q;have ht:=Y5.1 q.1;have hl8:=ht.len;obtain ⟨g0,g1,_⟩:=Q4.1 q.2;have hD:Fo gs g=VR gs g 8:=if_pos (by rw [q.1,q.2]; rfl);rw [hD];refine ⟨fun vs w1=>∃(k:Nat) (o1:OA) (c1:Nat),vs=[.slice o1 (VR gs g k).length c1,.int .i64 (k:Int)]/\k<=8/\Q0 [] w w1/\XR Xh 1 Qb w.heap.size w1 o1 c1 (VR gs g k),Zm 8 1,fun wr hx _=>⟨0,none,0,rfl,by omega,hx,.inl ⟨rfl,rfl,rfl⟩⟩,?_⟩;rintro o1 L1 C1 x w1 hs1 ⟨k,o1',c1',he,hk,hX,hO⟩;simp only [List.cons.injEq,Value.int.injEq,Value.slice.injEq,true_and,and_true] at he;obtain ⟨⟨rfl,rfl,rfl⟩,rfl⟩:=he;have hr:=h.ext hX;refine ⟨fun hlt => ?_,fun hge wr hx => ?_⟩
  ·have hlt:=of_decide_eq_true hlt;have hk8:k<8:=by omega
   refine ⟨hr.ix (by omega) hlt,_,hr.used (by omega) hlt,fun _=>hr.ix (by omega) hlt,_,fun _=>hr.parent (by omega) hlt,fun q2 b hb wr2 hx2 hs2 hcell => ?_,fun q2=>⟨⟨by omega,by omega⟩,fun wr4 hx4 _=>⟨⟨k+1,o1,C1,by rw [NN q2]; simp,by omega,hX.trans hx4,by rw [NN q2]; exact hO.ext0 hx4⟩,QI (k:=k) rfl rfl hk8⟩⟩⟩
   have hob:Ob Xh 1 Qb w.heap.size [b] wr2 o1 C1 (VR gs g k):=⟨hO.ext0 hx2,fun y hy hm=>by
    have:=(hO.lt y hy).2;have:y=b:=by simpa using hm
    omega⟩
   have hle:=zea gs g k;obtain ⟨o2,c2,w2,hrun,hk2,hO3,hx3⟩:=hob.app1 ZO TK (x:=(k:Int)) hs2 (hX.trans hx2).size hcell rfl (by omega) (by decide) Zj #[false,false];rw [<-zf0 q2] at hrun hO3
   exact ⟨_,_,_,w2,hrun,hk2,⟨by omega,by omega⟩,fun wr3 hx4 _=>⟨⟨k+1,o2,c2,by simp,by omega,((hX.trans hx2).fresh hx3 fun x hm=>.inl (hO.lt x hm).1).fresh hx4 fun x hm=>.inl (by
    have:x=b:=by simpa using hm
    have:=hX.size;omega),(hO3.step hx4).own⟩,QI (k:=k) rfl rfl hk8⟩⟩
  ·have hge:=of_decide_eq_false hge;have:k=8:=by omega
   subst this;exact ⟨o1,C1,rfl,hO.ext0 hx,hX.trans hx⟩
end
end Go.Proofs.YtclpmgfpjeaibaaGreat
namespace Go.Proofs.YtclpmgfpjeaibaaGreat
open Go.RowKit Go.ChangeShapes
set_option linter.unusedVariables false
set_option linter.unusedSimpArgs false
set_option maxRecDepth 10000
theorem zmf:Tryz.prog.underlying VC=some (.int .u8):=by kernel_rfl
theorem u_sl_uint8:Tryz.prog.underlying ty_sl_uint8=some (.slice VC):=by kernel_rfl
theorem zkj:Tryz.prog.cellsOf VC=1:=by kernel_rfl
theorem op_bytes {H:Type} {en:TypeId×Value->H} {w:World} {base:Nat} {spare:Nat->Bool} {held:Bool} {fuel:Nat} {cs:List Value} {x:DataW H×List MemPlace} (h:DataW.trod en Tryz.prog w base spare held fuel ty_sl_uint8 cs=some x) :
  ∃(o:OA) (cap L:Nat),cs=[.slice o L cap]/\Hm o L w/\L<=cap:=by
 obtain ⟨o,len,cap,rfl,h1,_,h3⟩:=zjz u_sl_uint8 h;refine ⟨o,cap,len,rfl,fun i hi => ?_,h1⟩;obtain ⟨a,n,y,ec,ho,hc,ht⟩:=h3 i hi;rw [zkj,Nat.mul_one] at hc;obtain ⟨v,rfl,_,hw⟩:=DataW.trod_int zmf ht;have hv:0<=v/\v<=255:=by simpa [Lit.wf,IntKind.min,IntKind.max,IntKind.signed,IntKind.bits] using hw
 obtain ⟨_,_,hcell⟩:=World.cells?_some hc;have:=hcell 0 (by decide);rw [Uc,Nat.add_zero] at this;exact ⟨a,v,ho,hv.1,hv.2,this⟩
end Go.Proofs.YtclpmgfpjeaibaaGreat
namespace Go.Proofs.YtclpmgfpjeaibaaGreat
open Go.RowKit
set_option linter.unusedVariables false
set_option linter.unusedSimpArgs false
set_option maxRecDepth 10000
theorem CZ {x:UInt8}:∀{l m r s:List UInt8},l++x::r=m++x::s->x∉r->x∉s->l=m/\r=s
 | [],[],r,s,h,_,_=>by
  simp only [List.nil_append,List.cons.injEq,true_and] at h;exact ⟨rfl,h⟩
 | [],b::m,r,s,h,hr,_=>by
  simp only [List.nil_append,List.cons_append,List.cons.injEq] at h;exact absurd (by rw [h.2]; simp) hr
 | b::l,[],r,s,h,_,hs=>by
  simp only [List.nil_append,List.cons_append,List.cons.injEq] at h;exact absurd (by rw [<-h.2]; simp) hs
 | b::l,d::m,r,s,h,hr,hs=>by
  simp only [List.cons_append,List.cons.injEq] at h;obtain ⟨h1,h2⟩:=CZ h.2 hr hs;exact ⟨by rw [h.1,h1],h2⟩
def AF (s:ByteArray):List UInt8:=s.data.toList
theorem zds (a b:ByteArray):AF (a++b)=AF a++AF b:=by
 unfold AF;rw [ByteArray.data_append,Array.toList_append]
theorem zdt {a b:ByteArray} (h:AF a=AF b):a=b:=by
 cases a; cases b
 simp only [AF] at h
 congr 1
 exact Array.toList_inj.1 h
theorem AG (a:ByteArray):(AF a).length=a.size:=by
 unfold AF;rw [Array.length_toList]; rfl
theorem Fz {gs:List Z0} (ht:Z6 gs) {h:Int} (hu:Q6 gs h=true) (hz:h≠0):1<=(gi gs h).name.size/\(47:UInt8)∉AF (gi gs h).name:=by
 obtain ⟨a,b,u⟩:=Q4.1 hu;have hl:=ht.len;have hn:=Vc.1 (ht.nm h (by omega) (by omega) u);refine ⟨hn.1.1,fun hm => ?_⟩;obtain ⟨i,hi,he⟩:=List.getElem_of_mem hm;have hi2:i<(gi gs h).name.size:=by rw [AG] at hi; exact hi
 have hk:=hn.2.2 i hi2
 have:Xl (gi gs h).name (i:Int)=47:=by
  unfold Xl
  have hg:(gi gs h).name.data.getD (i:Int).toNat 0=47:=by
   rw [show (i:Int).toNat=i from rfl];have hi3:i<(gi gs h).name.data.size:=hi2;simp only [Array.getD,hi3,dite_true]
   simpa [AF] using he
  rw [hg]; rfl
 rw [this] at hk;exact absurd hk (by decide)
theorem OH {gs:List Z0} (ht:Z6 gs) {h:Int} (hu:Q6 gs h=true) (hz:h≠0):AF (Xk 3 gs h)=AF (Xk 3 gs (gi gs h).parent)++(47:UInt8)::AF (gi gs h).name:=by
 rw [FR ht hu hz,zds,zds,List.append_assoc]; rfl
theorem zgg {gs:List Z0} (ht:Z6 gs) {g:Int} (hu:Q6 gs g=true):∀h:Int,Q6 gs h=true->Xk 3 gs g=Xk 3 gs h->g=h:=by
 refine Jx ht (Q:=fun g=>∀h:Int,Q6 gs h=true->Xk 3 gs g=Xk 3 gs h->g=h) (fun h hv he => ?_) (fun g hu hz ih h hv he => ?_) g hu
 ·by_cases hz:h=0
  ·exact hz.symm
  ·have:=congrArg AF he;rw [OH ht hv hz,JY] at this;exact absurd (congrArg List.length this) (by simp [AF])
 ·by_cases hz2:h=0
  ·subst hz2;have:=congrArg AF he;rw [OH ht hu hz,JY] at this;exact absurd (congrArg List.length this) (by simp [AF])
  ·have h1:=congrArg AF he;rw [OH ht hu hz,OH ht hv hz2] at h1;obtain ⟨e1,e2⟩:=CZ h1 (Fz ht hu hz).2 (Fz ht hv hz2).2;have e3:=ih _ (Zl ht hv hz2).1 (zdt e1);have e4:=zdt e2;obtain ⟨a0,a1,a2⟩:=Q4.1 hu;obtain ⟨b0,b1,b2⟩:=Q4.1 hv;have hl:=ht.len;refine Decidable.byContradiction fun hne => ?_
   by_cases hlt:h<g
   ·exact ht.uniq g h (by omega) hlt (by omega) a2 b2 ⟨e3.symm,e4.symm⟩
   ·exact ht.uniq h g (by omega) (by omega) (by omega) b2 a2 ⟨e3,e4⟩
theorem Bd {gs:List Z0} (ht:Z6 gs) {h:Int} (hu:Q6 gs h=true) (hz:h≠0):2<=(Xk 3 gs h).size:=by
 have:=congrArg List.length (OH ht hu hz);rw [AG,List.length_append,List.length_cons,AG (gi gs h).name] at this;have:=(Fz ht hu hz).1;omega
theorem zj1 {gs:List Z0} (ht:Z6 gs) {h:Int} (hu:Q6 gs h=true):1<=(M1 gs h).size:=by
 unfold M1;split
 ·decide
 ·rename_i hz;have:=Bd ht hu hz;omega
theorem zmh {gs:List Z0} (ht:Z6 gs) {g h:Int} (hu:Q6 gs g=true) (hv:Q6 gs h=true) (he:M1 gs g=M1 gs h):g=h:=by
 unfold M1 at he
 split at he
 ·rename_i hz
  split at he
  ·rename_i hz2; rw [hz,hz2]
  ·rename_i hz2;have:=Bd ht hv hz2;rw [<-he] at this;exact absurd this (by decide)
 ·rename_i hz
  split at he
  ·have:=Bd ht hu hz;rw [he] at this;exact absurd this (by decide)
  ·exact zgg ht hu h hv he
theorem y8 {gs:List Z0} (ht:Z6 gs) {g:Int} (hu:Q6 gs g=true):∀(f:Nat) (k:Int),0<=k->k<=g->g<k+f->F5 f gs (M1 gs g) k=g
 | 0,k,_,h1,h2=>by omega
 | f+1,k,h0,h1,h2=>by
  simp only [F5];obtain ⟨a,b,u⟩:=Q4.1 hu
  by_cases e:k=g
  ·subst e;rw [if_pos (by rw [u,Xe.2 rfl]; rfl)]
  ·rw [if_neg]
   ·exact y8 ht hu f (k+1) (by omega) (by omega) (by omega)
   ·intro hh;simp only [Bool.and_eq_true] at hh;exact e (zmh ht (Q4.2 ⟨h0,by omega,hh.1⟩) hu (Xe.1 hh.2))
theorem zkt {gs:List Z0} (hq:Yu gs=true) {g:Int} (hu:Q6 gs g=true):ML gs (M1 gs g)=g:=by
 have ht:=Y5.1 hq;obtain ⟨a,b,u⟩:=Q4.1 hu;have hl:=ht.len;unfold ML;rw [if_pos hq];exact y8 ht hu 8 0 (by omega) a (by omega)
theorem Fi (gs:List Z0) (f:Nat) (g:Int):YJ f gs g g=true:=by
 cases f <;> simp [YJ]
theorem zh9 {gs:List Z0} (ht:Z6 gs) {g:Int} (hu:Q6 gs g=true):YJ 3 gs 0 g=true:=by
 refine Jx ht (Q:=fun g=>YJ 3 gs 0 g=true) (Fi _ _ _) (fun h hu hz ih => ?_) g hu;rw [T4 ht hu hz hz]; exact ih
theorem zk0 {gs:List Z0} (ht:Z6 gs) {a g:Int} (hu:Q6 gs g=true):YJ 3 gs a g=true->dep 3 gs a<=dep 3 gs g:=by
 refine Jx ht (Q:=fun g=>YJ 3 gs a g=true->dep 3 gs a<=dep 3 gs g) (fun h => ?_) (fun h hu hz ih hi => ?_) g hu
 ·have:(0:Int)=a:=by simpa [YJ] using h
  rw [this]; exact Int.le_refl _
 ·by_cases e:h=a
  ·rw [e]; exact Int.le_refl _
  ·rw [T4 ht hu hz e] at hi;obtain ⟨_,_,_,d,e1,e2,_⟩:=Zl ht hu hz;have:=ih hi;omega
theorem znx {gs:List Z0} {g:Int} {k:Nat} {x:Int} (h:x∈VR gs g k):(gi gs x).parent=g:=by
 unfold VR at h;obtain ⟨i,hi,rfl⟩:=List.mem_map.1 h;obtain ⟨_,h2⟩:=List.mem_filter.1 hi;unfold zf1 at h2;simp only [Bool.and_eq_true,beq_iff_eq] at h2;exact h2.2
theorem zkm {gs:List Z0} (ht:Z6 gs) {g:Int} (hu:Q6 gs g=true):0<=dep 3 gs g:=by
 by_cases hz:g=0
 ·subst hz; rw [ZN]; exact Int.le_refl _
 ·obtain ⟨_,_,_,d,e,_⟩:=Zl ht hu hz;omega
noncomputable def zok (gs:List Z0) (g:Int):Int:=if (Yu gs&&Q6 gs g)=true then dep 3 gs g else -1
section
variable {gs:List Z0} {ms:Nat->MG} {o:OA} {c:Nat} {w:World} {bs:List Nat}
theorem MP {g:Int} (h:TS [] w o gs ms) (hl:gs.length<=maxLen) :
  Cz Ug #[.slice o gs.length c,.int .i64 g] w fun e w'=>Q0 [] w w'/\(((Yu gs&&Q6 gs g)=false/\e = .returned (.pointer none))\/((Yu gs&&Q6 gs g)=true/\∃nb:Int->Nat,e = .returned (.pointer (some ⟨nb g,0,none⟩))/\Ns [] w' gs nb)):=by
 refine (BS o gs.length c g (R:=fun v w'=>Q0 [] w w'/\(((Yu gs&&Q6 gs g)=false/\v = .pointer none)\/((Yu gs&&Q6 gs g)=true/\∃nb:Int->Nat,v = .pointer (some ⟨nb g,0,none⟩)/\Ns [] w' gs nb))) ?_).mono ?_
 rotate_left
 ·rintro e w' ⟨v,he,hx,h1⟩;refine ⟨hx,?_⟩;rw [he];rcases h1 with ⟨a,b⟩ | ⟨a,nb,b,d⟩
  ·exact .inl ⟨a,by rw [b]⟩
  ·exact .inr ⟨a,nb,by rw [b],d⟩
 intro w1 hx1 _;refine (C9 (h.ext hx1) hl).mono fun e w2 ⟨o',L,C,ok,he,hok,hx2,hno,hyes⟩=>⟨_,_,_,_,he,YT,?_⟩
 have hX2:=hx1.trans hx2;have hr:=h.ext hX2;refine ⟨Q6 gs g,fun _=>X8 hr hl,fun q wr hx=>⟨hX2.trans hx,.inl ⟨?_,rfl⟩⟩,fun q => ?_⟩
 ·rw [hok] at q
  cases h1:Yu gs <;> cases h2:Q6 gs g <;> simp_all
 ·rw [hok] at q;simp only [Bool.or_eq_false_iff,Bool.not_eq_false'] at q;obtain ⟨hL,pl,nb,hpl,hR,hP,hN⟩:=hyes (hok.trans q.1);obtain ⟨a,b,u⟩:=Q4.1 q.2;have ht:=Y5.1 q.1;have hl8:=ht.len;subst hL;have hc:=hR g a (by omega);rw [hP g a (by omega),if_pos u] at hc;refine ⟨by have:=hR.ix zhv (i:=g) a (by omega); rwa [hpl] at this,_,hc,fun wr hx=>⟨hX2.trans hx,.inr ⟨by rw [q.1,q.2]; rfl,nb,rfl,hN.ext hx⟩⟩⟩
theorem Dy {g:Int} (h:TS bs w o gs ms) (hl:gs.length<=maxLen):PX bs UQ #[.slice o gs.length c,.int .i64 g] w (.string (if (Yu gs&&Q6 gs g)=true then M1 gs g else ⟨[].toArray⟩)):=by
 refine OJ fun wr hx=>Db o gs.length c g (R:=fun v w'=>v = .string (if (Yu gs&&Q6 gs g)=true then M1 gs g else ⟨[].toArray⟩)/\Q0 [] wr w') ?_
 have h:=(h.ext hx).less (cs:=[]) (by simp);intro w1 hx1 _;refine (MP (h.ext hx1) hl).mono ?_;rintro e w2 ⟨hx2,⟨hq,he⟩ | ⟨hq,nb,he,hN⟩⟩
 ·exact ⟨_,he,YT,fun _ wr1 hx3=>⟨by rw [hq]; rfl,(hx1.trans hx2).trans hx3⟩,fun q=>by cases q⟩
 ·refine ⟨_,he,YT,fun q=>(by cases q),fun _ => ?_⟩;have hq2:=hq;simp only [Bool.and_eq_true] at hq2;exact ⟨_,Ht (Y5.1 hq2.1) hN hq2.2,fun wr2 hx3=>⟨by rw [if_pos hq],(hx1.trans hx2).trans hx3⟩⟩
theorem Ou {g:Int} (h:TS bs w o gs ms) (hl:gs.length<=maxLen):PX bs XJ #[.slice o gs.length c,.int .i64 g] w (.int .i64 (zok gs g)):=by
 refine OJ fun wr hx=>Gn o gs.length c g (R:=fun v w'=>v = .int .i64 (zok gs g)/\Q0 [] wr w') ?_
 have h:=(h.ext hx).less (cs:=[]) (by simp);intro w1 hx1 _;refine (MP (h.ext hx1) hl).mono ?_;rintro e w2 ⟨hx2,⟨hq,he⟩ | ⟨hq,nb,he,hN⟩⟩
 ·exact ⟨_,he,YT,fun _ wr1 hx3=>⟨by unfold zok; rw [hq]; rfl,(hx1.trans hx2).trans hx3⟩,fun q=>by cases q⟩
 ·refine ⟨_,he,YT,fun q=>(by cases q),fun _ => ?_⟩;have hq2:=hq;simp only [Bool.and_eq_true] at hq2;have hd:=zkm (Y5.1 hq2.1) hq2.2;refine ⟨_,zd9 hN hq2.2,fun wr2 hx3=>⟨?_,(hx1.trans hx2).trans hx3⟩⟩;unfold zok DO;rw [if_pos hq,if_neg (by omega),Int.zero_add]
end
set_option maxHeartbeats 1000000 in
theorem k_FnTree {a:OA} {La Ca:Nat} {w:World} (ha:Hm a La w) (hca:La<=Ca) :
  Cz Px #[.slice a La Ca] w fun e w'=>e = .returned (.bool true)/\Q0 [] w w':=by
 refine (BT a La Ca (R:=fun v w'=>v = .bool true/\Q0 [] w w') ?_).mono fun e w' ⟨v,he,hv,h3⟩=>⟨by rw [he,hv],h3⟩
 refine ⟨fun _ wr hx=>⟨rfl,hx⟩,fun _ wr1 hx1 _ => ?_⟩;refine (Ln (ha.ext hx1) hca).mono ?_;rintro e wv ⟨W,m,he,hD⟩;have hX:=hx1.trans hD.ext;have hr:=hD.rd.g;have hl:=hD.ln.g;generalize W.groups=gs at hr hl he;refine ⟨_,_,_,he,YT,Yu gs,Oc hr hl,Yu gs,Vm hr hl,fun q => ?_,fun _=>⟨Yu gs,Vm hr hl,fun q => ?_,fun q => ?_⟩⟩
 ·simp at q
 ·have q:Yu gs=false:=by simpa using q
  refine ⟨_,P7 hr hl,fun wr3 hx3=>⟨?_,hX.trans hx3⟩⟩;have:∀p,ML gs p = -1:=fun p=>by unfold ML; rw [q]; rfl
  rw [this]; rfl
 ·have q:Yu gs=true:=by simpa using q
  have ht:=Y5.1 q;have hl8:=ht.len;refine ⟨fun vs w2=>∃k:Nat,vs=[.int .i64 (k:Int)]/\k<=8/\Q0 [] wv w2,Zm 8 0,fun wr4 hx4 _=>⟨0,rfl,by omega,hx4⟩,?_⟩;rintro g wv1 _ ⟨k,hv,hk,hx⟩;simp only [List.cons.injEq,Value.int.injEq,true_and,and_true] at hv;subst hv;have hr1:=hr.ext hx;refine ⟨fun hlt => ?_,fun hge wr12 hx12=>⟨rfl,hX.trans (hx.trans hx12)⟩⟩;have hlt:=of_decide_eq_true hlt;have k8:k<8:=by omega
  have nxt:∀{w2 wr:World},Q0 [] wv w2->Q0 [] w2 wr->∃j:Nat,([.int .i64 ((k:Int)+1)]:List Value)=[.int .i64 (j:Int)]/\j<=8/\Q0 [] wv wr:=fun h1 h2=>⟨k+1,rfl,by omega,h1.trans h2⟩
  refine ⟨hr1.ix (by omega) hlt,_,hr1.used (by omega) hlt,fun hu=>⟨⟨by omega,by omega⟩,fun wr5 hx5 _=>⟨nxt hx hx5,QI (k:=k) rfl rfl k8⟩⟩,fun hu => ?_⟩;have hu:(gi gs (k:Int)).used=true:=by simpa using hu
  have hug:Q6 gs (k:Int)=true:=Q4.2 ⟨by omega,hlt,hu⟩;have hug0:Q6 gs 0=true:=Q4.2 ⟨by decide,by omega,ht.ru⟩;have hqq:(Yu gs&&Q6 gs (k:Int))=true:=by rw [q,hug]; rfl
  have hpt:=Dy (c:=m.gC) (g:=(k:Int)) hr1 hl;rw [if_pos hqq] at hpt;have hund:∀x y:Int,Q6 gs x=true->Q6 gs y=true->UB gs x y=YJ 3 gs x y:=fun x y hx hy=>zbk ht hx hy
  refine ⟨_,hpt,_,fun _=>P7 hr1 hl,_,fun _=>Jd hr1 hl,_,fun _=>Jd hr1 hl,fun q2 => ?_,fun _ wr7 hx7 _ => ?_⟩
  ·have e1:QX (M1 gs (k:Int)) (ByteArray.mk [].toArray)=false:=by
    cases hs:QX (M1 gs (k:Int)) (ByteArray.mk [].toArray) with
    | false=>rfl
    | true=>
     have:=zj1 ht hug;rw [Xe.1 hs] at this;exact absurd this (by decide)
   rw [e1,zkt q hug,hund _ _ hug0 hug,hund _ _ hug hug,zh9 ht hug,Fi] at q2;simp at q2
  ·refine (Dx (hr1.ext hx7) hl).mono ?_;rintro e1 wv2 ⟨o',c',he1,hO,hx8⟩;have hkd:Fo gs (k:Int)=VR gs (k:Int) 8:=if_pos hqq;rw [hkd] at he1 hO;have hlen:=zea gs (k:Int) 8;have hX2:=(hx.trans hx7).trans hx8;have hrk:Rd Xh 1 [] wv2 o' (VR gs (k:Int) 8):=hO.rd ZO.len (by simp);refine ⟨_,_,_,he1,YT,fun vs w2=>∃i:Nat,vs=[.int .i64 (i:Int)]/\i<=(VR gs (k:Int) 8).length/\Q0 [] wv2 w2,Zm (VR gs (k:Int) 8).length 0,fun wr8 hx9 _=>⟨0,rfl,Nat.zero_le _,hx9⟩,?_⟩;rintro i wv3 _ ⟨i,hv,hi,hx9⟩;simp only [List.cons.injEq,Value.int.injEq,true_and,and_true] at hv;subst hv;refine ⟨fun hlt2 => ?_,fun _=>⟨⟨by omega,by omega⟩,fun wr11 hx11 _=>⟨nxt (hX2.trans hx9) hx11,QI (k:=k) rfl rfl k8⟩⟩⟩;have hlt2:=of_decide_eq_true hlt2;have hil:i<(VR gs (k:Int) 8).length:=by omega
   have hr3:=hr.ext (hX2.trans hx9)
   have hxm:gi (VR gs (k:Int) 8) (i:Int)∈VR gs (k:Int) 8:=by
    rw [Ju hil]; exact List.getElem_mem hil
   generalize hxe:gi (VR gs (k:Int) 8) (i:Int)=x at hxm;obtain ⟨x0,x8,xu⟩:=zim hxm;have hpar:=znx hxm;have hux:Q6 gs x=true:=Q4.2 ⟨x0,by omega,xu⟩
   have hxz:x≠0:=fun e=>by
    rw [e,ht.rp] at hpar;omega
   obtain ⟨_,_,_,d,e1',e2',hd⟩:=Zl ht hux hxz;rw [hpar] at e2';have hqx:(Yu gs&&Q6 gs x)=true:=by rw [q,hux]; rfl
   have td1:zok gs x=dep 3 gs x:=if_pos hqx;have td2:zok gs (k:Int)=dep 3 gs (k:Int):=if_pos hqq
   have i1:YJ 3 gs (k:Int) x=true:=by
    rw [T4 ht hux hxz (fun e=>by rw [e] at e1'; omega),hpar]; exact Fi _ _ _
   have i2:YJ 3 gs x (k:Int)=false:=by
    cases hh:YJ 3 gs x (k:Int) with
    | false=>rfl
    | true=>
     have:=zk0 ht hug hh;omega
   have hcell:=(hrk.ext hx9) (i:Int) (by omega) hlt2;rw [hxe] at hcell;refine ⟨(hrk.ext hx9).ix VI (by omega) hlt2,x,hcell,fun _=>hr3.ix x0 (by omega),(gi gs x).parent,fun _=>hr3.parent x0 (by omega),_,fun _=>Ou hr3 hl,_,fun _=>Ou hr3 hl,fun _ => ?_,_,fun _=>Jd hr3 hl,_,fun _=>Jd hr3 hl,fun q3 => ?_,fun _=>⟨⟨by omega,by omega⟩,fun wr10 hx10 _=>⟨⟨i+1,rfl,by omega,hx9.trans hx10⟩,QI (k:=i) rfl rfl hil⟩⟩⟩
   ·rw [td2,e2'];exact ⟨by omega,by omega⟩
   ·rw [hpar,td1,td2,e1',e2',hund _ _ hug hux,hund _ _ hux hug,i1,i2,decide_eq_false (show ¬x<1 by omega),decide_eq_false (show ¬x>=((gs.length:Nat):Int) by omega)] at q3;simp at q3
end Go.Proofs.YtclpmgfpjeaibaaGreat
