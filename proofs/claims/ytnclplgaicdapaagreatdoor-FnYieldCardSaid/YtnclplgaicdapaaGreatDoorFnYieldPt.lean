/- Part 20 of what the law FnYield needs: the engine, the functions' propositions, the contracts. -/
import Derived.Test.YtnclplgaicdapaaGreatDoorFnYieldPs
namespace Go.Proofs.YtnclplgaicdapaaGreatDoor
open Go.RowKit
set_option linter.unusedVariables false
set_option linter.unusedSimpArgs false
set_option maxRecDepth 10000
set_option maxHeartbeats 8000000
theorem zt9{P:Nat->Q7->Prop}(hP:P3 P){rb:Nat}{c:OA}{L N:Nat}{w:Wo}{items:Int}(h:JF rb c L N w)(hN:N<=700000000000)(hi:items<=27) :
  Cz UH #[.pointer (some ⟨rb,0,none⟩),.int .i64 items] w fun e w'=>∃(W:Q7) (m:MW),e=.returned (.agg (Qa W m).toArray)/\(XU W/\P 1000 W)/\Y1 8 w.heap.size w' W m/\JF rb c L (N+1000) w'/\Q0 [rb] w w'/\∀x∈QB 8 m,x≠rb:=by
 refine(Ho (some ⟨rb,0,none⟩) items (R:=fun v w'=>∃(W:Q7) (m:MW),v=.agg (Qa W m).toArray/\(XU W/\P 1000 W)/\Y1 8 w.heap.size w' W m/\JF rb c L (N+1000) w'/\Q0 [rb] w w'/\∀x∈QB 8 m,x≠rb) ?_).mono fun e w' ⟨v,he,W,m,hv,h3⟩=>⟨W,m,by rw[he,hv],h3⟩
 intro b hb b1 hb1 wr hx hs;refine(Dr.pick ((Dr.start h).put2 hx hb hb1) (by omega) hs).mono ?_;rintro e w1 ⟨v,he,hk,⟨p0,_,p2⟩,h1⟩;have p2:=p2 (by decide);refine⟨_,he,hk,⟨by omega,by omega⟩,zwq (lo:=1) (hi:=4) (by decide) rfl (by omega) (by omega) fun x x1 x4 wr hx hs=>?_⟩;obtain⟨q,rfl⟩:∃q:Nat,x=(q:Int):=⟨x.toNat,by omega⟩;have h2:=h1.step hx;refine(Ba (n:=q) (by omega) (by omega)).mono ?_;rintro e2 w2 ⟨m,he2,hM,hx5⟩
 have hb2:∀x∈rb::[b,b1],x<wr.heap.size:=fun x hm=>by
  rcases List.mem_cons.1 hm with h1 | h1
  ·rw[h1]; exact h2.r.rd.lt
  ·exact hs x h1
 have hK:Xr P rb c L N 1 [b,b1] w w2 (Js q) m:=⟨zro (by omega) (by omega),hP.new (by omega) (by omega),⟨h2.r.call0 hx5,h2.ext.trans hx5.of_nil,h2.new⟩,(OW.of hM hb2).mono h2.ext.size⟩;refine⟨_,_,_,_,_,_,_,_,_,_,_,he2,Qd hx5 hs,fun b2 hb2 wr hx hs=>?_⟩;refine((hK.put hx hb2).pick hP (by omega) hs).mono ?_;rintro e3 w3 ⟨v1,he3,hk3,⟨p10,_,p12⟩,hK1⟩;have p12:=p12 (by decide);refine⟨_,he3,hk3,?_⟩;refine⟨fun vs w2=>∃(k n:Nat) (W:Q7) (m:MW),vs=.int .i64 (k:Int)::Qa W m/\(k:Int)<=v1/\n<=2+2*k/\Xr P rb c L N n [b,b1,b2] w w2 W m,Zu v1.toNat 0,fun wr hx _=>⟨0,2,Js q,m,rfl,p10,by omega,hK1.step hx⟩,?_⟩;clear hK1 hk3 he3 hs hx hM hK he2 hx5 h1 h2 he hk;rintro i1 l l1O l1L l1C l2O l2L l2C l3O l3L l3C wv hs ⟨k,n,W,m,he,hk,hn,hK⟩;simp only[Qa,List.cons.injEq,Value.int.injEq,Value.slice.injEq,true_and,and_true] at he;obtain⟨rfl,rfl,⟨rfl,rfl,rfl⟩,⟨rfl,rfl,rfl⟩,rfl,rfl,rfl⟩:=he;refine⟨fun hlt=>?_,fun hge wr hx hs=>?_⟩
 ·have hlt:=Ot hlt
  repeat' first
   | exact rfl
   | (refine And.intro ?_ ?_)
   | (refine ztr (by decide) rfl (by omega) (by omega) fun x=>?_)
   | (refine zwh (by decide) rfl (by omega) (by omega) fun x=>?_)
   | (intro (b:Nat) hb)
   | (intro (wr:Wo) hx hs; refine(Xr.pick hP (Xr.step (by assumption) hx) ?_ hs).mono ?_; rotate_left; rintro e w2 ⟨v,he,hk,⟨hp0,_,hp2⟩,hC⟩; have hp2:=hp2 (by decide); refine⟨_,he,hk,?_⟩)
   | (intro (wr:Wo) hx hs; refine(Xr.pick hP (Xr.put (by assumption) hx (by assumption)) ?_ hs).mono ?_; rotate_left; rintro e w2 ⟨v,he,hk,⟨hp0,_,hp2⟩,hC⟩; have hp2:=hp2 (by decide); refine⟨_,he,hk,?_⟩)
   | (intro (wr:Wo) hx hs; refine(Xr.pick hP (Xr.put2 (by assumption) hx (by assumption) (by assumption)) ?_ hs).mono ?_; rotate_left; rintro e w2 ⟨v,he,hk,⟨hp0,_,hp2⟩,hC⟩; have hp2:=hp2 (by decide); refine⟨_,he,hk,?_⟩)
   | (intro (wr:Wo) hx hs; refine(Xr.mak hP (Xr.step (by assumption) hx) hs).mono ?_; rintro e w2 ⟨W',m',a,d,he,hk,hC⟩; refine⟨_,_,_,_,_,_,_,_,_,_,_,_,he,hk,⟨by omega,by omega⟩,fun wr hx _=>⟨⟨k+1,n+2,W',m',by simp[Qa],by omega,by omega,((hC.step hx).more hP (by omega)).sub (by simp)⟩,Z6 (k:=k) rfl rfl (by omega)⟩⟩)
   | (intro (wr:Wo) hx hs; refine(Xr.mak hP (Xr.put (by assumption) hx (by assumption)) hs).mono ?_; rintro e w2 ⟨W',m',a,d,he,hk,hC⟩; refine⟨_,_,_,_,_,_,_,_,_,_,_,_,he,hk,⟨by omega,by omega⟩,fun wr hx _=>⟨⟨k+1,n+2,W',m',by simp[Qa],by omega,by omega,((hC.step hx).more hP (by omega)).sub (by simp)⟩,Z6 (k:=k) rfl rfl (by omega)⟩⟩)
   | (intro (wr:Wo) hx hs; refine(Xr.mak hP (Xr.put2 (by assumption) hx (by assumption) (by assumption)) hs).mono ?_; rintro e w2 ⟨W',m',a,d,he,hk,hC⟩; refine⟨_,_,_,_,_,_,_,_,_,_,_,_,he,hk,⟨by omega,by omega⟩,fun wr hx _=>⟨⟨k+1,n+2,W',m',by simp[Qa],by omega,by omega,((hC.step hx).more hP (by omega)).sub (by simp)⟩,Z6 (k:=k) rfl rfl (by omega)⟩⟩)
   | omega
 refine((hK.step hx).pick hP (by omega) hs).mono ?_;rintro e4 w4 ⟨v3,he4,hk4,⟨p30,_,p32⟩,hC6⟩;have p32:=p32 (by decide);refine⟨_,he4,hk4,⟨by omega,by omega⟩,?_⟩;refine⟨fun vs w2=>∃(k n:Nat) (W:Q7) (m:MW),vs=.int .i64 (k:Int)::Qa W m/\(k:Int)<=1+v3/\n<=20+3*k/\Xr P rb c L N n [b,b1,b2] w w2 W m,Zu (1+v3).toNat 0,fun wr8 hx8 _=>⟨0,n+1,W,m,rfl,by omega,by omega,hC6.step hx8⟩,?_⟩;clear hK hC6 hk4 he4 hs hx hge hk hn;clear W m n k;rintro i3 l4 l5O l5L l5C l6O l6L l6C l7O l7L l7C wv hs ⟨k,n,W,m,he,hk,hn,hK⟩;simp only[Qa,List.cons.injEq,Value.int.injEq,Value.slice.injEq,true_and,and_true] at he;obtain⟨rfl,rfl,⟨rfl,rfl,rfl⟩,⟨rfl,rfl,rfl⟩,rfl,rfl,rfl⟩:=he;refine⟨fun hlt wr hx hs=>?_,fun hge=>?_⟩
 ·have hlt:=Ot hlt;refine((hK.step hx).pick hP (by omega) hs).mono ?_;rintro e5 w5 ⟨v5,he5,hk5,_,hC5⟩;refine⟨_,he5,hk5,rfl,fun wr hx hs=>?_⟩;refine((hC5.step hx).weight hP (by omega) hs).mono ?_;rintro e6 w6 ⟨v6,he6,hk6,_,hC6⟩;refine⟨_,he6,hk6,rfl,_,Vo,_,XS,zs7 _,fun wr hx hs=>?_⟩;refine((hC6.step hx).fork hP hs).mono ?_;rintro e7 w7 ⟨W7,m7,a,d,he7,hk7,hC7⟩;exact⟨_,_,_,_,_,_,_,_,_,_,_,_,he7,hk7,⟨by omega,by omega⟩,fun wr hx _=>⟨⟨k+1,n+1+2,W7,m7,by simp[Qa],by omega,by omega,hC7.step hx⟩,Z6 (k:=k) rfl rfl (by omega)⟩⟩
 ·have hge:=Ou hge;refine⟨fun vs w2=>∃(k n:Nat) (W:Q7) (m:MW),vs=.int .i64 (k:Int)::Qa W m/\k<=27/\n<=60+30*k/\Xr P rb c L N n [b,b1,b2] w w2 W m,Zu 27 0,fun wr8 hx8 _=>⟨0,n,W,m,rfl,by omega,by omega,hK.step hx8⟩,?_⟩;clear hK hs;rintro i5 l8 l9O l9L l9C l10O l10L l10C l11O l11L l11C wv hs ⟨k,n,W,m,he,hk,hn,hK⟩;simp only[Qa,List.cons.injEq,Value.int.injEq,Value.slice.injEq,true_and,and_true] at he;obtain⟨rfl,rfl,⟨rfl,rfl,rfl⟩,⟨rfl,rfl,rfl⟩,rfl,rfl,rfl⟩:=he;refine⟨fun hlt wr hx hs=>?_,fun hge wr hx=>⟨W,m,rfl,(hK.step hx).fin hP (by omega)⟩⟩;have hlt:=Ot hlt;refine((hK.step hx).item hP (by omega) hs (V:=W) (p:=m)).mono ?_;rintro e5 w5 ⟨k5,a5,q5,r5,s5,he5,hk5,hC5⟩;refine⟨_,_,_,_,_,he5,hk5,rfl,fun wr hx hs=>?_⟩;refine((hC5.step hx).do hP (by omega) hs).mono ?_;rintro e6 w6 ⟨W6,m6,d,he6,hk6,hC6⟩;exact⟨_,_,_,_,_,_,_,_,_,_,_,he6,hk6,⟨by omega,by omega⟩,fun wr hx _=>⟨⟨k+1,n+20+10,W6,m6,by simp[Qa],by omega,by omega,hC6.step hx⟩,Z6 (k:=k) rfl rfl (by omega)⟩⟩
theorem zvy:Tryz.prog.underlying ty_sl_uint8=some (.slice TA):=by kernel_rfl
theorem zvx:Tryz.prog.underlying TA=some (.int .u8):=by kernel_rfl
theorem zvz:Tryz.prog.underlying Zs=some .string:=by kernel_rfl
theorem Xr.ofPlay{P:Nat->Q7->Prop}(hP:P3 P){rb:Nat}{c:OA}{L N n k:Nat}{bs:List Nat}{w0 w w':Wo}{W:Q7}{m:MW}(d:Dr rb c L N n bs w0 w)(hs:∀x∈bs,x<w.heap.size)(iv:XU W/\P k W)(hM:Y1 8 w.heap.size w' W m)(hr:JF rb c L (N+n+k) w')(hx:Q0 [rb] w w')(hne:∀x∈QB 8 m,x≠rb):Xr P rb c L N (n+k) bs w0 w' W m:=
 ⟨iv.1,hP.mono (by omega) iv.2,⟨d.r.upd (by rw[<-Nat.add_assoc]; exact hr),d.ext.trans hx,d.new⟩,⟨hM.mono d.ext.size,fun x hx1 hm=>by
  rcases List.mem_cons.1 hm with h1 | h1
  ·exact hne x hx1 h1
  ·have:=(hM.lt x hx1).1;have:=hs x h1;omega⟩⟩
theorem zr0{P:Nat->Q7->Prop}(hP:P3 P){rb:Nat}{c:OA}{L N:Nat}{w:Wo}(h:JF rb c L N w)(hN:N<=600000000000) :
  Cz U0 #[.pointer (some ⟨rb,0,none⟩)] w fun e w'=>∃(W:Q7) (m:MW),e=.returned (.agg (Qa W m).toArray)/\(XU W/\P 1100 W)/\Y1 8 w.heap.size w' W m/\JF rb c L (N+1100) w'/\Q0 [rb] w w'/\∀x∈QB 8 m,x≠rb:=by
 refine(Ga (some ⟨rb,0,none⟩) (R:=fun v w'=>∃(W:Q7) (m:MW),v=.agg (Qa W m).toArray/\(XU W/\P 1100 W)/\Y1 8 w.heap.size w' W m/\JF rb c L (N+1100) w'/\Q0 [rb] w w'/\∀x∈QB 8 m,x≠rb) ?_).mono fun e w' ⟨v,he,W,m,hv,h3⟩=>⟨W,m,by rw[he,hv],h3⟩
 intro b hb wr hx hs;refine(Dr.pick ((Dr.start h).put hx hb) (by omega) hs).mono ?_;rintro e w1 ⟨v,he,hk,⟨p0,_,p2⟩,h1⟩;have p2:=p2 (by decide);refine⟨_,he,hk,fun wr hx hs=>?_⟩;have h2:=h1.step hx;refine(zt9 hP h2.r.rd (by omega) (items:=v) (by omega)).mono ?_;rintro e2 w2 ⟨W,m,he2,iv,hM,hr,hxp,hne⟩;have hK:=Xr.ofPlay hP h2 hs iv hM hr hxp hne;refine⟨_,_,_,_,_,_,_,_,_,_,he2,OL h2.r hxp hs,fun b1 hb1 wr hx hs=>?_⟩;refine((hK.put hx hb1).pick hP (by omega) hs).mono ?_;rintro e3 w3 ⟨v3,he3,hk3,_,hK3⟩;refine⟨_,he3,hk3,fun _=>?_,fun _ wr hx=>⟨W,m,rfl,(hK3.step hx).fin hP (by omega)⟩⟩;refine⟨fun vs w2=>∃(k:Nat) (W:Q7) (m:MW),vs=.int .i64 (k:Int)::Qa W m/\k<=12/\Xr P rb c L N (0+1+1000+1) [b,b1] w w2 W m,Zu 12 0,fun wr hx _=>⟨0,W,m,rfl,by omega,hK3.step hx⟩,?_⟩;clear hK3 hK hM iv hne hr hxp he2 hk3 he3 h2 h1 hs hx;rintro i1 l l1O l1L l1C l2O l2L l2C l3O l3L l3C wv hs ⟨k,W,m,he,hk,hK⟩;simp only[Qa,List.cons.injEq,Value.int.injEq,Value.slice.injEq,true_and,and_true] at he;obtain⟨rfl,rfl,⟨rfl,rfl,rfl⟩,⟨rfl,rfl,rfl⟩,rfl,rfl,rfl⟩:=he;refine⟨fun hlt wr hx hs=>?_,fun hge=>?_⟩
 ·have hlt:=Ot hlt;refine((hK.step hx).fork hP hs).mono ?_;rintro e7 w7 ⟨W7,m7,a,d,he7,hk7,hC7⟩;exact⟨_,_,_,_,_,_,_,_,_,_,_,_,he7,hk7,⟨by omega,by omega⟩,fun wr hx _=>⟨⟨k+1,W7,m7,by simp[Qa],by omega,hC7.step hx⟩,Z6 (k:=k) rfl rfl (by omega)⟩⟩
 refine⟨fun vs w2=>∃(k:Nat) (W:Q7) (m:MW),vs=.int .i64 (k:Int)::Qa W m/\k<=8/\Xr P rb c L N (0+1+1000+1) [b,b1] w w2 W m,Zu 8 0,fun wr hx _=>⟨0,W,m,rfl,by omega,hK.step hx⟩,?_⟩;clear hK hs;rintro i3 l4 l5O l5L l5C l6O l6L l6C l7O l7L l7C wv hs ⟨k,W,m,he,hk,hK⟩;simp only[Qa,List.cons.injEq,Value.int.injEq,Value.slice.injEq,true_and,and_true] at he;obtain⟨rfl,rfl,⟨rfl,rfl,rfl⟩,⟨rfl,rfl,rfl⟩,rfl,rfl,rfl⟩:=he;refine⟨fun hlt=>⟨⟨by omega,by omega⟩,⟨by have:=Ot hlt; show (0:Int)<=_; omega,by have:=Ot hlt; show _<=(255:Int); omega⟩,fun b3 wb hxb hsz hh hn wr hx hs=>?_⟩,fun _ wr hx=>⟨W,m,rfl,(hK.step hx).fin hP (by omega)⟩⟩;have hlt:=Ot hlt;have hK1:=(hK.step hxb).step hx
 have hh2:wr.heap[b3]? = some (Obj.cells ([.int .u8 (48+(k:Int))]:List Va).toArray TA (0,0)):=by
  rw[hx.block b3 (VM hh) hn]; exact hh
 have hc:=run_convert_bytes_arg wr ty_sl_uint8 TA zvy zvx b3 0 1 1 [48+(k:Int)] rfl (fun i hi=>by
  have:i=0:=by omega
  subst this;rw[Oh hh2]; rfl) Zs zvz
 refine⟨_,wr,hc,fun _ _=>rfl,?_,fun wr2 hx2 hs2=>?_⟩
 ·have e1:(strOfNums [48+(k:Int)]).size=1:=rfl;rw[e1]; decide
 refine((hK1.step hx2).mak hP hs2).mono ?_;rintro e7 w7 ⟨W7,m7,a,d,he7,hk7,hC7⟩;exact⟨_,_,_,_,_,_,_,_,_,_,_,_,he7,hk7,⟨by omega,by omega⟩,fun wr hx _=>⟨⟨k+1,W7,m7,by simp[Qa],by omega,hC7.step hx⟩,Z6 (k:=k) rfl rfl (by omega)⟩⟩
structure Cl (W V:Q7):Prop where
 n:V.now=W.now
 c:V.cpus=W.cpus
 t:V.tasks.length=W.tasks.length
 g:V.groups.length=W.groups.length
 e:∀i:Int,0<=i->i<8->∃ss:List Mx,gi V.groups i={ gi W.groups i with shelves:=ss }/\ss.length=(gi W.groups i).shelves.length
theorem Cl.refl(W:Q7):Cl W W:=⟨rfl,rfl,rfl,rfl,fun i _ _=>⟨_,rfl,rfl⟩⟩
theorem Cl.enc{W V:Q7}(h:Cl W V)(m:MW):Qa V m=Qa W m:=by simp[Qa,h.n,h.c,h.t,h.g]
theorem Cl.len{W V:Q7}(h:Cl W V)(hl:Xc W)(h8:W.groups.length=8):Xc V:=by
 refine⟨by rw[h.c]; exact hl.c,by rw[h.t]; exact hl.t,by rw[h.g]; exact hl.g,fun i a b=>?_⟩;rw[h.g] at b;obtain⟨ss,e,l⟩:=h.e i a (by omega);have hf:=hl.f i a b;rw[e];exact⟨hf.nm,hf.nx,hf.lo,hf.dr,by show ss.length<=_; rw[l]; exact hf.sh⟩
structure Lt (base:Nat) (bs:List Nat) (w0 w:Wo) (W V:Q7) (m:MW):Prop where
 cl:Cl W V
 o:OW 8 base bs w V m
 ext:Q0 (QB 8 m) w0 w
 new:∀x∈bs,w0.heap.size<=x
section
variable {base:Nat}{bs:List Nat}{w0 w w':Wo}{W V V':Q7}{m:MW}
theorem Lt.step(h:Lt base bs w0 w W V m)(hx:Q0 bs w w'):Lt base bs w0 w' W V m:=⟨h.cl,h.o.step hx,h.ext.fresh hx fun x hm=>.inl (h.new x hm),h.new⟩
theorem Lt.sto(h:Lt base bs w0 w W V m)(hc:Cl W V')(hM:Y1 8 base w' V' m)(hx:Q0 (QB 8 m) w w'):Lt base bs w0 w' W V' m:=⟨hc,⟨hM,h.o.nb⟩,h.ext.trans hx,h.new⟩
theorem zt7(h:Y1 8 base w W m)(iv:XU W) :
  Cz TP #[.agg (Qa W m).toArray] w fun e w'=>∃V:Q7,e=.returned (.agg (Qa V m).toArray)/\Xc V/\Y1 8 base w' V m/\Q0 (QB 8 m) w w':=by
 refine(NI W.now m.cO W.cpus.length m.cC m.tO W.tasks.length m.tC m.gO W.groups.length m.gC (R:=fun v w'=>∃V:Q7,v=.agg (Qa V m).toArray/\Xc V/\Y1 8 base w' V m/\Q0 (QB 8 m) w w') ?_).mono fun e w' ⟨v,he,V,hv,h3⟩=>⟨V,by rw[he,hv],h3⟩
 intro b hb b1 hb1;have hgl:=iv.wp.a.gl;have htl:=iv.wp.a.t
 have hnew:∀x∈[b,b1],w.heap.size<=x:=by
  intro x hx;simp at hx;omega
 have h0:Lt base [b,b1] w w W W m:=⟨Cl.refl W,⟨h,fun x hx hm=>by
  have:=(h.lt x hx).2;have:=hnew x hm;omega⟩,Q0.refl _ _,hnew⟩
 refine⟨fun vs w2=>∃(k:Nat) (V:Q7),vs=[.int .i64 (k:Int)]/\k<=12/\Lt base [b,b1] w w2 W V m/\V.groups=W.groups/\∀j:Int,(k:Int)<=j->j<12->Q8 V j=Q8 W j,Zu 12 0,fun wr hx _=>⟨0,W,rfl,by omega,h0.step hx.of_nil,rfl,fun _ _ _=>rfl⟩,?_⟩;clear h0;rintro t wv hs ⟨k,V,he,hk,hL,hg,ht⟩;simp only[List.cons.injEq,Value.int.injEq,true_and,and_true] at he;subst he;have hVt:V.tasks.length=12:=by rw[hL.cl.t]; exact htl
 refine⟨fun hlt=>?_,fun hge=>?_⟩
 ·have hlt:=Ot hlt;have k0:(0:Int)<=(k:Int):=by omega
  have k1:(k:Int)<(V.tasks.length:Int):=by omega
  have ix:Ix m.tO W.tasks.length (k:Int):=by
   have:=hL.o.rd.t.ix QI k0 k1
   rwa[hL.cl.t] at this
  have hv:0<=(Q8 V (k:Int)).v/\(Q8 V (k:Int)).v<=100000000000000000:=by
   rw[ht _ (Int.le_refl _) (by omega)];rcases iv.wp.t (k:Int) k0 (by omega) with hz | ⟨_,hx⟩
   ·rw[hz.2]; decide
   ·exact ZY.1 hx.v
  refine⟨ix,_,hL.o.rd.t.f k0 k1 (j:=0) rfl,fun _=>⟨ix,_,hL.o.rd.t.f k0 k1 (j:=5) rfl,⟨by show _<=(Q8 V (k:Int)).v+_; omega,by show (Q8 V (k:Int)).v+_<=_; omega⟩,ix,ze9 hL.o.own hL.o.nb k0 k1 (j:=5) (by decide),⟨by omega,by omega⟩,fun wr hx _=>⟨⟨k+1,setTk V (k:Int) { Q8 V (k:Int) with v:=(Q8 V (k:Int)).v+50000000000000001 },by simp,by omega,?_,hg,fun j a c=>?_⟩,Z6 (k:=k) rfl rfl (by omega)⟩⟩,fun _=>⟨⟨by omega,by omega⟩,fun wr hx _=>⟨⟨k+1,V,by simp,by omega,hL.step hx,hg,fun j a c=>ht j (by omega) c⟩,Z6 (k:=k) rfl rfl (by omega)⟩⟩⟩
  ·refine(hL.sto (V':=setTk V (k:Int) { Q8 V (k:Int) with v:=(Q8 V (k:Int)).v+50000000000000001 }) ⟨hL.cl.n,hL.cl.c,by show (List.set _ _ _).length=_; rw[List.length_set]; exact hL.cl.t,hL.cl.g,hL.cl.e⟩ (hL.o.own.stoT k0 k1 (j:=5) (vs:=[.int .i64 ((Q8 V (k:Int)).v+50000000000000001)]) (x:={ Q8 V (k:Int) with v:=(Q8 V (k:Int)).v+50000000000000001 }) rfl (by show 5+1<=9; decide)) Lv).step hx
  ·rw[show Q8 (setTk V (k:Int) { Q8 V (k:Int) with v:=(Q8 V (k:Int)).v+50000000000000001 }) j=_ from (Qw V.tasks { Q8 V (k:Int) with v:=(Q8 V (k:Int)).v+50000000000000001 } k0 k1 (j:=j) (by omega)),if_neg (by omega)];exact ht j (by omega) c
 have hge:=Ou hge;refine⟨fun vs w2=>∃(k:Nat) (V:Q7),vs=[.int .i64 (k:Int)]/\k<=8/\Lt base [b,b1] w w2 W V m/\∀j:Int,(k:Int)<=j->j<8->gi V.groups j=gi W.groups j,Zu 8 0,fun wr hx _=>⟨0,V,rfl,by omega,hL.step hx,fun j _ _=>by rw[hg]⟩,?_⟩;clear hL hg ht hs hVt;rintro k' wv1 hs1 ⟨k2,V,he,hk2,hL,hg⟩;simp only[List.cons.injEq,Value.int.injEq,true_and,and_true] at he;subst he;refine⟨fun hlt=>?_,fun hge2 wr hx=>?_⟩
 rotate_left
 ·have hK:=hL.step hx;exact⟨V,by rw[hK.cl.enc]; rfl,hK.cl.len iv.len hgl,hK.o.own,hK.ext⟩
 have hlt:=Ot hlt;have k0:(0:Int)<=(k2:Int):=by omega
 have k8:(k2:Int)<8:=by omega
 have hsl4:=(PG iv.wp.a k0 k8).2.2;refine⟨fun vs w2=>∃(c:Nat) (V:Q7),vs=[.int .i64 (c:Int)]/\c<=(gi W.groups (k2:Int)).shelves.length/\Lt base [b,b1] w w2 W V m/\(∀j:Int,(k2:Int)<j->j<8->gi V.groups j=gi W.groups j)/\∀d:Int,(c:Int)<=d->Qc V (k2:Int) d=Qc W (k2:Int) d,Zu 4 0,fun wr hx _=>⟨0,V,rfl,by omega,hL.step hx,fun j a c=>hg j (by omega) c,fun d _=>by unfold Qc; rw[hg _ (Int.le_refl _) k8]⟩,?_⟩;clear hL hg hs1;rintro c' wv2 hs2 ⟨c,V,he,hc,hL,hg,hsh⟩;simp only[List.cons.injEq,Value.int.injEq,true_and,and_true] at he;subst he;have hVg:V.groups.length=8:=by rw[hL.cl.g]; exact hgl
 have k1:(k2:Int)<(V.groups.length:Int):=by omega
 obtain⟨ss,hss,hsl⟩:=hL.cl.e (k2:Int) k0 k8;have hlen:(gi V.groups (k2:Int)).shelves.length=(gi W.groups (k2:Int)).shelves.length:=by rw[hss]; exact hsl
 have ix:∀{V':Q7} {w3:Wo},Lt base [b,b1] w w3 W V' m->Ix m.gO W.groups.length (k2:Int):=fun hL'=>by
  have:=hL'.o.rd.g.ix (i:=(k2:Int)) k0 (by rw[hL'.cl.g]; omega)
  rwa[hL'.cl.g] at this
 refine⟨ix hL,_,_,_,hL.o.rd.g.shelf k0 k1,fun hlc=>?_,fun hgc=>⟨⟨by omega,by omega⟩,fun wr hx _=>⟨⟨k2+1,V,by simp,by omega,hL.step hx,fun j a d=>hg j (by omega) d⟩,Z6 (k:=k2) rfl rfl (by omega)⟩⟩⟩;have hlc:=Ot hlc;have c0:(0:Int)<=(c:Int):=by omega
 have hp:=iv.wp.s (k2:Int) (c:Int) k0 k8 c0 (by omega);have hsc:=hsh (c:Int) (Int.le_refl _);have hf:=ZY.1 hp.f;have hv:=ZY.1 hp.v;rw[<-hsc] at hf hv;have hrs:=hL.o.rd.g.shelves _ k0 k1;have hM1:=hL.o.own.stoS (i:=(k2:Int)) (c:=(c:Int)) k0 (by omega) c0 hlc (j:=0) (vs:=[.int .i64 ((Qc V (k2:Int) (c:Int)).floor+50000000000000001)]) (x:={ Qc V (k2:Int) (c:Int) with floor:=(Qc V (k2:Int) (c:Int)).floor+50000000000000001 }) rfl (by show 0+1<=5; decide)
 have hcl:∀{V1:Q7} (s:Mx),Cl W V1->Cl W (setSh V1 (k2:Int) (c:Int) s):=fun {V1} s h1=>⟨h1.n,h1.c,h1.t,by show (List.set _ _ _).length=_; rw[List.length_set]; exact h1.g,fun i a d=>by
  have:=h1.g;obtain⟨s1,e1,l1⟩:=h1.e i a d;have e2:gi (setSh V1 (k2:Int) (c:Int) s).groups i=if (k2:Int)=i then { gi V1.groups (k2:Int) with shelves:=(gi V1.groups (k2:Int)).shelves.set (Int.toNat (c:Int)) s } else gi V1.groups i:=Yj k0 (by omega) a;rw[e2];split
  ·rename_i e3;subst e3;exact⟨s1.set (Int.toNat (c:Int)) s,by rw[e1],by rw[List.length_set]; exact l1⟩
  ·exact⟨s1,e1,l1⟩⟩
 have hL1:=hL.sto (V':=setSh V (k2:Int) (c:Int) { Qc V (k2:Int) (c:Int) with floor:=(Qc V (k2:Int) (c:Int)).floor+50000000000000001 }) (hcl _ hL.cl) hM1 (BE (by omega))
 have hg1:∀{V1:Q7} (s:Mx),V1.groups.length=8->(∀j:Int,(k2:Int)<j->j<8->gi V1.groups j=gi W.groups j)->∀j:Int,(k2:Int)<j->j<8->gi (setSh V1 (k2:Int) (c:Int) s).groups j=gi W.groups j:=fun {V1} s hl h1 j a d=>by
  rw[show gi (setSh V1 (k2:Int) (c:Int) s).groups j=_ from Yj k0 (by omega) (by omega),if_neg (by omega)];exact h1 j a d
 have hs1:∀{V1:Q7} (s:Mx),V1.groups.length=8->(c:Int)<((gi V1.groups (k2:Int)).shelves.length:Int)->(∀d:Int,(c:Int)+1<=d->Qc V1 (k2:Int) d=Qc W (k2:Int) d)->∀d:Int,(c:Int)+1<=d->Qc (setSh V1 (k2:Int) (c:Int) s) (k2:Int) d=Qc W (k2:Int) d:=fun {V1} s hl hcl2 h1 d a=>by
  rw[J8 k0 (by omega) c0 hcl2 k0 (by omega),if_neg (by omega)];exact h1 d a
 have hg2:=hg1 { Qc V (k2:Int) (c:Int) with floor:=(Qc V (k2:Int) (c:Int)).floor+50000000000000001 } hVg hg;have hs2':=hs1 { Qc V (k2:Int) (c:Int) with floor:=(Qc V (k2:Int) (c:Int)).floor+50000000000000001 } hVg hlc fun d a=>hsh d (by omega)
 have hl1:(gi (setSh V (k2:Int) (c:Int) { Qc V (k2:Int) (c:Int) with floor:=(Qc V (k2:Int) (c:Int)).floor+50000000000000001 }).groups (k2:Int)).shelves.length=(gi V.groups (k2:Int)).shelves.length:=zcf k0 k1 k0
 have hv1:Qc (setSh V (k2:Int) (c:Int) { Qc V (k2:Int) (c:Int) with floor:=(Qc V (k2:Int) (c:Int)).floor+50000000000000001 }) (k2:Int) (c:Int)={ Qc V (k2:Int) (c:Int) with floor:=(Qc V (k2:Int) (c:Int)).floor+50000000000000001 }:=by
  rw[J8 k0 k1 c0 hlc k0 c0,if_pos ⟨rfl,rfl⟩]
 refine⟨ix hL,_,_,_,hL.o.rd.g.shelf k0 k1,ix hL,_,_,_,hL.o.rd.g.shelf k0 k1,hrs.ix ZD c0 hlc,(Qc V (k2:Int) (c:Int)).floor,hrs.f c0 hlc (j:=0) rfl,⟨by omega,by omega⟩,hrs.ix ZD c0 hlc,ztc hL.o.own hL.o.nb k0 (by omega) c0 hlc (j:=0) (by decide),fun _=>?_,fun _=>⟨⟨by omega,by omega⟩,fun wr hx _=>⟨⟨c+1,_,by simp,by omega,hL1.step hx,hg2,hs2'⟩,Z6 (k:=c) rfl rfl (by omega)⟩⟩⟩;generalize setSh V (k2:Int) (c:Int) { Qc V (k2:Int) (c:Int) with floor:=(Qc V (k2:Int) (c:Int)).floor+50000000000000001 }=V1 at hL1 hg2 hs2' hl1 hv1;have hVg1:V1.groups.length=8:=by rw[hL1.cl.g]; exact hgl
 have k11:(k2:Int)<(V1.groups.length:Int):=by omega
 have hlc1:(c:Int)<((gi V1.groups (k2:Int)).shelves.length:Int):=by rw[hl1]; exact hlc
 have hrs1:=hL1.o.rd.g.shelves _ k0 k11;have ev:(Qc V1 (k2:Int) (c:Int)).v=(Qc V (k2:Int) (c:Int)).v:=by rw[hv1]
 have hM2:=hL1.o.own.stoS (i:=(k2:Int)) (c:=(c:Int)) k0 (by omega) c0 hlc1 (j:=2) (vs:=[.int .i64 ((Qc V1 (k2:Int) (c:Int)).v+50000000000000001)]) (x:={ Qc V1 (k2:Int) (c:Int) with v:=(Qc V1 (k2:Int) (c:Int)).v+50000000000000001 }) rfl (by show 2+1<=5; decide);have hL2:=hL1.sto (V':=setSh V1 (k2:Int) (c:Int) { Qc V1 (k2:Int) (c:Int) with v:=(Qc V1 (k2:Int) (c:Int)).v+50000000000000001 }) (hcl _ hL1.cl) hM2 (BE (by omega));exact⟨ix hL1,_,_,_,hL1.o.rd.g.shelf k0 k11,ix hL1,_,_,_,hL1.o.rd.g.shelf k0 k11,hrs1.ix ZD c0 hlc1,(Qc V1 (k2:Int) (c:Int)).v,hrs1.f c0 hlc1 (j:=2) rfl,⟨by omega,by omega⟩,hrs1.ix ZD c0 hlc1,ztc hL1.o.own hL1.o.nb k0 (by omega) c0 hlc1 (j:=2) (by decide),⟨by omega,by omega⟩,fun wr hx _=>⟨⟨c+1,_,by simp,by omega,hL2.step hx,hg1 _ hVg1 hg2,hs1 _ hVg1 hlc1 hs2'⟩,Z6 (k:=c) rfl rfl (by omega)⟩⟩
end
theorem zl5{b:Jb}(h:Vz b){c:Int}(c0:0<=c)(c1:c<(b.locals.length:Int)):Vz (Yk b c):=by
 by_cases hp:0<gi b.locals c
 ·exact(zfz h c0 c1 hp).1
 ·have he:=(h.each c c0 c1).1;have e0:gi b.locals c=0:=by omega
  have hs:=KF b.locals c 0 c0 c1 b.locals.length;rw[if_pos c1] at hs;have hd:=h.dl;refine⟨h.q1,h.q2,?_,?_,?_,?_,?_,h.s1,h.s2,fun d d0 d1=>?_,?_⟩
  ·simp only[Yk,List.length_set]; exact h.l1
  ·simp only[Yk,List.length_set]; exact h.l2
  ·simp only[Yk,List.length_set]; split <;> simp[hd]
  ·simp only[Yk]; have:=h.p1; omega
  ·simp only[Yk]; have:=h.p2; omega
  ·simp only[Yk,List.length_set] at d1 ⊢;have hq:=h.each d d0 d1;have q1:=h.q1;rw[Qw _ _ c0 c1 d0,e0]
   by_cases hpp:b.pool+0>0
   ·rw[if_pos hpp,TR _ _ d0 (by omega)];refine⟨?_,?_,fun h=>by cases h⟩
    ·split <;> omega
    ·split <;> omega
   ·rw[if_neg hpp];refine⟨?_,?_,fun hh=>?_⟩
    ·split <;> omega
    ·split <;> omega
    ·have:=hq.2.2 hh
     split <;> omega
  ·simp only[Yk,List.length_set];have:=h.sum;rw[hs,e0]; omega
theorem zny{b:Jb}(h:Vz b)(op:zs1):Vz (YC b op).1:=by
 unfold YC;split
 ·exact(zfu h).1
 ·split
  ·exact h
  ·rename_i hi;have hc:Yo op.at' 0 ((b.locals.length:Int)-1)=true:=by simpa using hi
   have hc:=Qo.1 hc;split
   ·exact(zhb h hc.1 (by omega)).1
   ·split
    ·exact(zcg h hc.1 (by omega)).1
    ·split
     ·exact zl5 h hc.1 (by omega)
     ·exact h
theorem zox{q x:Int}{w:Wo}(hq:Yo q 1 10000=true)(h1:1<=x)(h4:x<=4) :
  Cz Qz #[.int .i64 q,.int .i64 x] w fun e w'=>∃(B:Jb) (p:MG),e=.returned (.tuple #[.agg (QT B p).toArray,.bool true])/\Vz B/\QR w.heap.size w' B p/\Q0 [] w w':=by
 obtain⟨n,rfl⟩:∃n:Nat,x=(n:Int):=⟨x.toNat,by omega⟩;have hqq:=Qo.1 hq;exact(Kl (n:=n) hq (Qo.2 ⟨by omega,by omega⟩)).mono fun e w' ⟨p,he,ho,hx⟩=>⟨_,p,he,zbx hqq.1 hqq.2 (by omega) (by omega),ho,hx⟩
theorem zow{rb:Nat}{c:OA}{L N:Nat}{w:Wo}(h:JF rb c L N w)(hN:N<=900000000000) :
  Cz Xi #[.pointer (some ⟨rb,0,none⟩)] w fun e w'=>∃op:zs1,e=.returned (.agg (zoa op).toArray)/\JF rb c L (N+10) w'/\Q0 [rb] w w':=by
 refine(Lm (some ⟨rb,0,none⟩) (R:=fun v w'=>∃op:zs1,v=.agg (zoa op).toArray/\JF rb c L (N+10) w'/\Q0 [rb] w w') ?_).mono fun e w' ⟨v,he,op,hv,h1⟩=>⟨op,by rw[he,hv],h1⟩
 intro b hb b1 hb1 wr hx hs;refine(Dr.pick ((Dr.start h).put2 hx hb hb1) (by omega) hs).mono ?_;rintro e w1 ⟨v1,he,hk,⟨p0,_,p2⟩,h1⟩;have p2:=p2 (by decide);refine⟨_,he,hk,⟨by omega,by omega⟩,ztr (by decide) rfl (by omega) (by omega) fun x=>?_⟩;refine⟨fun vs bs w2=>bs=[]/\(∃x:Int,vs=[.int .i64 x])/\Dr rb c L N 2 [b,b1] w w2,⟨fun _ wr hx hs=>?_,fun _=>⟨fun _ wr hx _=>⟨rfl,⟨_,rfl⟩,(h1.step hx).more (by decide)⟩,fun _ wr hx _=>⟨rfl,⟨_,rfl⟩,(h1.step hx).more (by decide)⟩⟩⟩,?_⟩
 ·refine(Dr.pick (h1.step hx) (by omega) hs).mono ?_;rintro e w3 ⟨v3,he,hk,_,h3⟩;exact⟨_,he,hk,fun _ wr hx _=>⟨rfl,⟨_,rfl⟩,h3.step hx⟩,fun _ wr hx _=>⟨rfl,⟨_,rfl⟩,h3.step hx⟩⟩
 clear h1;rintro kind w2 hs2 ⟨-,-,h2⟩;refine⟨fun vs bs w2=>bs=[]/\(∃x:Int,vs=[.int .i64 x])/\Dr rb c L N 4 [b,b1] w w2,fun wr hx hs=>?_,?_⟩
 ·refine(Dr.pick (h2.step hx) (by omega) hs).mono ?_;rintro e w3 ⟨v3,he,hk,_,h3⟩;refine⟨_,he,hk,fun _ wr hx hs=>?_,fun _ wr hx _=>⟨rfl,⟨_,rfl⟩,(h3.step hx).more (by decide)⟩⟩;refine(Dr.pick (h3.step hx) (by omega) hs).mono ?_;rintro e w4 ⟨v4,he,hk,⟨q0,_,q2⟩,h4⟩;have q2:=q2 (by decide);exact⟨_,he,hk,⟨by omega,by omega⟩,fun wr hx _=>⟨rfl,⟨_,rfl⟩,h4.step hx⟩⟩
 clear h2;rintro kind2 w5 hs5 ⟨-,-,h5⟩ wr hx hs;refine(Dr.pick (h5.step hx) (by omega) hs).mono ?_;rintro e w6 ⟨v6,he,hk,⟨p60,_,p62⟩,h6⟩;have p62:=p62 (by decide);refine⟨_,he,hk,fun wr hx hs=>?_⟩;refine(Dr.pick (h6.step hx) (by omega) hs).mono ?_;rintro e w7 ⟨v7,he,hk,⟨p70,_,p72⟩,h7⟩;have p72:=p72 (by decide)
 have hd:0<=Int.tdiv v7 29/\Int.tdiv v7 29<=1:=by
  rw[Int.tdiv_eq_ediv_of_nonneg p70];omega
 refine⟨_,he,hk,⟨by decide,⟨by omega,by omega⟩⟩,⟨by omega,by omega⟩,fun b2 hb2 wr hx hs=>?_⟩;refine(Dr.pick (h7.put hx hb2) (by omega) hs).mono ?_;rintro e w8 ⟨v8,he,hk,⟨p80,_,p82⟩,h8⟩;have p82:=p82 (by decide);exact⟨_,he,hk,⟨by omega,by omega⟩,ztr (by decide) rfl (by omega) (by omega) fun x wr hx=>⟨⟨_,_,_⟩,rfl,(h8.step hx).fin (by decide)⟩⟩
def zbj:List Int:=[1,20,21,50,100,10000]
theorem zfh{v:Int}(h0:0<=v)(h1:v<6):Yo (gi zbj v) 1 10000=true:=by
 have:v=0\/v=1\/v=2\/v=3\/v=4\/v=5:=by omega
 rcases this with rfl | rfl | rfl | rfl | rfl | rfl <;> rfl
structure Vw (rb:Nat) (c:OA) (L N n:Nat) (bs:List Nat) (w0 w:Wo) (bt:Nat):Prop where
 d:Dr rb c L N n bs w0 w
 v:Ob Xu 1 Qb 0 (rb::bs) w (some ⟨bt,0,none⟩) 6 zbj
structure Bw (rb:Nat) (c:OA) (L N n:Nat) (bs:List Nat) (w0 w:Wo) (B:Jb) (p:MG):Prop where
 P:Vz B
 d:Dr rb c L N n bs w0 w
 o:QR w0.heap.size w B p
 nb:∀x∈Zt p,x∉rb::bs
section
variable {rb b bt:Nat}{c:OA}{L N n k:Nat}{bs cs:List Nat}{w0 w w':Wo}{B B':Jb}{p p':MG}
theorem Vw.of(h:Dr rb c L N n bs w0 w)(hx:Q0 bs w w')(hb:w.heap.size<=bt)(hh:w'.heap[bt]? = some (Obj.cells ([.int .i64 1,.int .i64 20,.int .i64 21,.int .i64 50,.int .i64 100,.int .i64 10000]:List Va).toArray Qb (0,0)))(hn:bt∉bs):Vw rb c L N n bs w0 w' bt:=
 ⟨h.step hx,.inr ⟨bt,[],rfl,Nat.zero_le _,by simpa[zbj,Xu] using hh,by simp[zbj,Xu],by simp[zbj]⟩,fun x hxx hm=>by
  have:x=bt:=by simpa[Qy] using hxx
  subst this;rcases List.mem_cons.1 hm with h1 | h1
  ·have:=h.r.rd.lt; omega
  ·exact hn h1⟩
theorem Vw.step(h:Vw rb c L N n bs w0 w bt)(hx:Q0 bs w w'):Vw rb c L N n bs w0 w' bt:=⟨h.d.step hx,h.v.step (hx.mono fun _ hm=>List.mem_cons_of_mem _ hm)⟩
theorem Vw.put(h:Vw rb c L N n bs w0 w bt)(hx:Q0 bs w w')(hb:w.heap.size<=b):Vw rb c L N n (bs++[b]) w0 w' bt:=⟨h.d.put hx hb,h.v.put (hx.mono fun _ hm=>List.mem_cons_of_mem _ hm) hb⟩
theorem Vw.call0(h:Vw rb c L N n bs w0 w bt)(hx:Q0 [] w w'):Vw rb c L N n bs w0 w' bt:=h.step hx.of_nil
theorem Vw.pick(h:Vw rb c L N n bs w0 w bt)(hN:N+n<=1000000000000)(hs:∀x∈bs,x<w.heap.size){q:Int} :
  Cz Q1 #[.pointer (some ⟨rb,0,none⟩),.int .i64 q] w fun e w'=>∃v,e=.returned (.int .i64 v)/\Q9 bs w w'/\GO q v/\Vw rb c L N (n+1) bs w0 w' bt:=
 (Gk h.d.r.rd hN).mono fun e w' ⟨v,he,hq,hr,hx⟩=>⟨v,he,OL h.d.r hx hs,hq,⟨h.d.r.upd (by rw[<-Nat.add_assoc]; exact hr),h.d.ext.trans hx,h.d.new⟩,h.v.step (hx.mono fun x hm=>by
  have:x=rb:=by simpa using hm
  subst this; exact List.mem_cons_self)⟩
theorem Vw.ix(h:Vw rb c L N n bs w0 w bt){v:Int}(h0:0<=v)(h1:v<6):Ix (some (Addr.mk bt 0 none)) 6 v:=h.v.own.ix h0 h1
theorem Vw.cell(h:Vw rb c L N n bs w0 w bt){v:Int}(h0:0<=v)(h1:v<6):Q2 bs w (some (Addr.mk bt 0 none)) (Int.toNat v*1) [.int .i64 (gi zbj v)]:=((h.v.rd ZW.len).less fun _ hm=>List.mem_cons_of_mem _ hm) v h0 h1
theorem zq0(h:QR w.heap.size w' B p)(d:Dr rb c L N n bs w0 w)(hs:∀x∈bs,x<w.heap.size):∀x∈Zt p,x∉rb::bs:=fun x hx hm=>by
 have:=(h.lt x hx).1;rcases List.mem_cons.1 hm with h1 | h1
 ·have:=d.r.rd.lt; omega
 ·have:=hs x h1; omega
theorem QR.wid{base:Nat}(h:QR base w B p)(hx:Q0 bs w w')(hd:∀x∈Zt p,x∉bs):QR base w' B p:=⟨h.loc.ext hx fun x hm=>hd x (List.mem_append_left _ hm),h.dry.ext hx fun x hm=>hd x (List.mem_append_right _ hm)⟩
theorem Bw.new(d:Dr rb c L N n bs w0 w)(hs:∀x∈bs,x<w.heap.size)(hP:Vz B)(ho:QR w.heap.size w' B p)(hx:Q0 [] w w'):Bw rb c L N n bs w0 w' B p:=
 ⟨hP,d.step hx.of_nil,⟨ho.loc.mono d.ext.size,ho.dry.mono d.ext.size⟩,zq0 ho d hs⟩
theorem Bw.step(h:Bw rb c L N n bs w0 w B p)(hx:Q0 bs w w'):Bw rb c L N n bs w0 w' B p:=⟨h.P,h.d.step hx,h.o.wid hx fun x hm hm'=>h.nb x hm (List.mem_cons_of_mem _ hm'),h.nb⟩
theorem Bw.put(h:Bw rb c L N n bs w0 w B p)(hx:Q0 bs w w')(hb:w.heap.size<=b):Bw rb c L N n (bs++[b]) w0 w' B p:=
 ⟨h.P,h.d.put hx hb,h.o.wid hx fun x hm hm'=>h.nb x hm (List.mem_cons_of_mem _ hm'),fun x hx1 hm=>by
  have hlt:=(h.o.lt x hx1).2;rcases List.mem_cons.1 hm with h1 | h1
  ·exact h.nb x hx1 (by rw[h1]; exact List.mem_cons_self)
  ·rcases List.mem_append.1 h1 with h2 | h2
   ·exact h.nb x hx1 (List.mem_cons_of_mem _ h2)
   ·have:x=b:=by simpa using h2
    omega⟩
theorem Bw.drawn(h:Bw rb c L N n bs w0 w B p)(hr:JF rb c L (N+n+k) w')(hx:Q0 [rb] w w'):Bw rb c L N (n+k) bs w0 w' B p:=
 ⟨h.P,⟨h.d.r.upd (by rw[<-Nat.add_assoc]; exact hr),h.d.ext.trans hx,h.d.new⟩,h.o.wid hx fun x hm hm'=>h.nb x hm (by
  have:x=rb:=by simpa using hm'
  rw[this]; exact List.mem_cons_self),h.nb⟩
theorem Bw.pick(h:Bw rb c L N n bs w0 w B p)(hN:N+n<=1000000000000)(hs:∀x∈bs,x<w.heap.size){q:Int} :
  Cz Q1 #[.pointer (some ⟨rb,0,none⟩),.int .i64 q] w fun e w'=>∃v,e=.returned (.int .i64 v)/\Q9 bs w w'/\GO q v/\Bw rb c L N (n+1) bs w0 w' B p:=
 (Gk h.d.r.rd hN).mono fun e w' ⟨v,he,hq,hr,hx⟩=>⟨v,he,OL h.d.r hx hs,hq,h.drawn hr hx⟩
theorem Bw.op(h:Bw rb c L N n bs w0 w B p)(hN:N+n<=900000000000)(hs:∀x∈bs,x<w.heap.size) :
  Cz Xi #[.pointer (some ⟨rb,0,none⟩)] w fun e w'=>∃op:zs1,e=.returned (.agg (zoa op).toArray)/\Q9 bs w w'/\Bw rb c L N (n+10) bs w0 w' B p:=
 (zow h.d.r.rd hN).mono fun e w' ⟨op,he,hr,hx⟩=>⟨op,he,OL h.d.r hx hs,h.drawn hr hx⟩
theorem Bw.do(h:Bw rb c L N n bs w0 w B p)(hs:∀x∈bs,x<w.heap.size){op:zs1} :
  Cz Y2 #[.agg (QT B p).toArray,.agg (zoa op).toArray] w fun e w'=>∃(B':Jb) (p':MG) (d:Int),e=.returned (.tuple #[.agg (QT B' p').toArray,.int .i64 d])/\Q9 bs w w'/\Bw rb c L N n bs w0 w' B' p':=
 (J4 (op:=op) h.P (h.o.loc.rd ZW.len (by simp)) (h.o.dry.rd Ys.len (by simp))).mono fun e w' ⟨p',he,ho,hx⟩=>⟨_,p',_,he,Qd hx hs,Bw.new h.d hs (zny h.P op) ho hx⟩
structure zuw (w w':Wo) (B:Jb) (p:MG):Prop where
 ll:B.locals.length<=5
 dl:B.dry.length<=4
 rl:∀bs:List Nat,(∀x∈bs,x<w.heap.size)->zfa bs w' p.lO B.locals
 rd:∀bs:List Nat,(∀x∈bs,x<w.heap.size)->zjp bs w' p.dO B.dry
theorem QR.bdv(h:QR w.heap.size w' B p)(hl:B.locals.length<=5)(hd:B.dry.length<=4):zuw w w' B p:=
 ⟨hl,hd,fun bs hs=>h.loc.rd ZW.len fun x hx hm=>by have:=(h.loc.lt x hx).1; have:=hs x hm; omega,fun bs hs=>h.dry.rd Ys.len fun x hx hm=>by have:=(h.dry.lt x hx).1; have:=hs x hm; omega⟩
theorem Bw.bdv(h:Bw rb c L N n bs w0 w B p):zuw w0 w B p:=h.o.bdv (by have:=h.P.l2; omega) (by have:=h.P.l2; have:=h.P.dl; omega)
theorem zsm{o:OA}{l:List Bool}{C:Nat}(h:zjp bs w o l)(h1:1<=l.length)(hC:l.length<=C):zjp bs w (if C=Int.toNat 1 then o else o.map (·.add (Int.toNat 1*1))) l.tail:=fun i i0 i1=>by
 have hl:l.tail.length=l.length-1:=by simp
 rw[hl] at i1;have hc:=h (i+1) (by omega) (by omega)
 have e:gi l.tail i=gi l (i+1):=by
  obtain⟨k,rfl⟩:=Int.eq_ofNat_of_zero_le i0;rw[J0 (by rw[hl]; omega),show ((k:Int)+1)=((k+1:Nat):Int) by omega,J0 (by omega)];simp
 rw[e,if_neg (by show ¬C=1; omega)];refine UP fun j v hj=>?_
 obtain⟨a,ha,hb,hcell⟩:=hc.get j v hj;refine⟨a.add (Int.toNat 1*1),by rw[ha]; rfl,by rw[Zl]; exact hb,?_⟩;rw[Xt]
 have:Int.toNat 1*1+(Int.toNat i*1+j)=Int.toNat (i+1)*1+j:=by
  have:Int.toNat (i+1)=Int.toNat i+1:=by omega
  rw[this];show 1*1+_=_;omega
 rw[this]; exact hcell
end
theorem zt4{rb:Nat}{c:OA}{L N:Nat}{w:Wo}(h:JF rb c L N w)(hN:N<=800000000000) :
  Cz UG #[.pointer (some ⟨rb,0,none⟩)] w fun e w'=>∃(B:Jb) (p:MG),e=.returned (.agg (QT B p).toArray)/\zuw w w' B p/\JF rb c L (N+300) w'/\Q0 [rb] w w':=by
 refine(Hj (some ⟨rb,0,none⟩) (R:=fun v w'=>∃(B:Jb) (p:MG),v=.agg (QT B p).toArray/\zuw w w' B p/\JF rb c L (N+300) w'/\Q0 [rb] w w') ?_).mono fun e w' ⟨v,he,B,p,hv,h1⟩=>⟨B,p,by rw[he,hv],h1⟩
 intro b hbA;have h0:=Dr.start h;refine⟨fun vs bs w2=>∃(bt:Nat) (B:Jb) (p:MG),bs=[bt]/\vs=QT B p/\Bw rb c L N 2 [b,bt] w w2 B p,?_,?_⟩
 ·repeat' first
   | exact rfl
   | (refine And.intro ?_ ?_)
   | (intro (bt:Nat) (wb:Wo) hx hsz hh hn; have hV:=Vw.of (by assumption) hx hsz hh hn)
   | (intro (bt:Nat) (wb:Wo) hx hsz hh hn; have hV:=Vw.of (Dr.add h0 hbA) hx.of_nil hsz hh hn)
   | (intro (bt:Nat) (wb:Wo) hx hsz hh hn; have hV:=Vw.of (Dr.add (Dr.add h0 hbA) (by assumption)) hx.of_nil hsz hh hn)
   | (intro (bt:Nat) (wb:Wo) hx hsz hh hn; have hV:=Vw.of (Dr.add (by assumption) (by assumption)) (hx.mono fun _ hm=>List.mem_append_left _ hm) hsz hh hn)
   | (intro (b:Nat) hb)
   | (refine⟨_,Vw.cell (by assumption) (by omega) (by omega),?_⟩)
   | exact Vw.cell (by assumption) (by omega) (by omega)
   | exact Vw.ix (by assumption) (by omega) (by omega)
   | (intro (wr:Wo) hx hs; refine(Vw.pick (Vw.step (by assumption) hx) ?_ hs).mono ?_; rotate_left; rintro e w2 ⟨v,he,hk,⟨hp0,_,hp2⟩,hC⟩; have hp2:=hp2 (by decide); refine⟨_,he,hk,?_⟩)
   | (intro (wr:Wo) hx hs; refine(Vw.pick (Vw.put (by assumption) hx (by assumption)) ?_ hs).mono ?_; rotate_left; rintro e w2 ⟨v,he,hk,⟨hp0,_,hp2⟩,hC⟩; have hp2:=hp2 (by decide); refine⟨_,he,hk,?_⟩)
   | (intro (wr:Wo) hx hs; refine(Dr.pick (Dr.step (by assumption) hx) ?_ hs).mono ?_; rotate_left; rintro e w2 ⟨v,he,hk,⟨hp0,_,hp2⟩,hC⟩; have hp2:=hp2 (by decide); refine⟨_,he,hk,?_⟩)
   | (intro (wr:Wo) hx hs; refine(Dr.pick (Dr.put (by assumption) hx (by assumption)) ?_ hs).mono ?_; rotate_left; rintro e w2 ⟨v,he,hk,⟨hp0,_,hp2⟩,hC⟩; have hp2:=hp2 (by decide); refine⟨_,he,hk,?_⟩)
   | (intro (wr:Wo) hx hs; refine(Dr.pick (Dr.put2 h0 hx hbA (by assumption)) ?_ hs).mono ?_; rotate_left; rintro e w2 ⟨v,he,hk,⟨hp0,_,hp2⟩,hC⟩; have hp2:=hp2 (by decide); refine⟨_,he,hk,?_⟩)
   | (intro (wr:Wo) hx hs; have hV:=Vw.step (by assumption) hx; refine(zox (zfh (by omega) (by omega)) (by omega) (by omega)).mono ?_; rintro e w2 ⟨B,p,he,hP,ho,hy⟩; have hB:=Bw.new hV.d hs hP ho hy; have hV2:=hV.call0 hy; refine⟨_,_,_,_,_,_,_,_,_,_,he,Qd hy hs,?_⟩)
   | (intro (wr:Wo) hx hs; have hV:=Vw.put (by assumption) hx (by assumption); refine(zox (zfh (by omega) (by omega)) (by omega) (by omega)).mono ?_; rintro e w2 ⟨B,p,he,hP,ho,hy⟩; have hB:=Bw.new hV.d hs hP ho hy; have hV2:=hV.call0 hy; refine⟨_,_,_,_,_,_,_,_,_,_,he,Qd hy hs,?_⟩)
   | (intro (wr:Wo) hx hs; exact⟨_,_,_,rfl,rfl,Bw.put (by assumption) hx (by assumption)⟩)
   | (intro (wr:Wo) hx hs; exact⟨_,_,_,rfl,rfl,Bw.step (by assumption) hx⟩)
   | omega
 clear h0;rintro l l1 l2 l3O l3L l3C l4O l4L l4C b22 w31 hs31 ⟨bt,B,p,hbt,hv,hB⟩ wr hx hs;have:b22=bt:=by simpa using hbt
 subst this;simp only[QT,List.cons.injEq,Value.int.injEq,Value.slice.injEq,true_and,and_true] at hv;obtain⟨rfl,rfl,rfl,⟨rfl,rfl,rfl⟩,rfl,rfl,rfl⟩:=hv;refine(Bw.pick (hB.step hx) (by omega) hs).mono ?_;rintro e1 w1 ⟨v1,he1,hk1,⟨p10,_,p12⟩,hB1⟩;have p12:=p12 (by decide);refine⟨_,he1,hk1,?_⟩;refine⟨fun vs w2=>∃(k n:Nat) (B:Jb) (p:MG),vs=.int .i64 (k:Int)::QT B p/\(k:Int)<=v1/\n<=3+10*k/\Bw rb c L N n [b,b22] w w2 B p,Zu v1.toNat 0,fun wr hx _=>⟨0,2+1,B,p,rfl,p10,by omega,hB1.step hx⟩,?_⟩;clear hB1 hk1 he1 hs hx hB hs31;clear B p;rintro i1 l5 l6 l7 l8O l8L l8C l9O l9L l9C w36 hs ⟨k,n,B,p,he,hk,hn,hK⟩;simp only[QT,List.cons.injEq,Value.int.injEq,Value.slice.injEq,true_and,and_true] at he;obtain⟨rfl,rfl,rfl,rfl,⟨rfl,rfl,rfl⟩,rfl,rfl,rfl⟩:=he;refine⟨fun hlt wr hx hs=>?_,fun hge wr hx hs=>?_⟩
 ·have hlt:=Ot hlt;refine(Bw.op (hK.step hx) (by omega) hs).mono ?_;rintro e2 w2 ⟨op,he2,hk2,hB2⟩;refine⟨_,_,_,he2,hk2,rfl,fun wr hx hs=>?_⟩;refine(Bw.do (hB2.step hx) hs (op:=op)).mono ?_;rintro e3 w3 ⟨B3,p3,d,he3,hk3,hB3⟩;exact⟨_,_,_,_,_,_,_,_,_,_,he3,hk3,⟨by omega,by omega⟩,fun wr hx _=>⟨⟨k+1,n+10,B3,p3,by simp[QT],by omega,by omega,hB3.step hx⟩,Z6 (k:=k) rfl rfl (by omega)⟩⟩
 have hge:=Ou hge;refine(Bw.pick (hK.step hx) (by omega) hs).mono ?_;rintro e4 w4 ⟨v4,he4,hk4,_,hB4⟩;refine⟨_,he4,hk4,fun _ wr hx=>⟨B,p,rfl,(hB4.step hx).bdv,(hB4.step hx).d.fin (by omega)⟩,fun _ wr hx hs=>?_⟩;have l1:=hK.P.l1;have l2:=hK.P.l2;have hdl:=hK.P.dl;have hP:=hK.P;have q2:=hP.q2;have p1:=hP.p1;have p2:=hP.p2;have s1:=hP.s1;have s2:=hP.s2;refine(Bw.pick (hB4.step hx) (by omega) hs).mono ?_;rintro e5 w5 ⟨v5,he5,hk5,⟨p50,_,p52⟩,hB5⟩;have p52:=p52 (by omega);refine⟨_,he5,hk5,fun wr hx hs=>?_⟩;refine(Bw.pick (hB5.step hx) (by omega) hs).mono ?_;rintro e6 w6 ⟨v6,he6,hk6,_,hB⟩;have hnb:∀x∈Zt p,x∉[b,b22]:=fun x hx hm=>hB.nb x hx (List.mem_cons_of_mem _ hm)
 have hnew:∀x∈Zt p,w.heap.size<=x:=fun x hx=>(hB.o.lt x hx).1
 have fin:∀{w7 wr:Wo} {B':Jb},QR w.heap.size w7 B' p->Q0 (Zt p) w6 w7->Q0 [b,b22] w7 wr->B'.locals.length<=5->B'.dry.length<=4->zuw w wr B' p/\JF rb c L (N+300) wr/\Q0 [rb] w wr:=fun {w7 wr B'} ho hx1 hx2 hl hd=>by
  have hd2:Dr rb c L N (n+1+1+1) [b,b22] w w7:=⟨hB.d.r.call hx1 (fun hm=>hB.nb rb hm List.mem_cons_self) fun a ha=>by
   rcases h.ltc a ha with h3 | h3
   ·exact .inl fun hm=>by have:=hnew _ hm; omega
   ·exact .inr h3,hB.d.ext.fresh hx1 fun x hm=>.inl (hnew x hm),hB.d.new⟩
  have hd3:=hd2.step hx2;exact⟨(ho.wid hx2 hnb).bdv hl hd,hd3.fin (by omega)⟩
 have fin0:∀{wr:Wo} {B':Jb},B'.locals=B.locals->B'.dry=B.dry->Q0 [b,b22] w6 wr->zuw w wr B' p/\JF rb c L (N+300) wr/\Q0 [rb] w wr:=fun {wr B'} el ed hx2=>by
  have k:=hB.step hx2;have hb:=k.bdv;exact⟨⟨by rw[el]; exact hb.ll,by rw[ed]; exact hb.dl,by rw[el]; exact hb.rl,by rw[ed]; exact hb.rd⟩,k.d.fin (by omega)⟩
 have hix:Ix p.dO B.dry.length v5:=hB.o.dry.ix p50 (by omega);have hixl:Ix p.lO B.locals.length v5:=hB.o.loc.ix p50 (by omega);refine⟨_,he6,hk6,fun _=>⟨⟨by omega,by omega⟩,fun wr hx=>⟨{ B with pool:=B.pool+1 },p,rfl,fin0 rfl rfl hx⟩⟩,fun _=>⟨fun _=>⟨hix,_,(hB.o.dry.rd Ys.len fun x hx=>hnb x (List.mem_append_right _ hx)) v5 p50 (by omega),hix,hB.o.dry.wr Ys.len (fun x hx=>hnb x (List.mem_append_right _ hx)) p50 (by omega) (j:=0) (n:=1) (by decide),fun wr hx=>?_⟩,fun _=>⟨fun _=>⟨hixl,hB.o.loc.wr ZW.len (fun x hx=>hnb x (List.mem_append_left _ hx)) p50 (by omega) (j:=0) (n:=1) (by decide),fun wr hx=>?_⟩,fun _=>⟨fun _ wr hx=>⟨{ B with quota:=0 },p,rfl,fin0 rfl rfl hx⟩,fun _=>⟨fun _=>⟨⟨by omega,by omega,?_⟩,fun wr hx=>?_⟩,fun _=>⟨fun _ ba hba wr hx hs hh=>?_,fun _=>⟨fun _=>⟨⟨by omega,by omega⟩,⟨by omega,by omega⟩,fun wr hx=>⟨{ B with pool:=B.pool-1,spent:=B.spent+1 },p,rfl,fin0 rfl rfl hx⟩⟩,fun _ wr hx=>⟨B,p,rfl,fin0 rfl rfl hx⟩⟩⟩⟩⟩⟩⟩⟩
 ·exact⟨{ B with dry:=B.dry.set v5.toNat (!gi B.dry v5) },p,by simp[QT],fin (hB.o.stoD p50 (by omega) _) (hB.o.xD _ _) hx (by show B.locals.length<=5; omega) (by show (B.dry.set _ _).length<=4; rw[List.length_set]; omega)⟩
 ·exact⟨{ B with locals:=B.locals.set v5.toNat (-1) },p,by simp[QT],fin (hB.o.stoL p50 (by omega) _) (hB.o.xL _ _) hx (by show (B.locals.set _ _).length<=5; rw[List.length_set]; omega) (by show B.dry.length<=4; omega)⟩
 ·have:=hB.o.dry.le; omega
 ·have k:=hB.step hx;have hb:=k.bdv;have hle:=hB.o.dry.le;refine⟨{ B with dry:=B.dry.tail },{ p with dO:=if p.dC=Int.toNat 1 then p.dO else p.dO.map (·.add (Int.toNat 1*1)),dC:=p.dC-Int.toNat 1 },?_,⟨hb.ll,by show B.dry.tail.length<=4; simp; omega,hb.rl,fun bs hs=>zsm (hb.rd bs hs) (by omega) hle⟩,k.d.fin (by omega)⟩;simp[QT]
 ·have hB2:=hB.put hx hba;have hnb2:∀x∈Zt p,x∉[b,b22,ba]:=fun x hx hm=>hB2.nb x hx (List.mem_cons_of_mem _ hm)
  obtain⟨o',cap',w9,hrun,hown,hxa,hor⟩:=zgx ZW TB hB2.o.loc (x:=0) (fz:=(0,0)) hh (by rfl) (by omega) (by omega) ZE #[false,false] (by have:=hB2.d.ext.size; omega);have hk9:Q9 [b,b22,ba] wr w9:=hxa.kept fun x hm=>⟨hs x hm,fun hm2=>hnb2 x (List.mem_append_left _ hm2) hm⟩
  refine⟨_,_,_,w9,hrun,hk9,fun wr2 hx2=>?_⟩
  have hnbL:∀x∈Qy o',x∉[b,b22,ba]:=fun x hxo hm=>by
   rcases hor with e | e
   ·rw[e] at hxo; exact hnb2 x (List.mem_append_left _ hxo) hm
   ·rw[e] at hxo;have:x=wr.heap.size:=by simpa[Qy] using hxo
    have:=hs x hm;omega
  have hrb:rb∉Qy p.lO:=fun hm=>hB2.nb rb (List.mem_append_left _ hm) List.mem_cons_self
  have hd2:Dr rb c L N (n+1+1+1) [b,b22,ba] w w9:=⟨hB2.d.r.call hxa hrb fun a ha=>by
   rcases h.ltc a ha with h3 | h3
   ·exact .inl fun hm=>by have:=hnew _ (List.mem_append_left _ hm); omega
   ·exact .inr h3,hB2.d.ext.fresh hxa fun x hm=>.inl (hnew x (List.mem_append_left _ hm)),hB2.d.new⟩
  have hdry:Jp Ol 1 ZR w.heap.size wr2 p.dO p.dC B.dry:=(hB2.o.dry.ext hxa (hB2.o.dry.ty_ne hB2.o.loc (by decide))).ext hx2 fun x hm=>hnb2 x (List.mem_append_right _ hm)
  have hloc:Jp Xu 1 Qb w.heap.size wr2 o' cap' (B.locals++[0]):=hown.ext hx2 hnbL;exact⟨{ B with locals:=B.locals++[0] },{ p with lO:=o',lC:=cap' },by simp[QT],QR.bdv ⟨hloc,hdry⟩ (by simp; omega) (by show B.dry.length<=4; omega),(hd2.step hx2).fin (by omega)⟩
theorem zpt{α:Type}[Inhabited α]{enc:α->List Va}{z:Nat}{bs:List Nat}{w:Wo}{o:OA}{l:List α}{C:Nat}(h:Rd enc z bs w o l)(h1:1<=l.length)(hC:l.length<=C):Rd enc z bs w (if C=Int.toNat 1 then o else o.map (·.add (Int.toNat 1*z))) l.tail:=fun i i0 i1=>by
 have hl:l.tail.length=l.length-1:=by simp
 rw[hl] at i1;have hc:=h (i+1) (by omega) (by omega)
 have e:gi l.tail i=gi l (i+1):=by
  obtain⟨k,rfl⟩:=Int.eq_ofNat_of_zero_le i0;rw[J0 (by rw[hl]; omega),show ((k:Int)+1)=((k+1:Nat):Int) by omega,J0 (by omega)];simp
 rw[e,if_neg (by show ¬C=1; omega)];refine UP fun j v hj=>?_
 obtain⟨a,ha,hb,hcell⟩:=hc.get j v hj;refine⟨a.add (Int.toNat 1*z),by rw[ha]; rfl,by rw[Zl]; exact hb,?_⟩;rw[Xt]
 have:Int.toNat 1*z+(Int.toNat i*z+j)=Int.toNat (i+1)*z+j:=by
  have:Int.toNat (i+1)=Int.toNat i+1:=by omega
  rw[this,Nat.succ_mul];show 1*z+_=_;omega
 rw[this]; exact hcell
def ztd(rb:Nat)(c:OA)(L N:Nat)(w0:Wo)(v:Va)(w:Wo):Prop:=∃(W:Q7) (m:MW),v=.agg (Qa W m).toArray/\Xc W/\(∀ds:List Nat,(∀x∈ds,x<w0.heap.size)->YZ ds w W m)/\JF rb c L (N+1500) w/\Q0 [rb] w0 w
section
variable {rb:Nat}{c:OA}{L N n q:Nat}{bs:List Nat}{w0 w w1 wr:Wo}{W W':Q7}{m:MW}
theorem Xr.aft(h:Xr Dd rb c L N n bs w0 w W m)(ltc:∀a,c=some a->a.block<w0.heap.size\/L=0)(hx1:Q0 (QB 8 m) w w1)(hx2:Q0 bs w1 wr)(hq:n<=q):JF rb c L (N+q) wr/\Q0 [rb] w0 wr:=by
 have hnew:∀x∈QB 8 m,w0.heap.size<=x:=fun x hx=>(h.o.own.lt x hx).1
 have d2:Dr rb c L N n bs w0 w1:=⟨h.d.r.call hx1 (fun hm=>h.o.nb rb hm List.mem_cons_self) fun a ha=>by
  rcases ltc a ha with h3 | h3
  ·exact .inl fun hm=>by have:=hnew _ hm; omega
  ·exact .inr h3,h.d.ext.fresh hx1 fun x hm=>.inl (hnew x hm),h.d.new⟩
 exact(d2.step hx2).fin hq
theorem Xr.btv(h:Xr Dd rb c L N n bs w0 w W m)(ltc:∀a,c=some a->a.block<w0.heap.size\/L=0)(hl:Xc W')(hM:Y1 8 w0.heap.size w1 W' m)(hx1:Q0 (QB 8 m) w w1)(hx2:Q0 bs w1 wr)(hq:n<=1500):ztd rb c L N w0 (.agg (Qa W' m).toArray) wr:=
 ⟨W',m,rfl,hl,fun ds hd=>(hM.ext hx2 fun x hx hm=>h.o.nb x hx (List.mem_cons_of_mem _ hm)).rd fun x hx hm=>by
  have:=(h.o.own.lt x hx).1;have:=hd x hm;omega,h.aft ltc hx1 hx2 hq⟩
theorem Xr.rdn(h:Xr Dd rb c L N n bs w0 w W m)(ds:List Nat)(hd:∀x∈ds,x<w0.heap.size):YZ ds w W m:=h.o.own.rd fun x hx hm=>by
 have:=(h.o.own.lt x hx).1;have:=hd x hm;omega
theorem Xr.btv0(h:Xr Dd rb c L N n bs w0 w W m)(hx:Q0 bs w wr)(hq:n<=1500):ztd rb c L N w0 (.agg (Qa W m).toArray) wr:=
 ⟨W,m,rfl,h.iv.len,(h.step hx).rdn,((h.step hx).d.fin hq)⟩
theorem zr3(h:Xc W)(i:Int)(x:OY):Xc (setCp W i x):=⟨by show (List.set _ _ _).length<=_; rw[List.length_set]; exact h.c,h.t,h.g,h.f⟩
theorem zr4(h:Xc W)(i:Int)(x:P5):Xc (setTk W i x):=⟨h.c,by show (List.set _ _ _).length<=_; rw[List.length_set]; exact h.t,h.g,h.f⟩
theorem BN(h:Xc W){i:Int}(i0:0<=i)(i1:i<(W.groups.length:Int)){G:ZA}(hG:zcs G):Xc (setGr W i G):=by
 have hl:(setGr W i G).groups.length=W.groups.length:=List.length_set;refine⟨h.c,h.t,by rw[hl]; exact h.g,fun j a b=>?_⟩;rw[hl] at b;rw[Yj i0 i1 a];split
 ·exact hG
 ·exact h.f j a b
theorem zsl{base:Nat}(hM:Y1 8 base w W m)(hn:∀x∈QB 8 m,x∉bs){g:Int}(g0:0<=g)(g8:g<8){B:Jb}{p:MG}(hl:zfa bs (sto w m.gO (Int.toNat g*14+8) (QT B p)) p.lO B.locals)(hd:zjp bs (sto w m.gO (Int.toNat g*14+8) (QT B p)) p.dO B.dry) :
  YZ bs (sto w m.gO (Int.toNat g*14+8) (QT B p)) (setBd W g B) (Oc m g.toNat (VH (m.ms g.toNat) p)):=by
 have hgl:=hM.len;have hx:Q0 (Qy m.gO) w (sto w m.gO (Int.toNat g*14+8) (QT B p)):=hM.g.row.stoX _ _;have hrow:=hM.g.row.sto ZJ.len g0 (by rw[Xl]; omega) (j:=8) (vs:=QT B p) (x:=({ gi W.groups g with band:=B },VH (m.ms g.toNat) p)) (by rw[Vt g0 (by omega)]; rfl) (by show 8+5<=14; decide);rw[<-zeo g0 (by omega)] at hrow;have hrow:Jp VE 14 QC base (sto w m.gO (Int.toNat g*14+8) (QT B p)) m.gO m.gC (zix (setBd W g B) (Oc m g.toNat (VH (m.ms g.toNat) p))):=hrow;have hps:(setBd W g B).groups.length=8:=by show (List.set _ _ _).length=_; rw[List.length_set]; exact hgl
 have e1:∀i:Int,0<=i->gi (setBd W g B).groups i=if g=i then { gi W.groups g with band:=B } else gi W.groups i:=fun i a=>Yj g0 (by omega) a
 have e2:∀i:Int,0<=i->(Oc m g.toNat (VH (m.ms g.toNat) p)).ms i.toNat=if g=i then VH (m.ms g.toNat) p else m.ms i.toNat:=fun i a=>by
  show (if g.toNat=i.toNat then _ else _)=_
  by_cases e:g=i
  ·rw[if_pos e,if_pos (by omega)]
  ·rw[if_neg e,if_neg (by omega)]
 refine⟨(hM.c.ext hx (hM.c.ty_ne hM.g.row (by decide))).rd Mf.len fun x hx=>hn x (Ee hx),(hM.t.ext hx (hM.t.ty_ne hM.g.row (by decide))).rd Tp.len fun x hx=>hn x (Eg hx),⟨fun i i0 i1=>?_,fun i i0 i1=>?_,fun i i0 i1=>?_,fun i i0 i1=>?_⟩⟩
 ·have:=hrow.rd ZJ.len (bs:=bs) (fun x hx=>hn x (Ef hx)) i i0 (by rw[Xl]; exact i1)
  rwa[Vt i0 i1] at this
 all_goals
  rw[hps] at i1;rw[e1 i i0,e2 i i0]
  have hi:=(hM.each i0 (by omega)).ext hx (by
   have:=Xj hM.g.row (hM.g.each i i0 (by rw[Xl]; omega))
   rwa[Vt i0 (by omega)] at this)
  split
 ·exact hl
 ·exact hi.loc.rd ZW.len fun x hx=>hn x (JB (k:=i.toNat) (by omega) (by simp[Ql,hx]))
 ·exact hd
 ·exact hi.dry.rd Ys.len fun x hx=>hn x (JB (k:=i.toNat) (by omega) (by simp[Ql,hx]))
 ·rename_i e;subst e;exact hi.shl.rd UQ.len fun x hx=>hn x (JB (k:=g.toNat) (by omega) (by simp[Ql,hx]))
 ·exact hi.shl.rd UQ.len fun x hx=>hn x (JB (k:=i.toNat) (by omega) (by simp[Ql,hx]))
end
theorem zwg{v:Int}{k:Nat}{ls:List Va}{P:ByteArray->Prop}(ha:ls.all (fun | .string s=>decide (s.size<=1000) | _=>false)=true)(hl:ls.length=k)(h0:0<=v)(h1:v<(k:Int))(h:∀x,x.size<=1000->P x):∃x:ByteArray,(0<=v/\ls[Int.toNat v+0]? = some (.string x))/\P x:=by
 have hlt:Int.toNat v+0<ls.length:=by omega
 have:=List.all_eq_true.1 ha _ (List.getElem_mem hlt);have e:=List.getElem?_eq_getElem hlt;generalize ls[Int.toNat v+0]=y at this e
 split at this
 ·exact⟨_,⟨h0,e⟩,h _ (Ot this)⟩
 ·cases this
theorem zt5{rb:Nat}{c:OA}{L N:Nat}{w:Wo}(h:JF rb c L N w)(hN:N<=500000000000) :
  Cz XP #[.pointer (some ⟨rb,0,none⟩)] w fun e w'=>∃v,e=.returned v/\ztd rb c L N w v w':=by
 refine Hk (some ⟨rb,0,none⟩) (R:=fun v w'=>ztd rb c L N w v w') ?_;intro b hb wr hx hs;have h1:=(Dr.start h).put hx hb;refine(zr0 Md h1.r.rd (by omega)).mono ?_;rintro e2 w2 ⟨W,m,he2,iv,hM,hr,hxp,hne⟩;have hK:=Xr.ofPlay Md h1 hs iv hM hr hxp hne;have iv:=iv.1;refine⟨_,_,_,_,_,_,_,_,_,_,he2,OL h1.r hxp hs,fun b1 hb1 wr1 hx1 hs1=>?_⟩;refine((hK.put hx1 hb1).pick Md (by omega) hs1).mono ?_;rintro e3 w3 ⟨v3,he3,hk3,_,hK3⟩;refine⟨_,he3,hk3,fun _ wr hx=>hK3.btv0 hx (by decide),fun _ wr3 hx3 hs3=>?_⟩;refine((hK3.step hx3).pick Md (by omega) hs3).mono ?_;rintro e4 w4 ⟨c1,he4,hk4,⟨c10,_,c12⟩,hK4⟩;have ha:=iv.wp.a;have hc1:=ha.c1;have hc4:=ha.c2;have htl:=ha.t;have hgl:=ha.gl;have c12:=c12 (by omega);refine⟨_,he4,hk4,fun wr4 hx4 hs4=>?_⟩;refine((hK4.step hx4).pick Md (by omega) hs4).mono ?_;rintro e5 w5 ⟨t,he5,hk5,⟨t0,_,t2⟩,hK5⟩;have t2:=t2 (by decide);refine⟨_,he5,hk5,fun wr5 hx5 hs5=>?_⟩;refine((hK5.step hx5).pick Md (by omega) hs5).mono ?_;rintro e6 w6 ⟨g,he6,hk6,⟨g0,_,g2⟩,hK6⟩;have g2:=g2 (by decide);refine⟨_,he6,hk6,fun wr6 hx6 hs6=>?_⟩;refine((hK6.step hx6).pick Md (by omega) hs6).mono ?_;rintro e7 w7 ⟨k,he7,hk7,_,hS⟩;clear hK3 hK4 hK5 hK6 hK hM hr hxp he2 he3 he4 he5 he6 hk3 hk4 hk5 hk6 hx1 hx3 hx4 hx5 hx6 hs1 hs3 hs4 hs5 hs6 h1 hne;refine⟨_,he7,hk7,?_⟩;have lc:=h.ltc;have ltc:∀a,c=some a->a.block<w.heap.size\/L=0:=lc;have hl:=iv.len;have t1:t<(W.tasks.length:Int):=by omega
 have g1:g<(W.groups.length:Int):=by omega
 have g8:g<((8:Nat):Int):=by omega
 have hix:∀{n:Nat} {w':Wo},Xr Dd rb c L N n [b,b1] w w' W m->Ix m.cO W.cpus.length c1:=fun h=>h.rd.c.ix Zh c10 c12
 have hit:∀{n:Nat} {w':Wo},Xr Dd rb c L N n [b,b1] w w' W m->Ix m.tO W.tasks.length t:=fun h=>h.rd.t.ix QI t0 t1
 have hig:∀{n:Nat} {bs:List Nat} {w':Wo},Xr Dd rb c L N n bs w w' W m->Ix m.gO W.groups.length g:=fun h=>h.rd.g.ix g0 g1
 have nb:∀{n:Nat} {bs:List Nat} {w':Wo},Xr Dd rb c L N n bs w w' W m->∀x∈QB 8 m,x∉bs:=fun h x hx hm=>h.o.nb x hx (List.mem_cons_of_mem _ hm)
 have hrd:∀{w':Wo},Xr Dd rb c L N (0+1100+1+1+1+1+1) [b,b1] w w' W m->YZ [b,b1] w' W m:=fun h=>h.o.own.rd (nb h)
 have fC:∀{n:Nat} {bs:List Nat} {w' wr:Wo} {j:Nat} {vs:List Va} (x:OY),Xr Dd rb c L N n bs w w' W m->n<=1500->P0 x=(P0 (gi W.cpus c1)).take j++vs++(P0 (gi W.cpus c1)).drop (j+vs.length)->j+vs.length<=5->Q0 bs (sto w' m.cO (Int.toNat c1*5+j) vs) wr->ztd rb c L N w (.agg (Qa (setCp W c1 x) m).toArray) wr:=fun x h hn he hj hx=>h.btv ltc (zr3 hl c1 x) (h.o.own.stoC c10 c12 he hj) D4 hx hn
 have fT:∀{n:Nat} {bs:List Nat} {w' wr:Wo} {j:Nat} {vs:List Va} (x:P5),Xr Dd rb c L N n bs w w' W m->n<=1500->YM x=(YM (gi W.tasks t)).take j++vs++(YM (gi W.tasks t)).drop (j+vs.length)->j+vs.length<=9->Q0 bs (sto w' m.tO (Int.toNat t*9+j) vs) wr->ztd rb c L N w (.agg (Qa (setTk W t x) m).toArray) wr:=fun x h hn he hj hx=>h.btv ltc (zr4 hl t x) (h.o.own.stoT t0 t1 he hj) Lv hx hn
 have fG:∀{n:Nat} {bs:List Nat} {w' wr:Wo} {j:Nat} {vs:List Va} (G:ZA),Xr Dd rb c L N n bs w w' W m->n<=1500->zcs G->G.band=(gi W.groups g).band->G.shelves=(gi W.groups g).shelves->Yc G (m.ms g.toNat)=(Yc (gi W.groups g) (m.ms g.toNat)).take j++vs++(Yc (gi W.groups g) (m.ms g.toNat)).drop (j+vs.length)->j+vs.length<=14->Q0 bs (sto w' m.gO (Int.toNat g*14+j) vs) wr->ztd rb c L N w (.agg (Qa (setGr W g G) m).toArray) wr:=fun G h hn hf hb hsh he hj hx=>h.btv ltc (BN hl g0 g1 hf) (h.o.own.stoG0 g0 g8 (by rw[hb]) (by rw[hb]) hsh he hj) EE hx hn
 have eC:∀x:OY,Qa (setCp W c1 x) m=Qa W m:=fun x=>by simp[Qa,setCp]
 have eT:∀x:P5,Qa (setTk W t x) m=Qa W m:=fun x=>by simp[Qa,setTk]
 have eG:∀x:ZA,Qa (setGr W g x) m=Qa W m:=fun x=>by simp[Qa,setGr]
 have hfg:=hl.f g g0 g1
 have hv:0<=(Q8 W t).v/\(Q8 W t).v<=100000000000000000:=by
  rcases iv.wp.t t t0 (by omega) with hz | ⟨_,hx⟩
  ·rw[hz.2]; decide
  ·exact ZY.1 hx.v
 have hlm:=ZN 1;refine⟨fun _=>⟨hix hS,_,(hrd hS).c.f c10 c12 (j:=0) rfl,hix hS,zhl hS.o.own (nb hS) c10 c12 (j:=0) (by decide),fun wr hx=>?_⟩,fun _=>⟨fun _ wr hx hs=>?_,fun _=>⟨fun _ wr hx hs=>?_,fun _=>⟨fun _ wr hx hs=>?_,fun _=>⟨fun _ wr hx hs=>?_,fun _=>⟨fun _ wr hx hs=>?_,fun _=>⟨fun _=>⟨hit hS,_,(hrd hS).t.f t0 t1 (j:=5) rfl,_,OI,⟨by show _<=(Q8 W t).v+_; omega,by show (Q8 W t).v+_<=_; omega⟩,hit hS,ze9 hS.o.own (nb hS) t0 t1 (j:=5) (by decide),fun wr hx=>?_⟩,fun _=>⟨fun _=>⟨hit hS,ze9 hS.o.own (nb hS) t0 t1 (j:=3) (by decide),fun wr hx=>?_⟩,fun _=>⟨fun _=>⟨hit hS,ze9 hS.o.own (nb hS) t0 t1 (j:=4) (by decide),fun wr hx=>?_⟩,fun _=>⟨fun _=>⟨⟨by omega,by omega,by have:=hS.o.own.t.le; omega⟩,fun wr hx=>?_⟩,fun _=>⟨fun _=>⟨hig hS,_,(hrd hS).g.used g0 g1,hig hS,zbc hS.o.own (nb hS) g0 g8 (j:=0) (by decide),fun wr hx=>?_⟩,fun _=>⟨fun _ wr hx hs=>?_,fun _=>⟨fun _=>⟨fun b2 hb2=>⟨rfl,fun wr hx hs=>?_⟩,fun wr hx hs=>?_⟩,fun _=>⟨fun _ wr hx hs=>?_,fun _=>⟨fun _ wr hx hs=>?_,fun _=>⟨fun _ wr hx hs=>?_,fun _=>⟨fun _ wr hx hs=>?_,fun _=>⟨fun _=>⟨hig hS,_,_,_,(hrd hS).g.shelf g0 g1,fun hlc=>?_,fun _ wr hx=>hS.btv0 hx (by decide)⟩,fun _=>⟨fun _=>⟨hig hS,_,_,_,(hrd hS).g.shelf g0 g1,fun hlc=>?_,fun _ wr hx=>hS.btv0 hx (by decide)⟩,fun _=>⟨fun _ wr hx hs=>?_,fun _ wr hx=>hS.btv0 hx (by decide)⟩⟩⟩⟩⟩⟩⟩⟩⟩⟩⟩⟩⟩⟩⟩⟩⟩⟩⟩⟩
 case refine_1=>
  have:=fC { gi W.cpus c1 with up := !(gi W.cpus c1).up } hS (by decide) rfl (by show 0+1<=5; decide) hx
  rwa[eC] at this
 case refine_2=>
  refine((hS.step hx).pick Md (by omega) hs).mono ?_;rintro e w8 ⟨v,he,hk,⟨p0,_,p2⟩,hP⟩;have p2:=p2 (by decide);refine⟨_,he,hk,rfl,⟨by omega,by omega⟩,hix hP,zhl hP.o.own (nb hP) c10 c12 (j:=1) (by decide),fun wr hx=>?_⟩;have:=fC { gi W.cpus c1 with cur:=v-2 } hP (by decide) rfl (by show 1+1<=5; decide) hx
  rwa[eC] at this
 case refine_3=>
  refine((hS.step hx).pick Md (by omega) hs).mono ?_;rintro e w8 ⟨v,he,hk,_,hP⟩;refine⟨_,he,hk,rfl,hix hP,zhl hP.o.own (nb hP) c10 c12 (j:=2) (by decide),fun wr hx=>?_⟩;have:=fC { gi W.cpus c1 with ran:=v } hP (by decide) rfl (by show 2+1<=5; decide) hx
  rwa[eC] at this
 case refine_4=>
  refine((hS.step hx).pick Md (by omega) hs).mono ?_;rintro e w8 ⟨v,he,hk,_,hP⟩;refine⟨_,he,hk,rfl,hit hP,ze9 hP.o.own (nb hP) t0 t1 (j:=0) (by decide),fun wr hx=>?_⟩;have:=fT { gi W.tasks t with state:=v } hP (by decide) rfl (by show 0+1<=9; decide) hx
  rwa[eT] at this
 case refine_5=>
  refine((hS.step hx).pick Md (by omega) hs).mono ?_;rintro e w8 ⟨v,he,hk,⟨p0,_,p2⟩,hP⟩;have p2:=p2 (by decide);refine⟨_,he,hk,rfl,⟨by omega,by omega⟩,hit hP,ze9 hP.o.own (nb hP) t0 t1 (j:=1) (by decide),fun wr hx=>?_⟩;have:=fT { gi W.tasks t with group:=v-1 } hP (by decide) rfl (by show 1+1<=9; decide) hx
  rwa[eT] at this
 case refine_6=>
  refine((hS.step hx).pick Md (by omega) hs).mono ?_;rintro e w8 ⟨v,he,hk,⟨p0,_,p2⟩,hP⟩;have p2:=p2 (by decide);refine⟨_,he,hk,rfl,⟨by omega,by omega⟩,hit hP,ze9 hP.o.own (nb hP) t0 t1 (j:=2) (by decide),fun wr hx=>?_⟩;have:=fT { gi W.tasks t with cpu:=v-1 } hP (by decide) rfl (by show 2+1<=9; decide) hx
  rwa[eT] at this
 case refine_7=>
  have:=fT { gi W.tasks t with v:=(gi W.tasks t).v+Zq 1 } hS (by decide) rfl (by show 5+1<=9; decide) hx
  rwa[eT] at this
 case refine_8=>
  have:=fT { gi W.tasks t with nice:=10 } hS (by decide) rfl (by show 3+1<=9; decide) hx
  rwa[eT] at this
 case refine_9=>
  have:=fT { gi W.tasks t with mask:=0 } hS (by decide) rfl (by show 4+1<=9; decide) hx
  rwa[eT] at this
 case refine_10=>
  have hK:=hS.step hx;have hr:=hK.rdn;have hle:=hS.o.own.t.le;refine⟨{ W with tasks:=W.tasks.tail },{ m with tO:=if m.tC=Int.toNat 1 then m.tO else m.tO.map (·.add (Int.toNat 1*9)),tC:=m.tC-Int.toNat 1 },?_,⟨hl.c,by show W.tasks.tail.length<=_; have:=hl.t; simp; omega,hl.g,hl.f⟩,fun ds hd=>⟨(hr ds hd).c,zpt (hr ds hd).t (by omega) hle,(hr ds hd).g⟩,hK.d.fin (by decide)⟩;simp[Qa]
 case refine_11=>
  have:=fG { gi W.groups g with used := !(gi W.groups g).used } hS (by decide) ⟨hfg.nm,hfg.nx,hfg.lo,hfg.dr,hfg.sh⟩ rfl rfl rfl (by show 0+1<=14; decide) hx
  rwa[eG] at this
 case refine_12=>
  refine((hS.step hx).pick Md (by omega) hs).mono ?_;rintro e w8 ⟨v,he,hk,⟨p0,_,p2⟩,hP⟩;have p2:=p2 (by decide);refine⟨_,he,hk,rfl,⟨by omega,by omega⟩,hig hP,zbc hP.o.own (nb hP) g0 g8 (j:=1) (by decide),fun wr hx=>?_⟩;have:=fG { gi W.groups g with parent:=v-1 } hP (by decide) ⟨hfg.nm,hfg.nx,hfg.lo,hfg.dr,hfg.sh⟩ rfl rfl rfl (by show 1+1<=14; decide) hx
  rwa[eG] at this
 case refine_13=>
  refine((hS.put hx hb2).pick Md (by omega) hs).mono ?_;rintro e w8 ⟨v,he,hk,⟨p0,_,p2⟩,hP⟩;have p2:=p2 (by decide);refine⟨_,he,hk,rfl,⟨by omega,by omega⟩,zwg (by decide) rfl (by omega) (by omega) fun x hxs=>⟨hig hP,zbc hP.o.own (nb hP) g0 g8 (j:=2) (by decide),fun wr hx=>?_⟩⟩;have hm:=Zb;have:=fG { gi W.groups g with name:=x } hP (by decide) ⟨by show x.size<=_; omega,hfg.nx,hfg.lo,hfg.dr,hfg.sh⟩ rfl rfl rfl (by show 2+1<=14; decide) hx
  rwa[eG] at this
 case refine_14=>
  refine((hS.step hx).pick Md (by omega) hs).mono ?_;rintro e w8 ⟨v,he,hk,⟨p0,_,p2⟩,hP⟩;have p2:=p2 (by decide);refine⟨_,he,hk,rfl,fun b3 hb3=>⟨rfl,⟨by omega,by omega⟩,zwg (by decide) rfl (by omega) (by omega) fun x hxs=>⟨hig hP,zbc hP.o.own (nb hP) g0 g8 (j:=2) (by decide),fun wr hx=>?_⟩⟩⟩;have hm:=Zb;have:=fG { gi W.groups g with name:=x } hP (by decide) ⟨by show x.size<=_; omega,hfg.nx,hfg.lo,hfg.dr,hfg.sh⟩ rfl rfl rfl (by show 2+1<=14; decide) hx
  rwa[eG] at this
 case refine_15=>
  refine((hS.step hx).pick Md (by omega) hs).mono ?_;rintro e w8 ⟨v,he,hk,_,hP⟩;refine⟨_,he,hk,rfl,hig hP,zbc hP.o.own (nb hP) g0 g8 (j:=3) (by decide),fun wr hx=>?_⟩;have:=fG { gi W.groups g with weight:=v } hP (by decide) ⟨hfg.nm,hfg.nx,hfg.lo,hfg.dr,hfg.sh⟩ rfl rfl rfl (by show 3+1<=14; decide) hx
  rwa[eG] at this
 case refine_16=>
  refine((hS.step hx).pick Md (by omega) hs).mono ?_;rintro e w8 ⟨v,he,hk,⟨p0,_,p2⟩,hP⟩;have p2:=p2 (by decide);refine⟨_,he,hk,rfl,⟨by omega,by omega⟩,hig hP,zbc hP.o.own (nb hP) g0 g8 (j:=4) (by decide),fun wr hx=>?_⟩;have:=fG { gi W.groups g with cpus:=v-1 } hP (by decide) ⟨hfg.nm,hfg.nx,hfg.lo,hfg.dr,hfg.sh⟩ rfl rfl rfl (by show 4+1<=14; decide) hx
  rwa[eG] at this
 case refine_17=>
  refine((hS.step hx).pick Md (by omega) hs).mono ?_;rintro e w8 ⟨v,he,hk,⟨p0,_,p2⟩,hP⟩;have p2:=p2 (by decide);refine⟨_,he,hk,rfl,hig hP,zbc hP.o.own (nb hP) g0 g8 (j:=6) (by decide),fun wr hx=>?_⟩;have:=fG { gi W.groups g with next:=v } hP (by decide) ⟨hfg.nm,⟨by show _<=v; omega,by show v<=_; omega⟩,hfg.lo,hfg.dr,hfg.sh⟩ rfl rfl rfl (by show 6+1<=14; decide) hx
  rwa[eG] at this
 case refine_18=>
  have hQ:=hS.step hx;refine(zt4 hQ.d.r.rd (by omega)).mono ?_;rintro e w8 ⟨B,p,he,hB,hr,hy⟩;have hP:=hQ.drawn Md hr hy;refine⟨_,_,_,_,_,_,_,_,_,he,OL hQ.d.r hy hs,rfl,hig hP,zbc hP.o.own (nb hP) g0 g8 (j:=8) (by decide),fun wr2 hx2=>?_⟩;have hsx:Q0 (QB 8 m) w8 (sto w8 m.gO (Int.toNat g*14+8) (QT B p)):=EE
  have hR2:∀ds:List Nat,(∀x∈ds,x<w.heap.size)->YZ ds wr2 (setBd W g B) (Oc m g.toNat (VH (m.ms g.toNat) p)):=fun ds hd=>by
   have hz:=hQ.d.ext.size
   have hb2:∀x∈QB 8 m++([b,b1]++ds),x<wr.heap.size:=fun x hm=>by
    rcases List.mem_append.1 hm with h1 | h1
    ·exact(hQ.o.own.lt x h1).2
    ·rcases List.mem_append.1 h1 with h2 | h2
     ·exact hs x h2
     ·have:=hd x h2; omega
   have hsm:∀x∈[b,b1]++ds,x∈QB 8 m++([b,b1]++ds):=fun x hm=>List.mem_append_right _ hm
   have hsx2:Q0 (QB 8 m++([b,b1]++ds)) w8 (sto w8 m.gO (Int.toNat g*14+8) (QT B p)):=hsx.mono fun x hm=>List.mem_append_left _ hm
   have hnb:∀x∈QB 8 m,x∉[b,b1]++ds:=fun x hx hm=>by
    rcases List.mem_append.1 hm with h2 | h2
    ·exact nb hP x hx h2
    ·have:=(hP.o.own.lt x hx).1;have:=hd x h2;omega
   have hR:=zsl hP.o.own hnb g0 g8 (B:=B) (p:=p) (((hB.rl _ hb2).ext hsx2).less hsm) (((hB.rd _ hb2).ext hsx2).less hsm);exact(hR.ext (hx2.mono fun x hm=>List.mem_append_left _ hm)).less fun x hm=>List.mem_append_right _ hm
  have hm:=Zb;have hl5:=hB.ll;have hl4:=hB.dl;refine⟨setBd W g B,Oc m g.toNat (VH (m.ms g.toNat) p),?_,BN hl g0 g1 ⟨hfg.nm,hfg.nx,by show B.locals.length<=_; omega,by show B.dry.length<=_; omega,hfg.sh⟩,hR2,hP.aft ltc hsx hx2 (by decide)⟩;simp[Qa,setBd,setGr,Oc]
 case refine_19=>
  have hlc:=Ot hlc;have hrs:=(hrd hS).g.shelves g g0 g1;refine⟨hig hS,_,_,_,(hrd hS).g.shelf g0 g1,hig hS,_,_,_,(hrd hS).g.shelf g0 g1,hrs.ix ZD c10 hlc,_,hrs.f c10 hlc (j:=1) rfl,hrs.ix ZD c10 hlc,ztc hS.o.own (nb hS) g0 g8 c10 hlc (j:=1) (by decide),fun wr hx=>?_⟩;have hM:=hS.o.own.stoS (i:=g) (c:=c1) g0 g8 c10 hlc (j:=1) (vs:=[.bool (!(Qc W g c1).on)]) (x:={ Qc W g c1 with on := !(Qc W g c1).on }) rfl (by show 1+1<=5; decide);have:=hS.btv (W':=setSh W g c1 { Qc W g c1 with on := !(Qc W g c1).on }) ltc (BN hl g0 g1 ⟨hfg.nm,hfg.nx,hfg.lo,hfg.dr,by show (List.set _ _ _).length<=_; rw[List.length_set]; exact hfg.sh⟩) hM (BE (by omega)) hx (by decide)
  rwa[show Qa (setSh W g c1 { Qc W g c1 with on := !(Qc W g c1).on }) m=Qa W m from eG _] at this
 case refine_20=>
  have hlc:=Ot hlc;have hrs:=(hrd hS).g.shelves g g0 g1;have hp:=ZY.1 (iv.wp.s g c1 g0 (by omega) c10 hlc).f;refine⟨hig hS,_,_,_,(hrd hS).g.shelf g0 g1,hig hS,_,_,_,(hrd hS).g.shelf g0 g1,hrs.ix ZD c10 hlc,(Qc W g c1).floor,hrs.f c10 hlc (j:=0) rfl,⟨by omega,by omega⟩,hrs.ix ZD c10 hlc,ztc hS.o.own (nb hS) g0 g8 c10 hlc (j:=0) (by decide),fun wr hx=>?_⟩;have hM:=hS.o.own.stoS (i:=g) (c:=c1) g0 g8 c10 hlc (j:=0) (vs:=[.int .i64 ((Qc W g c1).floor+1)]) (x:={ Qc W g c1 with floor:=(Qc W g c1).floor+1 }) rfl (by show 0+1<=5; decide);have:=hS.btv (W':=setSh W g c1 { Qc W g c1 with floor:=(Qc W g c1).floor+1 }) ltc (BN hl g0 g1 ⟨hfg.nm,hfg.nx,hfg.lo,hfg.dr,by show (List.set _ _ _).length<=_; rw[List.length_set]; exact hfg.sh⟩) hM (BE (by omega)) hx (by decide)
  rwa[show Qa (setSh W g c1 { Qc W g c1 with floor:=(Qc W g c1).floor+1 }) m=Qa W m from eG _] at this
 case refine_21=>
  have hQ:=hS.step hx;refine(zt7 hQ.o.own iv).mono ?_;rintro e w8 ⟨V,he,hlV,hMV,hxV⟩;refine⟨_,_,_,_,_,_,_,_,_,_,he,hxV.kept fun x hm=>⟨hs x hm,fun hm2=>nb hQ x hm2 hm⟩,fun wr2 hx2=>hQ.btv ltc hlV hMV hxV hx2 (by decide)⟩
structure Bx (rb:Nat) (c:OA) (L N:Nat) (bs:List Nat) (w0 w:Wo) (W:Q7) (m:MW):Prop where
 ln:Xc W
 rd:YZ (rb::bs) w W m
 r:RS rb c L N bs w
 s:Sc w0 (rb::bs) w
section
variable {rb b b2:Nat}{c:OA}{L C N:Nat}{bs:List Nat}{w0 w w':Wo}{W W':Q7}{m m':MW}
theorem Bx.step(h:Bx rb c L N bs w0 w W m)(hx:Q0 bs w w'):Bx rb c L N bs w0 w' W m:=⟨h.ln,h.rd.ext (hx.mono fun _ hm=>List.mem_cons_of_mem _ hm),h.r.step hx,h.s.stepB hx⟩
theorem Bx.call{f:FuncId}{args:Array Va}{k:Nat}{Q:Int->Prop}(h:Bx rb c L N bs w0 w W m)(hs:∀x∈bs,x<w.heap.size)(hc:Cz f args w fun e w'=>∃v,e=.returned (.int .i64 v)/\Q v/\JF rb c L (N+k) w'/\Q0 [rb] w w') :
  Cz f args w fun e w'=>∃v,e=.returned (.int .i64 v)/\Q9 bs w w'/\Q v/\Bx rb c L (N+k) bs w0 w' W m:=
 hc.mono fun e w' ⟨v,he,hq,hr,hx⟩=>⟨v,he,OL h.r hx hs,hq,h.ln,h.rd.ext (hx.mono fun x hm=>by
  have:x=rb:=by simpa using hm
  rw[this]; exact List.mem_cons_self),h.r.upd hr,h.s.stepR hx⟩
theorem Bx.rd0(h:Bx rb c L N bs w0 w W m):YZ [] w W m:=h.rd.less (by simp)
theorem zry(h:EM c L w0)(hC:L<=C)(hx:Q0 [] w0 w)(hn:∀x∈bs,w0.heap.size<=x)(hs:∀x∈bs,x<w.heap.size) :
  Cz Ug #[.slice c L C] w fun e wv=>∃rb c' L',e=.returned (.pointer (some ⟨rb,0,none⟩))/\Q9 bs w wv/\RS rb c' L' 0 bs wv/\Sc w0 (rb::bs) wv:=by
 refine(zii (h.ext hx) hC).mono ?_;rintro e wv ⟨rb,c',L',he,hrb,hR,hx1,hblk⟩
 refine⟨rb,c',L',he,Qd hx1 hs,⟨hR,fun hm=>by
  have:=hs rb hm;omega,fun a' ha'=>?_⟩,⟨hx.trans hx1,fun x hm=>?_⟩⟩
 ·rcases hblk a' ha' with h0 | ⟨h0,a,ha,hab⟩
  ·exact .inr h0
  ·refine .inl fun hm=>?_
   obtain⟨a0,x0,ha0,_,_,h30⟩:=h 0 h0;have hlt2:=World.block_lt_of_cell? w0 _ h30;rw[Zl] at hlt2;rw[ha] at ha0; cases ha0;have:=hn _ hm;omega
 ·rcases List.mem_cons.1 hm with h1 | h1
  ·have:=hx.size; omega
  ·exact hn x h1
theorem zrv(h:RS rb c L 0 bs w)(s:Sc w0 (rb::bs) w)(hs:∀x∈bs,x<w.heap.size) :
  Cz XP #[.pointer (some ⟨rb,0,none⟩)] w fun e w'=>∃(W:Q7) (m:MW),e=.returned (.agg (Qa W m).toArray)/\Q9 bs w w'/\Bx rb c L 1500 bs w0 w' W m:=
 (zt5 h.rd (by decide)).mono fun e w' ⟨v,he,W,m,hv,hl,hr,hR,hx⟩=>⟨W,m,by rw[he,hv],OL h hx hs,hl,hr _ fun x hm=>by
  rcases List.mem_cons.1 hm with h1 | h1
  ·rw[h1]; exact h.rd.lt
  ·exact hs x h1,h.upd (hR.mono (by decide)),s.stepR hx⟩
structure zv6 (w0 w:Wo) (W:Q7) (m:MW):Prop where
 ln:Xc W
 rd:YZ [] w W m
 ext:Q0 [] w0 w
theorem Bx.dn(h:Bx rb c L N bs w0 w W m)(hx:Q0 bs w w'):zv6 w0 w' W m:=⟨h.ln,(h.step hx).rd0,(h.step hx).s.ext⟩
end
section
variable {c:OA}{L C:Nat}{w:Wo}
theorem MS(h:EM c L w)(hC:L<=C) :
  Cz XN #[.slice c L C] w fun e w'=>∃(W:Q7) (m:MW) (k:Int),e=.returned (.tuple #[.agg (Qa W m).toArray,.int .i64 k])/\zv6 w w' W m:=by
 refine(MR c L C (R:=fun v w'=>∃(W:Q7) (m:MW) (k:Int),v=.tuple #[.agg (Qa W m).toArray,.int .i64 k]/\zv6 w w' W m) ?_).mono fun e w' ⟨v,he,W,m,k,hv,h1⟩=>⟨W,m,k,by rw[he,hv],h1⟩
 intro b hb wr hx hs;refine(zry (bs:=[b]) h hC hx (by simpa using hb) hs).mono ?_;rintro e wv ⟨rb,c',L',he,hk,hR,hS⟩;refine⟨_,he,hk,fun wr1 hx1 hs1=>?_⟩;refine(zrv (hR.step hx1) (hS.stepB hx1) hs1).mono ?_;rintro e1 wv1 ⟨W,m,he1,hk1,hB⟩;refine⟨_,_,_,_,_,_,_,_,_,_,he1,hk1,fun wr2 hx2 hs2=>?_⟩;refine((hB.step hx2).call hs2 (zvi (hB.step hx2).r.rd (by decide))).mono ?_;rintro e2 wv2 ⟨t,he2,hk2,_,hB2⟩;exact⟨_,he2,hk2,fun wr3 hx3=>⟨W,m,t,rfl,hB2.dn hx3⟩⟩
end
section
variable {bs:List Nat}{w:Wo}{p q:MG}
theorem z9{B:Jb}(h1:zfa bs w p.lO B.locals)(h2:zjp bs w p.dO B.dry)(h3:zfa bs w q.lO B.locals)(h4:zjp bs w q.dO B.dry)(hl:B.dry.length=B.locals.length)(h8:B.locals.length<=1000) :
  PX bs Ov #[.agg (QT B p).toArray,.agg (QT B q).toArray] w (.bool true):=
 zar B.quota B.pool B.spent p.lO B.locals.length p.lC p.dO B.dry.length p.dC B.quota B.pool B.spent q.lO B.locals.length q.lC q.dO B.dry.length q.dC fun wr hx=>by
  have g1:=(h1.ext hx).less (cs:=[]) (by simp);have g2:=(h2.ext hx).less (cs:=[]) (by simp);have g3:=(h3.ext hx).less (cs:=[]) (by simp);have g4:=(h4.ext hx).less (cs:=[]) (by simp);intro b hb b5 hb5;refine⟨fun g=>by simp at g,fun _=>YE B.locals.length 0 rfl (fun k=>k<=B.locals.length) (Nat.zero_le _) fun k hk=>⟨fun hlt=>?_,fun hge=>rfl⟩⟩;have hlt:=Ot hlt;refine⟨g1.ix Uv (by omega) hlt,_,g1 (k:Int) (by omega) hlt,g3.ix Uv (by omega) hlt,_,g3 (k:Int) (by omega) hlt,fun _=>g2.ix Gc (by omega) (by omega),_,fun _=>g2 (k:Int) (by omega) (by omega),fun _=>g4.ix Gc (by omega) (by omega),_,fun _=>g4 (k:Int) (by omega) (by omega),fun g=>by simp at g,fun _=>⟨⟨by omega,by omega⟩,Qr (by omega) (by omega)⟩⟩
end
theorem zof:BY Tryz.prog Z1:=⟨by kernel_rfl,by kernel_rfl,by kernel_rfl⟩
theorem ztw(a b:OY):LB Tryz.prog (Tryz.prog.fieldsOf Z1).toList 0 (P0 a) (P0 b)=some ((a.up==b.up)&&((a.cur==b.cur)&&((a.ran==b.ran)&&((a.busy==b.busy)&&((a.idle==b.idle)&&true))))):=by kernel_rfl
theorem zh9:BY Tryz.prog Zm:=⟨by kernel_rfl,by kernel_rfl,by kernel_rfl⟩
theorem zoe(a b:Mx):LB Tryz.prog (Tryz.prog.fieldsOf Zm).toList 0 (P1 a) (P1 b)=some ((a.floor==b.floor)&&((a.on==b.on)&&((a.v==b.v)&&((a.w==b.w)&&((a.sum==b.sum)&&true))))):=by kernel_rfl
section
variable {bs:List Nat}{w:Wo}{p q:MG}{W:Q7}{m n:MW}
theorem Ab{G:ZA}(h1:zfa bs w p.lO G.band.locals)(h2:zjp bs w p.dO G.band.dry)(h5:ze8 bs w p.sO G.shelves)(h3:zfa bs w q.lO G.band.locals)(h4:zjp bs w q.dO G.band.dry)(h6:ze8 bs w q.sO G.shelves)(hl:G.band.dry.length=G.band.locals.length)(h8:G.band.locals.length<=1000)(h9:G.shelves.length<=1000) :
  PX bs TL #[.agg (Yc G p).toArray,.agg (Yc G q).toArray] w (.bool true):=
 AA G.used G.parent G.name G.weight G.cpus G.period G.next G.sum G.band.quota G.band.pool G.band.spent p.lO G.band.locals.length p.lC p.dO G.band.dry.length p.dC p.sO G.shelves.length p.sC G.used G.parent G.name G.weight G.cpus G.period G.next G.sum G.band.quota G.band.pool G.band.spent q.lO G.band.locals.length q.lC q.dO G.band.dry.length q.dC q.sO G.shelves.length q.sC fun wr hx=>by
  have g1:=(h1.ext hx).less (cs:=[]) (by simp);have g2:=(h2.ext hx).less (cs:=[]) (by simp);have g3:=(h3.ext hx).less (cs:=[]) (by simp);have g4:=(h4.ext hx).less (cs:=[]) (by simp);have g5:=(h5.ext hx).less (cs:=[]) (by simp);have g6:=(h6.ext hx).less (cs:=[]) (by simp);have e:Zg G.name G.name=true:=J9.2 rfl;intro b hb b5 hb5;refine⟨true,fun _=>z9 g1 g2 g3 g4 hl h8,fun g=>?_,fun _=>YE G.shelves.length 0 rfl (fun k=>k<=G.shelves.length) (Nat.zero_le _) fun k hk=>⟨fun hlt=>?_,fun hge=>rfl⟩⟩
  ·rw[e] at g;simp at g
  ·have hlt:=Ot hlt;refine⟨g5.ix ZD (by omega) hlt,_,_,_,_,_,g5 (k:Int) (by omega) hlt,g6.ix ZD (by omega) hlt,_,_,_,_,_,g6 (k:Int) (by omega) hlt,_,fun wq=>GB zh9 (zoe _ _) _ _ wq,fun g=>?_,fun _=>⟨⟨by omega,by omega⟩,Qr (by omega) (by omega)⟩⟩;simp at g
structure zv8 (W:Q7):Prop where
 c:W.cpus.length<=1000
 t:W.tasks.length<=1000
 g:W.groups.length<=1000
 e:∀i:Int,0<=i->i<(W.groups.length:Int)->(gi W.groups i).band.dry.length=(gi W.groups i).band.locals.length/\(gi W.groups i).band.locals.length<=1000/\(gi W.groups i).shelves.length<=1000
theorem zts(ha:WA W):zv8 W:=⟨by have:=ha.c2; omega,by have:=ha.t; omega,by have:=ha.gl; omega,fun i a b=>by
 have h:=PG ha a (by have:=ha.gl; omega);exact⟨h.1,by omega,by omega⟩⟩
theorem LH(h:YZ bs w W m)(k:YZ bs w W n)(hE:zv8 W):PX bs V7 #[.agg (Qa W m).toArray,.agg (Qa W n).toArray] w (.bool true):=
 zas W.now m.cO W.cpus.length m.cC m.tO W.tasks.length m.tC m.gO W.groups.length m.gC W.now n.cO W.cpus.length n.cC n.tO W.tasks.length n.tC n.gO W.groups.length n.gC fun wr hx=>by
  have h:=(h.ext hx).less (cs:=[]) (by simp);have k:=(k.ext hx).less (cs:=[]) (by simp);have c1:=hE.c;have c2:=hE.t;have c3:=hE.g;intro b hb b5 hb5;refine⟨fun g=>by simp at g,fun _=>YE W.cpus.length 0 rfl (fun k=>k<=W.cpus.length) (Nat.zero_le _) fun j hj=>⟨fun hlt=>?_,fun hge=>YE W.tasks.length 0 rfl (fun k=>k<=W.tasks.length) (Nat.zero_le _) fun j2 hj2=>⟨fun hlt=>?_,fun hge2=>YE W.groups.length 0 rfl (fun k=>k<=W.groups.length) (Nat.zero_le _) fun j3 hj3=>⟨fun hlt=>?_,fun hge3=>rfl⟩⟩⟩⟩
  ·have hlt:=Ot hlt;refine⟨h.c.ix Zh (by omega) hlt,_,_,_,_,_,h.c (j:Int) (by omega) hlt,k.c.ix Zh (by omega) hlt,_,_,_,_,_,k.c (j:Int) (by omega) hlt,_,fun wq=>GB zof (ztw _ _) _ _ wq,fun g=>?_,fun _=>⟨⟨by omega,by omega⟩,Qr (by omega) (by omega)⟩⟩;simp at g
  ·have hlt:=Ot hlt;refine⟨h.t.ix QI (by omega) hlt,_,_,_,_,_,_,_,_,_,h.t (j2:Int) (by omega) hlt,k.t.ix QI (by omega) hlt,_,_,_,_,_,_,_,_,_,k.t (j2:Int) (by omega) hlt,_,fun wq=>GB DP (zdw _ _) _ _ wq,fun g=>?_,fun _=>⟨⟨by omega,by omega⟩,Qr (by omega) (by omega)⟩⟩;simp at g
  ·have hlt:=Ot hlt;have j0:(0:Int)<=(j3:Int):=by omega
   have he:=hE.e (j3:Int) j0 hlt;refine⟨h.g.ix j0 hlt,_,_,_,_,_,_,_,_,_,_,_,_,_,_,_,_,_,_,_,_,h.g.cells (j3:Int) j0 hlt,k.g.ix j0 hlt,_,_,_,_,_,_,_,_,_,_,_,_,_,_,_,_,_,_,_,_,k.g.cells (j3:Int) j0 hlt,true,Ab (h.g.locals _ j0 hlt) (h.g.dry _ j0 hlt) (h.g.shelves _ j0 hlt) (k.g.locals _ j0 hlt) (k.g.dry _ j0 hlt) (k.g.shelves _ j0 hlt) he.1 he.2.1 he.2.2,fun g=>by simp at g,fun _=>⟨⟨by omega,by omega⟩,Qr (by omega) (by omega)⟩⟩
end
end Go.Proofs.YtnclplgaicdapaaGreatDoor
namespace Go.Proofs.YtnclplgaicdapaaGreatDoor
open Go.RowKit Go.ChangeShapes
set_option linter.unusedVariables false
set_option linter.unusedSimpArgs false
set_option maxRecDepth 10000
set_option maxHeartbeats 8000000
theorem zst:Tryz.prog.underlying TA=some (.int .u8):=by kernel_rfl
theorem u_sl_uint8:Tryz.prog.underlying ty_sl_uint8=some (.slice TA):=by kernel_rfl
theorem zq2:Tryz.prog.cellsOf TA=1:=by kernel_rfl
theorem op_bytes{H:Type}{en:TypeId×Va->H}{w:Wo}{base:Nat}{spare:Nat->Bool}{held:Bool}{fuel:Nat}{cs:List Va}{x:DataW H×List MemPlace}(h:DataW.trod en Tryz.prog w base spare held fuel ty_sl_uint8 cs=some x) :
  ∃(o:OA) (cap L:Nat),cs=[.slice o L cap]/\EM o L w/\L<=cap:=by
 obtain⟨o,len,cap,rfl,h1,_,h3⟩:=zqf u_sl_uint8 h;refine⟨o,cap,len,rfl,fun i hi=>?_,h1⟩;obtain⟨a,n,y,ec,ho,hc,ht⟩:=h3 i hi;rw[zq2,Nat.mul_one] at hc;obtain⟨v,rfl,_,hw⟩:=DataW.trod_int zst ht;have hv:0<=v/\v<=255:=by simpa[Lit.wf,IntKind.min,IntKind.max,IntKind.signed,IntKind.bits] using hw
 obtain⟨_,_,hcell⟩:=World.cells?_some hc;have:=hcell 0 (by decide);rw[Xt,Nat.add_zero] at this;exact⟨a,v,ho,hv.1,hv.2,this⟩
end Go.Proofs.YtnclplgaicdapaaGreatDoor
namespace Go.Proofs.YtnclplgaicdapaaGreatDoor
open Go.RowKit
set_option linter.unusedVariables false
set_option linter.unusedSimpArgs false
set_option maxRecDepth 10000
set_option maxHeartbeats 8000000
theorem YZ.sc{bs:List Nat}{w0 w1:Wo}{W:Q7}{m:MW}(h:YZ [] w0 W m)(s:Sc w0 bs w1):YZ bs w1 W m:=(h.wide (cs:=bs) fun x hm=>.inr (s.new x hm)).ext s.ext.of_nil
theorem YZ.sc0{bs:List Nat}{w0 w1:Wo}{W:Q7}{m:MW}(h:YZ [] w0 W m)(s:Sc w0 bs w1):YZ [] w1 W m:=(h.sc s).less (by simp)
theorem zs4{W:Q7}(hW:Qv W=true):zv8 W:=zts (Qh.1 hW).a
theorem Y1.n8{n base:Nat}{w:Wo}{W:Q7}{m:MW}(h:Y1 n base w W m)(ha:WA W):n=8:=h.len.symm.trans ha.gl
section
variable {base pb:Nat}{W W':Q7}{m:MW}{w:Wo}
theorem A2{cap:OA}{c:Int}(h:PW base pb w W m)(hW:Qv W=true)(hc:Q2 [] w cap 0 [.int .i64 c]) :
  Cz Xe #[.pointer (pA pb),.pointer cap] w fun e w2=>(U3 W c≠0/\e=.returned (.iface ZS (.agg #[.int .i64 (U3 W c)]))/\Q0 [] w w2)\/(U3 W c=0/\e=.returned .nilIface/\∃m2,BX base pb [] w m w2 (endW W c) m2):=by
 have wp:=Qh.1 hW;have hM:=Mp.start h;have hp:=hM.wpt
 refine(Ll (pA pb) cap (R:=fun v w2=>(U3 W c≠0/\v=.iface ZS (.agg #[.int .i64 (U3 W c)])/\Q0 [] w w2)\/(U3 W c=0/\v=.nilIface/\∃m2,BX base pb [] w m w2 (endW W c) m2)) ?_).mono fun e w' ⟨v,he,h3⟩=>by
  rw[he];rcases h3 with ⟨a,b,c⟩ | ⟨a,b,c⟩
  ·exact .inl ⟨a,by rw[b],c⟩
  ·exact .inr ⟨a,by rw[b],c⟩
 have hc2:=wp.a.c2;have hm:=Zb;refine⟨c,hc,YJ W c,B1 hp (by omega),fun g wr hx=>.inl ?_,fun g=>?_⟩
 ·have g:YJ W c=false:=by simpa using g
  have hb:U3 W c=1:=by unfold U3; rw[if_pos g]
  rw[hb];exact⟨by decide,rfl,hx⟩
 have g:YJ W c=true:=by simpa using g
 obtain⟨c0,c1⟩:=JG g;have hcc:=wp.c c c0 c1;refine⟨hp.some,_,_,_,hp.cpus,c,hc,hp.rd.c.ix Zh c0 c1,_,hp.rd.c.f c0 c1 (j:=1) rfl,fun g2 wr hx=>.inl ?_,fun g2=>⟨c,hc,_,_,P9,fun wr2 hx2 _=>?_⟩⟩
 ·have g2:(gi W.cpus c).cur = -1:=by simpa using g2
  have hb:U3 W c=6:=by unfold U3; rw[if_neg (by rw[g]; decide),if_pos (by rw[g2]; decide)]
  rw[hb];exact⟨by decide,rfl,hx⟩
 have g2:(gi W.cpus c).cur≠-1:=by simpa using g2
 have hn:¬(gi W.cpus c).cur<0:=by have:=hcc.c1; omega
 have hb:U3 W c=0:=by unfold U3; rw[if_neg (by rw[g]; decide),if_neg hn]
 have hM2:=hM.nil hx2;refine Calls.mono (DV hM2.pw c0 c1) ?_;rintro e wv ⟨he,hy⟩;exact⟨he,Tv,fun wr3 hx3=>.inr ⟨hb,rfl,m,((hM2.call hy (by simp)).nil hx3).done⟩⟩
theorem Hw{c:Int}(h:YZ [] w W m)(hl:Xc W)(hg:PC w) :
  Cz Uw #[.agg (Qa W m).toArray,.int .i64 c] w fun e w'=>∃v,e=.returned v/\QG (YG W (U3 W c) (endW W c)) w v w':=by
 refine He W.now m.cO W.cpus.length m.cC m.tO W.tasks.length m.tC m.gO W.groups.length m.gC c (R:=fun v w'=>QG (YG W (U3 W c) (endW W c)) w v w') ?_;intro x hx b1 wb hx1 hb1 hc hn b2 hb2 wr hx2 hs;have hX:Q0 [] w wr:=hx1.fresh hx2 fun y hy=>.inl (zr1 hy hx)
 have hc2:=ZP hc hx2 hn;refine Calls.mono (zmb (bar:=U3 W c) (W':=endW W c) (h.ext hX) hl (hg.ext hX) fun w1 pb m1 hW hx3 hpb hP=>.inl ⟨Xe,_,rfl,A2 hP hW (UO (ZP hc2 hx3 (by simp)) (by simp) (k0:=0) rfl)⟩) ?_;rintro e wv ⟨v,he,n,m',hv,hM,hy⟩;subst hv;refine⟨_,_,_,_,_,_,_,_,_,_,_,he,Qd hy hs,fun wr1 hx4=>⟨n,m',rfl,(hM.ext hx4 fun y hy hm=>?_).mono hX.size,(hX.trans hy).fresh hx4 fun y hm=>?_⟩⟩
 ·have:=(hM.lt y hy).1;have:=hs y hm;omega
 ·simp only[List.mem_cons,List.not_mem_nil,or_false] at hm;rcases hm with rfl | rfl
  ·exact .inl hx
  ·exact .inl (Nat.le_trans hx1.size hb2)
end
theorem zuv{W:Q7}{c:Int}(hW:Qv W=true)(hb:U3 W c=0):Qv (endW W c)=true:=by
 obtain⟨c0,c1⟩:=JG (zjm hb).1;exact Qh.2 (zcr (Qh.1 hW) c0 c1)
theorem zlh{W:Q7}{c:Int}(c0:0<=c)(c1:c<(W.cpus.length:Int)):gi (endW W c).cpus c={ gi W.cpus c with cur := -1,ran:=0 }:=by
 have:gi (endW W c).cpus c=Xd (gi W.cpus c):=by
  show gi (W.cpus.set c.toNat _) c=_;rw[Qw _ _ c0 c1 c0,if_pos rfl]
 rw[this]; rfl
theorem zev{α:Type}[Inhabited α](l:List α){i:Int}(i0:0<=i)(i1:i<(l.length:Int))(x:α):(l.set i.toNat x).set i.toNat (gi l i)=l:=by
 obtain⟨k,rfl⟩:=Int.eq_ofNat_of_zero_le i0;rw[List.set_set,J0 (by omega)];simp
theorem zqm{W:Q7}{c:Int}(c0:0<=c)(c1:c<(W.cpus.length:Int)):setCp (endW W c) c { gi (endW W c).cpus c with cur:=(gi W.cpus c).cur,ran:=(gi W.cpus c).ran }=W:=by
 rw[zlh c0 c1];show { W with cpus:=(W.cpus.set c.toNat _).set c.toNat (gi W.cpus c) }=W;rw[zev _ c0 c1]
def zfb(a b:P5):Prop:=a={ b with cpu:=a.cpu,v:=a.v }
theorem zfb.trans{a b c:P5}(h:zfb a b)(k:zfb b c):zfb a c:=by
 unfold zfb at *;rw[h,k]
theorem k_FnYield{a:OA}{La Ca:Nat}{w:Wo}(ha:EM a La w)(hca:La<=Ca)(hg:PC w) :
  Cz Mz #[.slice a La Ca] w fun e w'=>e=.returned (.bool true)/\Q0 [] w w':=by
 refine(NE a La Ca (R:=fun v w'=>v=.bool true/\Q0 [] w w') ?_).mono fun e w' ⟨v,he,hv,h3⟩=>⟨by rw[he,hv],h3⟩
 refine⟨fun _ wr hx=>⟨rfl,hx⟩,fun _ wr1 hx1 _=>?_⟩;refine(MS (ha.ext hx1) hca).mono ?_;rintro e wv ⟨W,m,c,he,hD⟩;have hl:=hD.ln;have hX0:Q0 [] w wv:=hx1.trans hD.ext;have r0:=hD.rd;have s0:=Sc.start wv;have hG:∀{bs:List Nat} {w':Wo},Sc wv bs w'->PC w':=fun s=>hg.ext (hX0.trans s.ext)
 refine⟨_,_,_,_,_,_,_,_,_,_,_,he,Tv,fun b hb wr2 hx2 hs2=>?_⟩;have s1:=s0.put hx2 hb;refine(Hw (c:=c) (r0.sc0 s1) hl (hG s1)).mono ?_;rintro e1 wv1 ⟨v,he1,n1,m1,hv,hM1,hy1⟩;subst hv;have s2:=s1.call0 hy1;have o1:=OW.of hM1 hs2;refine⟨_,_,_,_,_,_,_,_,_,_,_,he1,Qd hy1 hs2,fun b1 hb1 wr3 hx3 hs3=>?_⟩;have s3:=s2.put hx3 hb1;have o3:=o1.put hx3 hb1;refine(Pa (c:=c) (r0.sc0 s3) hl).mono ?_;rintro e2 wv2 ⟨v,he2,n2,m2,hv,hM2,hy2⟩;subst hv;have s4:=s3.call0 hy2;have o4:=o3.call0 hy2;have rW:=r0.sc s4
 have hbase:∀x∈QB n1 m1,wv.heap.size<=x:=fun x hx=>by
  have:=(o4.own.lt x hx).1;have:=s1.ext.size;omega
 refine⟨_,_,_,_,_,_,_,_,_,_,_,he2,Qd hy2 hs3,fun b2 hb2=>⟨fun q=>by simp at q,fun _=>?_⟩⟩;clear he he1 he2 hM1 hM2 o1 o3 s1 s2 s3 hx2 hx3 hs2 hs3 hy1 hy2 hb hb1 hb2
 cases hW:Qv W with
 | false=>
  have e0:YG W (U3 W c) (endW W c)=(Pi,1):=zc3 hW;rw[e0];refine⟨fun _=>⟨_,X2 rW hl.c hl.t hl.g hl.f,true,fun q=>?_,fun wr5 hx5=>⟨?_,hX0.trans (s4.step hx5).ext⟩⟩,fun q=>by simp at q⟩
  ·rw[hW] at q; simp at q
  ·rw[hW]; rfl
 | true=>
 by_cases hb:U3 W c=0
 ·have e0:YG W (U3 W c) (endW W c)=(endW W c,0):=zhp hW hb;rw[e0] at o4 ⊢;obtain⟨c0,c1⟩:=JG (zjm hb).1;have hWx:=zuv hW hb;have wpx:=Qh.1 hWx;have hn:=o4.own.n8 wpx.a;subst hn;have lx:=zkd wpx.a;have c1x:c<((endW W c).cpus.length:Int):=by rw[show (endW W c).cpus.length=W.cpus.length from List.length_set]; exact c1
  have ec:=zlh (W:=W) c0 c1;have rX:=o4.rd;have hst1:=o4.own.stoC (i:=c) c0 c1x (j:=1) (vs:=[.int .i64 (gi W.cpus c).cur]) (x:={ gi (endW W c).cpus c with cur:=(gi W.cpus c).cur }) rfl (by simp)
  have hst2:=hst1.stoC (i:=c) c0 (by show c<(((endW W c).cpus.set c.toNat _).length:Int); rw[List.length_set]; exact c1x) (j:=2) (vs:=[.int .i64 (gi W.cpus c).ran]) (x:={ gi (endW W c).cpus c with cur:=(gi W.cpus c).cur,ran:=(gi W.cpus c).ran }) (by
   show _=(P0 (gi ((endW W c).cpus.set c.toNat _) c)).take 2++_++_;rw[Qw _ _ c0 c1x c0,if_pos rfl];rfl) (by simp)
  have hback:({ { endW W c with cpus:=(endW W c).cpus.set c.toNat { gi (endW W c).cpus c with cur:=(gi W.cpus c).cur } } with cpus:=((endW W c).cpus.set c.toNat { gi (endW W c).cpus c with cur:=(gi W.cpus c).cur }).set c.toNat { gi (endW W c).cpus c with cur:=(gi W.cpus c).cur,ran:=(gi W.cpus c).ran } }:Q7)=W:=by
   rw[List.set_set];exact zqm c0 c1
  have s5:=s4.call (D4 (n:=8) (m:=m1) (k:=Int.toNat c*5+1) (vs:=[.int .i64 (gi W.cpus c).cur])) hbase;have s6:=s5.call (D4 (n:=8) (m:=m1) (k:=Int.toNat c*5+2) (vs:=[.int .i64 (gi W.cpus c).ran])) hbase;rw[hback] at hst2;refine⟨fun q=>by simp at q,fun _=>⟨rX.c.ix Zh c0 c1x,_,rX.c.f c0 c1x (j:=1) rfl,fun _=>rX.c.ix Zh c0 c1x,_,fun _=>rX.c.f c0 c1x (j:=2) rfl,_,fun _=>Kj rX lx.c lx.g lx.f,fun q=>?_,fun _=>⟨rW.c.ix Zh c0 c1,_,rW.c.f c0 c1 (j:=1) rfl,rX.c.ix Zh c0 c1x,zhl o4.own o4.nb c0 c1x (j:=1) (by decide),rW.c.ix Zh c0 c1,_,(r0.sc s5).c.f c0 c1 (j:=2) rfl,rX.c.ix Zh c0 c1x,zhl hst1 o4.nb c0 (by show c<(((endW W c).cpus.set c.toNat _).length:Int); rw[List.length_set]; exact c1x) (j:=2) (by decide),true,?_,fun wr7 hx7=>⟨rfl,hX0.trans (s6.step hx7).ext⟩⟩⟩⟩
  ·rw[ec,hWx] at q;simp at q
  ·have hk:=LH (r0.sc s6) (hst2.rd o4.nb) (zs4 hW);rw[show Qa W m1=Qa (endW W c) m1 by simp[Qa,endW,setCp]] at hk;exact hk
 ·have e0:YG W (U3 W c) (endW W c)=(W,U3 W c):=zc4 hW hb;rw[e0] at o4 ⊢;have hn:=o4.own.n8 (Qh.1 hW).a;subst hn;refine⟨fun _=>⟨_,X2 rW hl.c hl.t hl.g hl.f,true,fun _=>LH rW o4.rd (zs4 hW),fun wr5 hx5=>⟨?_,hX0.trans (s4.step hx5).ext⟩⟩,fun q=>?_⟩
  ·simp
  ·exact absurd (by simpa using q) hb
end Go.Proofs.YtnclplgaicdapaaGreatDoor
