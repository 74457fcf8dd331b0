/- Part 13 of what the law FnPinned needs: the engine, the functions' propositions, the contracts. -/
import Derived.Test.YtclpmgfpjeaibaaGreatFnPinnedPl
namespace Go.Proofs.YtclpmgfpjeaibaaGreat
open Go.RowKit
set_option linter.unusedVariables false
set_option linter.unusedSimpArgs false
set_option maxRecDepth 10000
section
variable {base:Nat} {W:Q8} {m:MW} {w:World}
theorem Yl {w:World} {x x1:Nat} (h:w.heap.size<=x) (h1:w.heap.size<=x1):∀y∈[x,x1],w.heap.size<=y:=fun y hm=>by
 simp only [List.mem_cons,List.not_mem_nil,or_false] at hm;rcases hm with rfl | rfl <;> assumption
theorem Mv.two {n:Nat} (h:Yf n base w W m) {x x1:Nat} (hx:w.heap.size<=x) (hx1:w.heap.size<=x1):Mv n base [x,x1] w m w W m:=((Mv.start h).add hx).add hx1
theorem CE {n:Nat} {m:MW} {w:World} {k:Nat} {vs:List Value}:Q0 (QL n m) w (sto w m.cO k vs):=PP fun a ha=>Do (by rw [ha]; simp [Qy])
theorem KO {n:Nat} {m:MW} {w:World} {k:Nat} {vs:List Value}:Q0 (QL n m) w (sto w m.tO k vs):=PP fun a ha=>Dq (by rw [ha]; simp [Qy])
theorem DR {n:Nat} {m:MW} {w:World} {k:Nat} {vs:List Value}:Q0 (QL n m) w (sto w m.gO k vs):=PP fun a ha=>Dp (by rw [ha]; simp [Qy])
theorem FK {n:Nat} {m:MW} {w:World} {i k:Nat} {vs:List Value} (hi:i<n):Q0 (QL n m) w (sto w (m.ms i).sO k vs):=PP fun a ha=>Jl hi (by simp [Qr,Qy,ha])
theorem zkd {n:Nat} {bs:List Nat} (h:Yf n base w W m) (hd:∀x∈QL n m,x∉bs) {i:Int} (h0:0<=i) (h1:i<(W.cpus.length:Int)) {j k:Nat} (hj:j+k<=5):Xg bs w m.cO (Int.toNat i*5+j) k:=h.c.wr Kg.len (fun b hb=>hd b (Do hb)) h0 h1 hj
theorem zc1 {n:Nat} {bs:List Nat} (h:Yf n base w W m) (hd:∀x∈QL n m,x∉bs) {i:Int} (h0:0<=i) (h1:i<(W.tasks.length:Int)) {j k:Nat} (hj:j+k<=9):Xg bs w m.tO (Int.toNat i*9+j) k:=h.t.wr TP.len (fun b hb=>hd b (Dq hb)) h0 h1 hj
theorem CH {n:Nat} {bs:List Nat} (h:Yf n base w W m) (hd:∀x∈QL n m,x∉bs) {i:Int} (h0:0<=i) (h1:i<(n:Int)) {j k:Nat} (hj:j+k<=14):Xg bs w m.gO (Int.toNat i*14+j) k:=h.g.row.wr YI.len (fun b hb=>hd b (Dp hb)) h0 (by rw [Xc,h.len]; exact h1) hj
theorem zp5 {n:Nat} {bs:List Nat} (h:Yf n base w W m) (hd:∀x∈QL n m,x∉bs) {i c:Int} (h0:0<=i) (h1:i<(n:Int)) (c0:0<=c) (c1:c<((gi W.groups i).shelves.length:Int)) {j k:Nat} (hj:j+k<=5):Xg bs w (m.ms i.toNat).sO (Int.toNat c*5+j) k:=
 (h.each h0 h1).shl.wr Vq.len (fun b hb=>hd b (Jl (k:=i.toNat) (by omega) (by simp [Qr]; exact .inr (.inr hb)))) c0 c1 hj
theorem zo7 {n:Nat} (h:Yf n base w W m) {c:Int} (c0:0<=c) (c1:c<(W.cpus.length:Int)) :
  (Yf n base (sto w m.cO (Int.toNat c*5+1) [.int .i64 (-1)]) { W with cpus:=W.cpus.set c.toNat { gi W.cpus c with cur := -1 } } m)/\
  Yf n base (sto (sto w m.cO (Int.toNat c*5+1) [.int .i64 (-1)]) m.cO (Int.toNat c*5+2) [.int .i64 0]) (endW W c) m:=by
 have e1:=h.stoC c0 c1 (j:=1) (vs:=[.int .i64 (-1)]) (x:={ gi W.cpus c with cur := -1 }) rfl (by decide);refine ⟨e1,?_⟩;have hg:gi (W.cpus.set c.toNat { gi W.cpus c with cur := -1 }) c={ gi W.cpus c with cur := -1 }:=by rw [Qw _ _ c0 c1 c0,if_pos rfl]
 have e2:=e1.stoC c0 (by simpa using c1) (j:=2) (vs:=[.int .i64 0]) (x:=Xi (gi W.cpus c)) (by rw [hg]; rfl) (by decide);rw [List.set_set] at e2;exact e2
theorem Zj {n:Nat} (h:Yf n base w W m) {c:Int} (c0:0<=c) (c1:c<(W.cpus.length:Int)) :
  Cz QY #[.agg (Qa W m).toArray,.int .i64 c] w fun e w'=>e = .returned (.agg (Qa (endW W c) m).toArray)/\Mv n base [] w m w' (endW W c) m:=by
 refine (zbk W.now m.cO W.cpus.length m.cC m.tO W.tasks.length m.tC m.gO W.groups.length m.gC c (R:=fun v w'=>v = .agg (Qa (endW W c) m).toArray/\Mv n base [] w m w' (endW W c) m) ?_).mono fun e w' ⟨v,he,hv,h3⟩=>⟨by rw [he,hv],h3⟩
 intro x hx x1 hx1;obtain ⟨e1,e2⟩:=zo7 h c0 c1;have hr:=h.rd (bs:=[]) (by simp);refine ⟨hr.c.ix ZS c0 c1,zkd h (by simp) c0 c1 (by decide),hr.c.ix ZS c0 c1,zkd e1 (by simp) c0 (by simpa using c1) (by decide),fun wr hx2=>⟨by simp [Qa,endW,setCp],((Mv.start h).deed e2 (CE.trans CE)).call0 hx2⟩⟩
theorem zsh {W:Q8} {g c:Int} {s:Ma}:setSh W g c s={ W with groups:=W.groups.set g.toNat { gi W.groups g with shelves:=(gi W.groups g).shelves.set c.toNat s } }:=rfl
theorem TA {W W':Q8} {m:MW} (h:Fr W W'):Qa W' m=Qa W m:=by
 simp only [Qa,h.n,h.c,h.t,h.g.len]
theorem zbb {gs:List Zv} (ht:ZP gs) {k:Int} (hu:Q6 gs k=true):T5 (gs.length+1) gs k 0=dep 3 gs k:=by
 have hp:∀g:Int,g≠0->Q6 gs g=true->Q6 gs (gi gs g).parent=true:=fun g hz hu=>(ZQ ht hu hz).1
 have hd:0<=dep 3 gs k/\dep 3 gs k<=3:=by
  by_cases hz:k=0
  ·subst hz; rw [Y4]; omega
  ·obtain ⟨_,_,_,d,e,_,hd⟩:=ZQ ht hu hz;omega
 have hm:=Mu gs 3 gs.length k hd.1 (by rw [ht.len]; omega);rw [GX hp _ _ _ hu,hm,if_neg (by omega)];omega
theorem Nj {F K:Int} {n:Nat} (hsw:SF F K W) (h:Yf n base w W m) (hk:F+Qk<=K) {k c:Int} (hu:Q6 W.groups k=true) (hn:n=8) (c0:0<=c) (c1:c<(W.cpus.length:Int)) (s:Ma) :
  Yf n base (sto w (m.ms k.toNat).sO (Int.toNat c*5) (P4 s)) (setSh W k c s) m:=by
 obtain ⟨u0,u1,_⟩:=Q5.1 hu;have hl:=hsw.w.a.gl;have hs:=hsw.w.a.sl hu;exact h.stoS u0 (by omega) c0 (by omega) (j:=0) (vs:=P4 s) (x:=s) (by simp [P4]) (by simp [P4])
set_option maxHeartbeats 1000000 in
theorem MK {F K:Int} (h:Yf 8 base w W m) (hsw:SF F K W) (hk:F+Qk<=K) (hK:K<=1000000000000000000) {c:Int} (c0:0<=c) (c1:c<(W.cpus.length:Int)) :
  Cz U2 #[.agg (Qa W m).toArray,.int .i64 c] w fun e w'=>e = .returned (.agg (Qa W m).toArray)/\Mv 8 base [] w m w' (QJ W c) m:=by
 refine (BJ W.now m.cO W.cpus.length m.cC m.tO W.tasks.length m.tC m.gO W.groups.length m.gC c (R:=fun v w'=>v = .agg (Qa W m).toArray/\Mv 8 base [] w m w' (QJ W c) m) ?_).mono fun e w' ⟨v,he,hv,h3⟩=>⟨by rw [he,hv],h3⟩
 intro x hx x1 hx1;have hgl:=hsw.w.a.gl
 refine ⟨fun vs w1=>∃(j:Nat),vs=[.int .i64 (3 - (j:Int))]/\j<=3/\Mv 8 base [x,x1] w m w1 (Xs W c j) m,
  fun vs _=>(ZW 0 vs).toNat,fun wr hx0 _=>⟨0,rfl,by decide,(Mv.two h hx hx1).call0 hx0⟩,?_⟩
 rintro d wv hs ⟨j,he,j3,hM⟩;obtain ⟨hS,hO⟩:=Di hsw hk c0 c1 j j3;have hN:Xs W c (j+1)=ZK (Xs W c j) c (3 - (j:Int)) 8:=rfl;have hE:j=3->Xs W c j=QJ W c:=fun e=>by rw [e]; rfl
 generalize Xs W c j=W1 at hM hS hO hN hE;simp only [List.cons.injEq,Value.int.injEq,true_and,and_true] at he;refine ⟨fun hd => ?_,fun hd => ?_⟩
 ·have hd:=of_decide_eq_true hd;have c1':c<(W1.cpus.length:Int):=by rw [hO.c]; exact c1
  refine Of W.groups.length 1 rfl (fun k w2=>1<=k/\k<=8/\Mv 8 base [x,x1] w m w2 (ZK W1 c d k) m) (fun w2 hx2 _=>⟨Nat.le_refl _,by decide,?_⟩) fun k w2 hs2 ⟨hk1,hk8,hM2⟩ => ?_
  ·have e:ZK W1 c d 1=W1:=zjc (by omega);rw [e];exact hM.step hx2
  obtain ⟨hS2,hO2⟩:=Ni hS hk (c:=c) (d:=d) (by omega) c0 c1' k hk8;have hf2:=hO.trans hO2;have e0:Qa (ZK W1 c d k) m=Qa W m:=TA hf2.fr;have hr:=hM2.rd;have hgl2:(ZK W1 c d k).groups.length=W.groups.length:=hf2.g.len;have hcl2:(ZK W1 c d k).cpus.length=W.cpus.length:=by rw [hf2.c]
  have hdef:ZK W1 c d (k+1)=if (gi (ZK W1 c d k).groups (k:Int)).used=true/\dep 3 (ZK W1 c d k).groups (k:Int)=d then setSh (ZK W1 c d k) (k:Int) c (Ye (ZK W1 c d k) (k:Int) c) else ZK W1 c d k:=rfl;have hN8:k=8->Xs W c (j+1)=ZK W1 c d k:=fun e=>by rw [hN,<-he,e]
  generalize ZK W1 c d k=W2 at hM2 hS2 hO2 hf2 e0 hr hgl2 hcl2 hdef hN8;refine ⟨fun hlt => ?_,fun hge => ?_⟩
  ·have hlt:=of_decide_eq_true hlt;have hlt2:(k:Int)<(W2.groups.length:Int):=by omega
   have hdp:=Oc (g:=(k:Int)) (c:=m.gC) hr.g (by have:=Zg; omega);rw [hgl2] at hdp;refine ⟨by have:=hr.g.ix (i:=(k:Int)) (by omega) hlt2; rwa [hgl2] at this,(gi W2.groups (k:Int)).used,hr.g.used (by omega) hlt2,_,fun _=>hdp,fun g => ?_,fun g => ?_⟩
   ·refine ⟨⟨by omega,by omega⟩,fun w3 hx3 _=>QX (by omega) ⟨by omega,by omega,?_⟩⟩;rw [hdef,if_neg]
    ·exact hM2.step hx3
    ·rintro ⟨h1,h2⟩;have hu:Q6 W2.groups (k:Int)=true:=Q5.2 ⟨by omega,hlt2,h1⟩;have:=zbb hS2.w.a.tree hu;rw [hgl2] at this;rw [this,h1,h2] at g;simp at g
   ·simp only [Bool.or_eq_false_iff,Bool.not_eq_false',bne_eq_false_iff_eq] at g;have hu:Q6 W2.groups (k:Int)=true:=Q5.2 ⟨by omega,hlt2,g.1⟩;have hdk:=zbb hS2.w.a.tree hu;rw [hgl2,g.2] at hdk;rw [if_pos ⟨g.1,hdk.symm⟩] at hdef;have hsl:=hS2.w.a.sl hu;have hz:(k:Int)≠0:=by omega
    have hp:=hS2.w.a.up hu hz;obtain ⟨p0,p1,_⟩:=Q5.1 hp;have hpl:=hS2.w.a.sl hp;have s1:=hS2.w.s _ c hu c0 (by omega);have s2:=hS2.w.s _ c hp c0 (by omega);have lc:=ZO ((Qb W2 (k:Int) c).v - (Qb W2 (gi W2.groups (k:Int)).parent c).floor) (Qb W2 (k:Int) c).w;have lm:=ZJ (Qb W2 (k:Int) c).w;have hix:Ix m.gO W.groups.length (k:Int):=by have:=hr.g.ix (i:=(k:Int)) (by omega) hlt2; rwa [hgl2] at this
    have hixS:=(hr.g.shelves (k:Int) (by omega) hlt2).ix ZF c0 (by omega);have hact:=Ts (g:=(k:Int)) hr hS2.w.a c0 (by omega);have hdry:=PG (g:=(k:Int)) hr hS2.w.a hu c0 (by omega);rw [e0] at hact hdry;have hset:=fun s=>Nj hS2 hM2.own hk hu rfl c0 (c:=c) (by omega) s
    have hsub:∀{vs:List Value},Q0 (QL 8 m) w2 (sto w2 (m.ms k).sO (Int.toNat c*5) vs):=fun {vs}=>FK (by omega)
    have hwr:=zp5 hM2.own hM2.nb (i:=(k:Int)) (by omega) (by omega) c0 (by omega) (j:=0) (k:=5) (by decide);simp only [Int.toNat_natCast] at hset hwr hixS;refine ⟨hix,_,_,_,hr.g.shelf (by omega) hlt2,hixS,_,_,_,_,_,(hr.g.shelves (k:Int) (by omega) hlt2) c c0 (by omega),fun b2 hb2=>⟨QN W2 (k:Int) c,hact,UE W2 (k:Int) c,fun _=>hdry,fun g2 => ?_,fun g2 => ?_⟩⟩
    ·have hss:Ye W2 (k:Int) c=⟨(Qb W2 (k:Int) c).floor,QN W2 (k:Int) c && !UE W2 (k:Int) c,(Qb W2 (gi W2.groups (k:Int)).parent c).floor+YV ((Qb W2 (k:Int) c).v - (Qb W2 (gi W2.groups (k:Int)).parent c).floor) (Qb W2 (k:Int) c).w,(Qb W2 (k:Int) c).w,(Qb W2 (k:Int) c).sum⟩:=by
      unfold Ye;rw [if_pos]
      simpa [Qb] using g2
     have hset:=hset (Ye W2 (k:Int) c);rw [hss] at hset;have hpix:Ix m.gO W.groups.length (gi W2.groups (k:Int)).parent:=by have:=hr.g.ix p0 p1; rwa [hgl2] at this
     refine ⟨hix,_,hr.g.parent (by omega) hlt2,hpix,_,_,_,hr.g.shelf p0 p1,(hr.g.shelves _ p0 p1).ix ZF c0 (by omega),_,ze3.f (hr.g.shelves _ p0 p1) c0 (by omega) (j:=0) rfl,⟨by show _<=(Qb W2 (k:Int) c).v - (Qb W2 (gi W2.groups (k:Int)).parent c).floor; omega,by show (Qb W2 (k:Int) c).v - (Qb W2 (gi W2.groups (k:Int)).parent c).floor<=_; omega⟩,_,OS,⟨?_,?_⟩,hix,_,_,_,hr.g.shelf (by omega) hlt2,hixS,hwr,⟨by omega,by omega⟩,fun w3 hx3 _=>QX (by omega) ⟨by omega,by omega,?_⟩⟩
     ·show -9223372036854775808<=(Qb W2 (gi W2.groups (k:Int)).parent c).floor+YV ((Qb W2 (k:Int) c).v - (Qb W2 (gi W2.groups (k:Int)).parent c).floor) (Qb W2 (k:Int) c).w;omega
     ·show (Qb W2 (gi W2.groups (k:Int)).parent c).floor+YV ((Qb W2 (k:Int) c).v - (Qb W2 (gi W2.groups (k:Int)).parent c).floor) (Qb W2 (k:Int) c).w<=9223372036854775807;omega
     ·rw [hdef,hss];exact (hM2.deed hset hsub).step hx3
    ·have hss:Ye W2 (k:Int) c=⟨(Qb W2 (k:Int) c).floor,QN W2 (k:Int) c && !UE W2 (k:Int) c,(Qb W2 (k:Int) c).v,(Qb W2 (k:Int) c).w,(Qb W2 (k:Int) c).sum⟩:=by
      unfold Ye;rw [if_neg];intro h1;rw [h1.1,show (gi (gi W2.groups (k:Int)).shelves c).on=false from h1.2] at g2;cases g2
     have hset:=hset (Ye W2 (k:Int) c);rw [hss] at hset;refine ⟨hix,_,_,_,hr.g.shelf (by omega) hlt2,hixS,hwr,⟨by omega,by omega⟩,fun w3 hx3 _=>QX (by omega) ⟨by omega,by omega,?_⟩⟩;rw [hdef,hss];exact (hM2.deed hset hsub).step hx3
  ·have hge:=of_decide_eq_false hge;have hN8:=hN8 (by omega);refine ⟨⟨by omega,by omega⟩,fun w3 hx3 _=>⟨⟨j+1,?_,by omega,?_⟩,?_⟩⟩
   ·rw [show d - 1=3 - ((j+1:Nat):Int) by omega]
   ·rw [hN8];exact hM2.step hx3
   ·show (d - 1).toNat<d.toNat;omega
 ·have hd:=of_decide_eq_false hd;rw [<-hE (by omega)];exact fun w2 hx2=>⟨rfl,(hM.step hx2).close⟩
end
theorem VO {n:Nat} {m:MW} {i:Nat} {p:MG}:∀x∈QL n (TH m i p),x∈QL n m\/x∈Qr p:=fun x hx=>by
 rcases Ec hx with h | h | h | ⟨k,hk,h⟩
 ·exact .inl (Do h)
 ·exact .inl (Dq h)
 ·exact .inl (Dp h)
 ·simp only [TH] at h
  split at h
  ·exact .inr h
  ·exact .inl (Jl hk h)
theorem Mv.swap {n base:Nat} {bs:List Nat} {w0 w w':World} {W W':Q8} {m0 m m':MW} (h:Mv n base bs w0 m0 w W m) (k:Yf n base w' W' m') (hx:Q0 (QL n m) w w') (hm:m'={ m with ms:=m'.ms })
  (hsub:∀x∈QL n m',x∈QL n m\/(w0.heap.size<=x/\x∉bs)):Mv n base bs w0 m0 w' W' m':=
 ⟨k,h.ext.fresh hx fun x hm=>(h.sub x hm).symm,fun x hx=>by
  rcases hsub x hx with h1 | h1
  ·exact h.sub x h1
  ·exact .inr h1.1,by rw [hm,h.hd],fun x hx=>by
  rcases hsub x hx with h1 | h1
  ·exact h.nb x h1
  ·exact h1.2,h.new⟩
section
variable {base:Nat} {W:Q8} {m:MW} {w:World}
theorem Fk {K:Int} (h:Yf 8 base w W m) (hsw:SW K W) (hK:0<=K) {c:Int} (c0:0<=c) (c1:c<(W.cpus.length:Int)) :
  Cz VE #[.agg (Qa W m).toArray,.int .i64 c] w fun e w'=>e = .returned (.agg (Qa W m).toArray)/\Mv 8 base [] w m w' (Zi W c) m:=by
 refine (F4 W.now m.cO W.cpus.length m.cC m.tO W.tasks.length m.tC m.gO W.groups.length m.gC c (R:=fun v w'=>v = .agg (Qa W m).toArray/\Mv 8 base [] w m w' (Zi W c) m) ?_).mono fun e w' ⟨v,he,hv,h3⟩=>⟨by rw [he,hv],h3⟩
 intro x hx x1 hx1;have hgl:=hsw.a.gl;refine Of W.groups.length 0 rfl (fun k w2=>k<=8/\Mv 8 base [x,x1] w m w2 (QV W c k) m) (fun w2 hx2 _=>⟨by decide,(Mv.two h hx hx1).call0 hx2⟩) fun k w2 hs2 ⟨hk8,hM2⟩ => ?_
 obtain ⟨hS2,hO2⟩:=Ki hsw hK c0 c1 k hk8;have e0:Qa (QV W c k) m=Qa W m:=TA hO2.fr;have hr:=hM2.rd;have hgl2:(QV W c k).groups.length=W.groups.length:=hO2.g.len;have hcl2:(QV W c k).cpus.length=W.cpus.length:=by rw [hO2.c]
 have hdef:QV W c (k+1)=if (gi (QV W c k).groups (k:Int)).used=true/\ZC (QV W c k) (k:Int) c 20=true/\Z5 (QV W c k) (k:Int) c 20>(Qb (QV W c k) (k:Int) c).floor then setSh (QV W c k) (k:Int) c (D0 (QV W c k) (k:Int) c) else QV W c k:=rfl;have hN8:k=8->Zi W c=QV W c k:=fun e=>by rw [e]; rfl
 generalize QV W c k=W2 at hM2 hS2 hO2 e0 hr hgl2 hcl2 hdef hN8;refine ⟨fun hlt => ?_,fun hge => ?_⟩
 ·have hlt:=of_decide_eq_true hlt;have hlt2:(k:Int)<(W2.groups.length:Int):=by omega
  have hix:Ix m.gO W.groups.length (k:Int):=by have:=hr.g.ix (i:=(k:Int)) (by omega) hlt2; rwa [hgl2] at this
  refine ⟨hix,(gi W2.groups (k:Int)).used,hr.g.used (by omega) hlt2,fun g => ?_,fun g => ?_⟩
  ·refine ⟨⟨by omega,by omega⟩,fun w3 hx3 _=>QX (by omega) ⟨by omega,?_⟩⟩;rw [hdef,if_neg (fun h1=>by rw [h1.1] at g; cases g)];exact hM2.step hx3
  ·have g:(gi W2.groups (k:Int)).used=true:=by simpa using g
   have hu:Q6 W2.groups (k:Int)=true:=Q5.2 ⟨by omega,hlt2,g⟩;have hsl:=hS2.a.sl hu;have hle:=MJ (g:=(k:Int)) hr hS2.a c0 (by omega);rw [e0] at hle;have hss:=hr.g.shelves (k:Int) (by omega) hlt2;have hixS:=hss.ix ZF c0 (by omega);have hwr:=zp5 hM2.own hM2.nb (i:=(k:Int)) (by omega) (by omega) c0 (by omega) (j:=0) (k:=1) (by decide);have hset:=hM2.own.stoS (i:=(k:Int)) (by omega) (by omega) c0 (by omega) (j:=0) (vs:=[.int .i64 (Z5 W2 (k:Int) c 20)]) (x:=D0 W2 (k:Int) c) rfl (by simp);rw [<-zsh] at hset;have hsub:Q0 (QL 8 m) w2 (sto w2 (m.ms k).sO (Int.toNat c*5+0) [.int .i64 (Z5 W2 (k:Int) c 20)]):=FK (by omega);simp only [Int.toNat_natCast] at hwr hixS hset;refine ⟨_,_,hle,fun _=>hix,_,_,_,fun _=>hr.g.shelf (by omega) hlt2,fun _=>hixS,_,fun _=>ze3.f hss c0 (by omega) (j:=0) rfl,fun g2 => ?_,fun g2 => ?_⟩
   ·refine ⟨hix,_,_,_,hr.g.shelf (by omega) hlt2,hixS,hwr,⟨by omega,by omega⟩,fun w3 hx3 _=>QX (by omega) ⟨by omega,?_⟩⟩;rw [hdef,if_pos ⟨g,by simpa [Qb] using g2⟩];exact (hM2.deed hset hsub).step hx3
   ·refine ⟨⟨by omega,by omega⟩,fun w3 hx3 _=>QX (by omega) ⟨by omega,?_⟩⟩;rw [hdef,if_neg]
    ·exact hM2.step hx3
    ·rintro ⟨_,h1,h2⟩;rw [h1,show decide (Z5 W2 (k:Int) c 20>(gi (gi W2.groups (k:Int)).shelves c).floor)=true from decide_eq_true h2] at g2;cases g2
 ·have hge:=of_decide_eq_false hge;rw [hN8 (by omega)];exact fun w3 hx3=>⟨rfl,(hM2.step hx3).close⟩
theorem M9.locs {bs:List Nat} {w:World} {gs:List Zv} {ms:Nat->MG} {o:OA} (h:M9 bs w o gs ms) {i:Int} (h0:0<=i) (h1:i<(gs.length:Int)):Q2 bs w o (Int.toNat i*14+8+3) [.slice (ms i.toNat).lO (gi gs i).band.locals.length (ms i.toNat).lC]:=(h.cells i h0 h1).get 11 _ rfl
theorem M9.quo {bs:List Nat} {w:World} {gs:List Zv} {ms:Nat->MG} {o:OA} (h:M9 bs w o gs ms) {i:Int} (h0:0<=i) (h1:i<(gs.length:Int)):Q2 bs w o (Int.toNat i*14+8+0) [.int .i64 (gi gs i).band.quota]:=(h.cells i h0 h1).get 8 _ rfl
def Ol (m:MG) (p:MG):MG:=⟨p.lO,p.lC,p.dO,p.dC,m.sO,m.sC⟩
theorem VN {m p:MG}:∀x∈Qr (Ol m p),x∈ZE p\/x∈Qr m:=fun x hx=>by
 simp only [Qr,Ol,ZE,List.mem_append] at hx ⊢;rcases hx with (h | h) | h
 ·exact .inl (.inl h)
 ·exact .inl (.inr h)
 ·exact .inr (.inr h)
theorem Yf.putB {n:Nat} (h:Yf n base w W m) {i:Int} (h0:0<=i) (hi:i<(n:Int)) {b:Ja} {p:MG} (hb:QT base w b p) (hn:∀x∈ZE p,x∉QL n m) :
  Yf n base (sto w m.gO (Int.toNat i*14+8) (Z3 b p)) (setBd W i b) (TH m i.toNat (Ol (m.ms i.toNat) p)):=by
 have hm:=h.each h0 hi;refine h.stoG h0 hi (g:={ gi W.groups i with band:=b }) (p:=Ol (m.ms i.toNat) p) ⟨hb.loc,hb.dry,hm.shl⟩ (fun x hx => ?_) rfl (by simp [Z3]);rcases VN x hx with h1 | h1
 ·exact .inl (hn x h1)
 ·exact .inr h1
set_option maxHeartbeats 1000000 in
theorem C5 {F K:Int} (h:Yf 8 base w W m) (hsw:SF F K W) (hbase:base<=w.heap.size) :
  Cz TZ #[.agg (Qa W m).toArray] w fun e w'=>∃m',e = .returned (.agg (Qa W m).toArray)/\Mv 8 base [] w m w' (KV W) m':=by
 refine (AO W.now m.cO W.cpus.length m.cC m.tO W.tasks.length m.tC m.gO W.groups.length m.gC (R:=fun v w'=>∃m',v = .agg (Qa W m).toArray/\Mv 8 base [] w m w' (KV W) m') ?_).mono fun e w' ⟨v,he,m',hv,h3⟩=>⟨m',by rw [he,hv],h3⟩
 intro x hx x1 hx1;have hgl:=hsw.w.a.gl;have hcl4:=hsw.w.a.c2;have hnew:=Yl hx hx1;refine Of W.groups.length 0 rfl (fun k w2=>k<=8/\∃m2,Mv 8 base [x,x1] w m w2 (YF W k) m2) (fun w2 hx2 _=>⟨by decide,m,(Mv.two h hx hx1).call0 hx2⟩) fun k w2 hs2 ⟨hk8,m2,hM2⟩ => ?_
 obtain ⟨hS2,hO2⟩:=T4 hsw k hk8;have hgl2:(YF W k).groups.length=W.groups.length:=hO2.g.len;have hcl2:(YF W k).cpus.length=W.cpus.length:=by rw [hO2.c]
 have hdef:YF W (k+1)=if (gi (YF W k).groups (k:Int)).used=true/\(gi (YF W k).groups (k:Int)).band.quota≠0 then Yr (YF W k) (k:Int) (YF W k).cpus.length else YF W k:=rfl;have hN8:k=8->KV W=YF W k:=fun e=>by rw [e]; rfl
 generalize YF W k=W2 at hM2 hS2 hO2 hgl2 hcl2 hdef hN8;have hmg:m2.gO=m.gO:=by rw [hM2.hd]
 have hr:=hM2.rd;refine ⟨fun hlt => ?_,fun hge => ?_⟩
 ·have hlt:=of_decide_eq_true hlt;have hlt2:(k:Int)<(W2.groups.length:Int):=by omega
  have hix:Ix m.gO W.groups.length (k:Int):=by have:=hr.g.ix (i:=(k:Int)) (by omega) hlt2; rwa [hgl2,hmg] at this
  have hru:=hr.g.used (i:=(k:Int)) (by omega) hlt2;have hrq:=hr.g.quo (i:=(k:Int)) (by omega) hlt2;rw [hmg] at hru hrq;refine ⟨hix,(gi W2.groups (k:Int)).used,hru,fun _=>hix,_,fun _=>hrq,fun g => ?_,fun g => ?_⟩
  ·refine ⟨⟨by omega,by omega⟩,fun w3 hx3 _=>QX (by omega) ⟨by omega,m2,?_⟩⟩;rw [hdef,if_neg]
   ·exact hM2.step hx3
   ·rintro ⟨h1,h2⟩;rw [h1] at g;simp [h2] at g
  ·simp only [Bool.or_eq_false_iff,Bool.not_eq_false',beq_eq_false_iff_ne] at g;have hu:Q6 W2.groups (k:Int)=true:=Q5.2 ⟨by omega,hlt2,g.1⟩;rw [if_pos ⟨g.1,g.2⟩] at hdef;refine Of W.cpus.length 0 rfl (fun c w3=>c<=W.cpus.length/\∃m3,Mv 8 base [x,x1] w m w3 (Yr W2 (k:Int) c) m3) (fun w3 hx3 _=>⟨Nat.zero_le _,m2,hM2.step hx3⟩) fun c w3 hs3 ⟨hc,m3,hM3⟩ => ?_
   obtain ⟨hS3,hO3,hq3⟩:=GL hS2 hu g.2 c (by omega);have hgl3:(Yr W2 (k:Int) c).groups.length=W.groups.length:=by rw [hO3.g.len,hgl2]
   have hcl3:(Yr W2 (k:Int) c).cpus.length=W.cpus.length:=by rw [hO3.c,hcl2]
   have hdef3:Yr W2 (k:Int) (c+1)=if gi (gi (Yr W2 (k:Int) c).groups (k:Int)).band.locals (c:Int)>0/\QN (Yr W2 (k:Int) c) (k:Int) (c:Int)=false then setBd (Yr W2 (k:Int) c) (k:Int) (Yd (gi (Yr W2 (k:Int) c).groups (k:Int)).band (c:Int)) else Yr W2 (k:Int) c:=rfl;have hN3:c=W.cpus.length->YF W (k+1)=Yr W2 (k:Int) c:=fun e=>by rw [hdef,hcl2,e]
   have e3:Qa (Yr W2 (k:Int) c) m3=Qa W m:=hM3.encW_eq (by rw [hO3.n,hO2.n]) hcl3 (by rw [hO3.t,hO2.t]) hgl3;have hu3:Q6 (Yr W2 (k:Int) c).groups (k:Int)=true:=by rw [hO3.g.usd]; exact hu
   generalize Yr W2 (k:Int) c=W3 at hM3 hS3 hO3 hq3 hgl3 hcl3 hdef3 hN3 e3 hu3;have hmg3:m3.gO=m.gO:=by rw [hM3.hd]
   have hr3:=hM3.rd;refine ⟨fun hlt3 => ?_,fun hge3 => ?_⟩
   ·have hlt3:=of_decide_eq_true hlt3;obtain ⟨u0,u1,hgu⟩:=hS3.w.a.u hu3;obtain ⟨hb,hbl,_⟩:=hgu.band hq3;have hklt:(k:Int)<(W3.groups.length:Int):=by omega
    have hrl:=hr3.g.locs (i:=(k:Int)) (by omega) hklt;have hrb:=hr3.g.band (i:=(k:Int)) (by omega) hklt;rw [hmg3] at hrl hrb;have hLo:=hr3.g.locals (k:Int) (by omega) hklt;have hDo:=hr3.g.dry (k:Int) (by omega) hklt;have hact:=Ts (g:=(k:Int)) (c:=(c:Int)) hr3 hS3.w.a (by omega) (by omega);rw [e3] at hact;refine ⟨hix,_,_,_,hrl,hLo.ix Vr (by omega) (by omega),_,hLo (c:Int) (by omega) (by omega),_,fun _=>hact,fun g3 => ?_,fun g3 => ?_⟩
    ·simp only [Bool.and_eq_true,decide_eq_true_eq,Bool.not_eq_true'] at g3;rw [if_pos g3] at hdef3;refine ⟨hix,_,_,_,_,_,_,_,_,_,hrb,fun wr3 hx3 hs4 => ?_⟩;have hM4:=hM3.step hx3;have hr4:=hM4.rd0;refine Calls.mono (XT (op:=⟨3,(c:Int),0⟩) hb (hr4.g.locals (k:Int) (by omega) hklt) (hr4.g.dry (k:Int) (by omega) hklt)) ?_;rintro e wv2 ⟨p,he,hO,hy⟩
     have hbd:Yu (gi W3.groups (k:Int)).band ⟨3,(c:Int),0⟩=(Yd (gi W3.groups (k:Int)).band (c:Int),0):=by
      unfold Yu;rw [if_neg (show ¬(3:Int)=4 by decide),if_neg (by rw [Qm.2 (by show 0<=(c:Int)/\(c:Int)<=_; omega)]; decide),if_neg (show ¬(3:Int)=1 by decide),if_neg (show ¬(3:Int)=2 by decide),if_pos rfl]
     rw [hbd] at he hO
     dsimp only at he hO
     have hM5:=hM4.call0 hy;have hbs:base<=wr3.heap.size:=by have:=hM4.ext.size; omega
     have hOb:∀y∈ZE p,wr3.heap.size<=y:=fun y hy=>(hO.lt y hy).1
     have hput:=hM5.own.putB (i:=(k:Int)) (by omega) (by omega) (hO.mono hbs) (fun y hy hm=>by have:=hOb y hy; have:=(hM4.own.lt y hm).2; omega);have hwr:=CH hM5.own hM5.nb (i:=(k:Int)) (by omega) (by omega) (j:=8) (k:=5) (by decide);have hsz:=hM4.ext.size
     have hM6:=hM5.swap hput DR rfl fun y hy=>by
      rcases VO y hy with h1 | h1
      ·exact .inl h1
      ·rcases VN y h1 with h2 | h2
       ·have:=hOb y h2;exact .inr ⟨by omega,fun hm=>by have:=hs4 y hm; omega⟩
       ·exact .inl (Jl (by omega) h2)
     rw [hmg3] at hwr hM6;refine ⟨_,_,_,_,_,_,_,_,_,_,he,Qe hy hs4,fun b2 hb2=>⟨hix,hwr,⟨by omega,by omega⟩,fun w5 hx5 _=>QX (w1:=w3) (by omega) ⟨by omega,TH m3 (Int.toNat (k:Int)) (Ol (m3.ms (Int.toNat (k:Int))) p),?_⟩⟩⟩;rw [hdef3];exact hM6.step hx5
    ·refine ⟨⟨by omega,by omega⟩,fun w5 hx5 _=>QX (by omega) ⟨by omega,m3,?_⟩⟩;rw [hdef3,if_neg]
     ·exact hM3.step hx5
     ·rintro ⟨h1,h2⟩;rw [h2,decide_eq_true h1] at g3;cases g3
   ·have hge3:=of_decide_eq_false hge3;refine ⟨⟨by omega,by omega⟩,fun w5 hx5 _=>QX (by omega) ⟨by omega,m3,?_⟩⟩;rw [hN3 (by omega)];exact hM3.step hx5
 ·have hge:=of_decide_eq_false hge;rw [hN8 (by omega)];exact fun w3 hx3=>⟨m2,rfl,(hM2.step hx3).close⟩
end
end Go.Proofs.YtclpmgfpjeaibaaGreat
