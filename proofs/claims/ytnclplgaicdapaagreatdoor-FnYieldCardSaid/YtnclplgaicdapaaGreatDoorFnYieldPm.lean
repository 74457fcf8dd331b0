/- Part 13 of what the law FnYield needs: the engine, the functions' propositions, the contracts. -/
import Derived.Test.YtnclplgaicdapaaGreatDoorFnYieldPl
namespace Go.Proofs.YtnclplgaicdapaaGreatDoor
open Go.RowKit
set_option linter.unusedVariables false
set_option linter.unusedSimpArgs false
set_option maxRecDepth 10000
set_option maxHeartbeats 8000000
section
variable {base:Nat}{W:Q7}{m:MW}{w:Wo}
theorem Yr{w:Wo}{x x1:Nat}(h:w.heap.size<=x)(h1:w.heap.size<=x1):∀y∈[x,x1],w.heap.size<=y:=fun y hm=>by
 simp only[List.mem_cons,List.not_mem_nil,or_false] at hm;rcases hm with rfl | rfl <;> assumption
theorem Mv.two{n:Nat}(h:Y1 n base w W m){x x1:Nat}(hx:w.heap.size<=x)(hx1:w.heap.size<=x1):Mv n base [x,x1] w m w W m:=((Mv.start h).add hx).add hx1
theorem D4{n:Nat}{m:MW}{w:Wo}{k:Nat}{vs:List Va}:Q0 (QB n m) w (sto w m.cO k vs):=Pc fun a ha=>Ee (by rw[ha]; simp[Qy])
theorem Lv{n:Nat}{m:MW}{w:Wo}{k:Nat}{vs:List Va}:Q0 (QB n m) w (sto w m.tO k vs):=Pc fun a ha=>Eg (by rw[ha]; simp[Qy])
theorem EE{n:Nat}{m:MW}{w:Wo}{k:Nat}{vs:List Va}:Q0 (QB n m) w (sto w m.gO k vs):=Pc fun a ha=>Ef (by rw[ha]; simp[Qy])
theorem BE{n:Nat}{m:MW}{w:Wo}{i k:Nat}{vs:List Va}(hi:i<n):Q0 (QB n m) w (sto w (m.ms i).sO k vs):=Pc fun a ha=>JB hi (by simp[Ql,Qy,ha])
theorem zhl{n:Nat}{bs:List Nat}(h:Y1 n base w W m)(hd:∀x∈QB n m,x∉bs){i:Int}(h0:0<=i)(h1:i<(W.cpus.length:Int)){j k:Nat}(hj:j+k<=5):YX bs w m.cO (Int.toNat i*5+j) k:=h.c.wr Mf.len (fun b hb=>hd b (Ee hb)) h0 h1 hj
theorem ze9{n:Nat}{bs:List Nat}(h:Y1 n base w W m)(hd:∀x∈QB n m,x∉bs){i:Int}(h0:0<=i)(h1:i<(W.tasks.length:Int)){j k:Nat}(hj:j+k<=9):YX bs w m.tO (Int.toNat i*9+j) k:=h.t.wr Tp.len (fun b hb=>hd b (Eg hb)) h0 h1 hj
theorem zbc{n:Nat}{bs:List Nat}(h:Y1 n base w W m)(hd:∀x∈QB n m,x∉bs){i:Int}(h0:0<=i)(h1:i<(n:Int)){j k:Nat}(hj:j+k<=14):YX bs w m.gO (Int.toNat i*14+j) k:=h.g.row.wr ZJ.len (fun b hb=>hd b (Ef hb)) h0 (by rw[Xl,h.len]; exact h1) hj
theorem ztc{n:Nat}{bs:List Nat}(h:Y1 n base w W m)(hd:∀x∈QB n m,x∉bs){i c:Int}(h0:0<=i)(h1:i<(n:Int))(c0:0<=c)(c1:c<((gi W.groups i).shelves.length:Int)){j k:Nat}(hj:j+k<=5):YX bs w (m.ms i.toNat).sO (Int.toNat c*5+j) k:=
 (h.each h0 h1).shl.wr UQ.len (fun b hb=>hd b (JB (k:=i.toNat) (by omega) (by simp[Ql]; exact .inr (.inr hb)))) c0 c1 hj
theorem zkp{n:Nat}(h:Y1 n base w W m){c:Int}(c0:0<=c)(c1:c<(W.cpus.length:Int)) :
  (Y1 n base (sto w m.cO (Int.toNat c*5+1) [.int .i64 (-1)]) { W with cpus:=W.cpus.set c.toNat { gi W.cpus c with cur := -1 } } m)/\
  Y1 n base (sto (sto w m.cO (Int.toNat c*5+1) [.int .i64 (-1)]) m.cO (Int.toNat c*5+2) [.int .i64 0]) (endW W c) m:=by
 have e1:=h.stoC c0 c1 (j:=1) (vs:=[.int .i64 (-1)]) (x:={ gi W.cpus c with cur := -1 }) rfl (by decide);refine⟨e1,?_⟩;have hg:gi (W.cpus.set c.toNat { gi W.cpus c with cur := -1 }) c={ gi W.cpus c with cur := -1 }:=by rw[Qw _ _ c0 c1 c0,if_pos rfl]
 have e2:=e1.stoC c0 (by simpa using c1) (j:=2) (vs:=[.int .i64 0]) (x:=Xd (gi W.cpus c)) (by rw[hg]; rfl) (by decide);rw[List.set_set] at e2;exact e2
theorem Zp{n:Nat}(h:Y1 n base w W m){c:Int}(c0:0<=c)(c1:c<(W.cpus.length:Int)) :
  Cz Z2 #[.agg (Qa W m).toArray,.int .i64 c] w fun e w'=>e=.returned (.agg (Qa (endW W c) m).toArray)/\Mv n base [] w m w' (endW W c) m:=by
 refine(zds W.now m.cO W.cpus.length m.cC m.tO W.tasks.length m.tC m.gO W.groups.length m.gC c (R:=fun v w'=>v=.agg (Qa (endW W c) m).toArray/\Mv n base [] w m w' (endW W c) m) ?_).mono fun e w' ⟨v,he,hv,h3⟩=>⟨by rw[he,hv],h3⟩
 intro x hx x1 hx1;obtain⟨e1,e2⟩:=zkp h c0 c1;have hr:=h.rd (bs:=[]) (by simp);refine⟨hr.c.ix Zh c0 c1,zhl h (by simp) c0 c1 (by decide),hr.c.ix Zh c0 c1,zhl e1 (by simp) c0 (by simpa using c1) (by decide),fun wr hx2=>⟨by simp[Qa,endW,setCp],((Mv.start h).deed e2 (D4.trans D4)).call0 hx2⟩⟩
theorem zvu{W:Q7}{g c:Int}{s:Mx}:setSh W g c s={ W with groups:=W.groups.set g.toNat { gi W.groups g with shelves:=(gi W.groups g).shelves.set c.toNat s } }:=rfl
theorem O4{W W':Q7}{m:MW}(h:Fr W W'):Qa W' m=Qa W m:=by
 simp only[Qa,h.n,h.c,h.t,h.g.len]
theorem zdj{gs:List ZA}(ht:ZU gs){k:Int}(hu:Q6 gs k=true):Tw (gs.length+1) gs k 0=dep 3 gs k:=by
 have hp:∀g:Int,g≠0->Q6 gs g=true->Q6 gs (gi gs g).parent=true:=fun g hz hu=>(ZZ ht hu hz).1
 have hd:0<=dep 3 gs k/\dep 3 gs k<=3:=by
  by_cases hz:k=0
  ·subst hz; rw[Y8]; omega
  ·obtain⟨_,_,_,d,e,_,hd⟩:=ZZ ht hu hz;omega
 have hm:=Kc gs 3 gs.length k hd.1 (by rw[ht.len]; omega);rw[HF hp _ _ _ hu,hm,if_neg (by omega)];omega
theorem Aj{F K:Int}{n:Nat}(hsw:SF F K W)(h:Y1 n base w W m)(hk:F+Qk<=K){k c:Int}(hu:Q6 W.groups k=true)(hn:n=8)(c0:0<=c)(c1:c<(W.cpus.length:Int))(s:Mx) :
  Y1 n base (sto w (m.ms k.toNat).sO (Int.toNat c*5) (P1 s)) (setSh W k c s) m:=by
 obtain⟨u0,u1,_⟩:=Q5.1 hu;have hl:=hsw.w.a.gl;have hs:=hsw.w.a.sl hu;exact h.stoS u0 (by omega) c0 (by omega) (j:=0) (vs:=P1 s) (x:=s) (by simp[P1]) (by simp[P1])
theorem Ko{F K:Int}(h:Y1 8 base w W m)(hsw:SF F K W)(hk:F+Qk<=K)(hK:K<=1000000000000000000){c:Int}(c0:0<=c)(c1:c<(W.cpus.length:Int)) :
  Cz Uj #[.agg (Qa W m).toArray,.int .i64 c] w fun e w'=>e=.returned (.agg (Qa W m).toArray)/\Mv 8 base [] w m w' (QN W c) m:=by
 refine(NL W.now m.cO W.cpus.length m.cC m.tO W.tasks.length m.tC m.gO W.groups.length m.gC c (R:=fun v w'=>v=.agg (Qa W m).toArray/\Mv 8 base [] w m w' (QN W c) m) ?_).mono fun e w' ⟨v,he,hv,h3⟩=>⟨by rw[he,hv],h3⟩
 intro x hx x1 hx1;have hgl:=hsw.w.a.gl
 refine⟨fun vs w1=>∃(j:Nat),vs=[.int .i64 (3-(j:Int))]/\j<=3/\Mv 8 base [x,x1] w m w1 (XB W c j) m,
  fun vs _=>(Y5 0 vs).toNat,fun wr hx0 _=>⟨0,rfl,by decide,(Mv.two h hx hx1).call0 hx0⟩,?_⟩
 rintro d wv hs ⟨j,he,j3,hM⟩;obtain⟨hS,hO⟩:=E9 hsw hk c0 c1 j j3;have hN:XB W c (j+1)=ZO (XB W c j) c (3-(j:Int)) 8:=rfl;have hE:j=3->XB W c j=QN W c:=fun e=>by rw[e]; rfl
 generalize XB W c j=W1 at hM hS hO hN hE;simp only[List.cons.injEq,Value.int.injEq,true_and,and_true] at he;refine⟨fun hd=>?_,fun hd=>?_⟩
 ·have hd:=Ot hd;have c1':c<(W1.cpus.length:Int):=by rw[hO.c]; exact c1
  refine OM W.groups.length 1 rfl (fun k w2=>1<=k/\k<=8/\Mv 8 base [x,x1] w m w2 (ZO W1 c d k) m) (fun w2 hx2 _=>⟨Nat.le_refl _,by decide,?_⟩) fun k w2 hs2 ⟨hk1,hk8,hM2⟩=>?_
  ·have e:ZO W1 c d 1=W1:=zme (by omega);rw[e];exact hM.step hx2
  obtain⟨hS2,hO2⟩:=Ai hS hk (c:=c) (d:=d) (by omega) c0 c1' k hk8;have hf2:=hO.trans hO2;have e0:Qa (ZO W1 c d k) m=Qa W m:=O4 hf2.fr;have hr:=hM2.rd;have hgl2:(ZO W1 c d k).groups.length=W.groups.length:=hf2.g.len;have hcl2:(ZO W1 c d k).cpus.length=W.cpus.length:=by rw[hf2.c]
  have hdef:ZO W1 c d (k+1)=if (gi (ZO W1 c d k).groups (k:Int)).used=true/\dep 3 (ZO W1 c d k).groups (k:Int)=d then setSh (ZO W1 c d k) (k:Int) c (Yl (ZO W1 c d k) (k:Int) c) else ZO W1 c d k:=rfl;have hN8:k=8->XB W c (j+1)=ZO W1 c d k:=fun e=>by rw[hN,<-he,e]
  generalize ZO W1 c d k=W2 at hM2 hS2 hO2 hf2 e0 hr hgl2 hcl2 hdef hN8;refine⟨fun hlt=>?_,fun hge=>?_⟩
  ·have hlt:=Ot hlt;have hlt2:(k:Int)<(W2.groups.length:Int):=by omega
   have hdp:=OK (g:=(k:Int)) (c:=m.gC) hr.g (by have:=Zb; omega);rw[hgl2] at hdp;refine⟨by have:=hr.g.ix (i:=(k:Int)) (by omega) hlt2; rwa[hgl2] at this,(gi W2.groups (k:Int)).used,hr.g.used (by omega) hlt2,_,fun _=>hdp,fun g=>?_,fun g=>?_⟩
   ·refine⟨⟨by omega,by omega⟩,fun w3 hx3 _=>Z0 (by omega) ⟨by omega,by omega,?_⟩⟩;rw[hdef,if_neg]
    ·exact hM2.step hx3
    ·rintro⟨h1,h2⟩;have hu:Q6 W2.groups (k:Int)=true:=Q5.2 ⟨by omega,hlt2,h1⟩;have:=zdj hS2.w.a.tree hu;rw[hgl2] at this;rw[this,h1,h2] at g;simp at g
   ·simp only[Bool.or_eq_false_iff,Bool.not_eq_false',bne_eq_false_iff_eq] at g;have hu:Q6 W2.groups (k:Int)=true:=Q5.2 ⟨by omega,hlt2,g.1⟩;have hdk:=zdj hS2.w.a.tree hu;rw[hgl2,g.2] at hdk;rw[if_pos ⟨g.1,hdk.symm⟩] at hdef;have hsl:=hS2.w.a.sl hu;have hz:(k:Int)≠0:=by omega
    have hp:=hS2.w.a.up hu hz;obtain⟨p0,p1,_⟩:=Q5.1 hp;have hpl:=hS2.w.a.sl hp;have s1:=hS2.w.s _ c hu c0 (by omega);have s2:=hS2.w.s _ c hp c0 (by omega);have lc:=ZQ ((Qc W2 (k:Int) c).v-(Qc W2 (gi W2.groups (k:Int)).parent c).floor) (Qc W2 (k:Int) c).w;have lm:=ZN (Qc W2 (k:Int) c).w;have hix:Ix m.gO W.groups.length (k:Int):=by have:=hr.g.ix (i:=(k:Int)) (by omega) hlt2; rwa[hgl2] at this
    have hixS:=(hr.g.shelves (k:Int) (by omega) hlt2).ix ZD c0 (by omega);have hact:=TW (g:=(k:Int)) hr hS2.w.a c0 (by omega);have hdry:=Mh (g:=(k:Int)) hr hS2.w.a hu c0 (by omega);rw[e0] at hact hdry;have hset:=fun s=>Aj hS2 hM2.own hk hu rfl c0 (c:=c) (by omega) s
    have hsub:∀{vs:List Va},Q0 (QB 8 m) w2 (sto w2 (m.ms k).sO (Int.toNat c*5) vs):=fun {vs}=>BE (by omega)
    have hwr:=ztc hM2.own hM2.nb (i:=(k:Int)) (by omega) (by omega) c0 (by omega) (j:=0) (k:=5) (by decide);simp only[Int.toNat_natCast] at hset hwr hixS;refine⟨hix,_,_,_,hr.g.shelf (by omega) hlt2,hixS,_,_,_,_,_,(hr.g.shelves (k:Int) (by omega) hlt2) c c0 (by omega),fun b2 hb2=>⟨QP W2 (k:Int) c,hact,UU W2 (k:Int) c,fun _=>hdry,fun g2=>?_,fun g2=>?_⟩⟩
    ·have hss:Yl W2 (k:Int) c=⟨(Qc W2 (k:Int) c).floor,QP W2 (k:Int) c && !UU W2 (k:Int) c,(Qc W2 (gi W2.groups (k:Int)).parent c).floor+X3 ((Qc W2 (k:Int) c).v-(Qc W2 (gi W2.groups (k:Int)).parent c).floor) (Qc W2 (k:Int) c).w,(Qc W2 (k:Int) c).w,(Qc W2 (k:Int) c).sum⟩:=by
      unfold Yl;rw[if_pos]
      simpa[Qc] using g2
     have hset:=hset (Yl W2 (k:Int) c);rw[hss] at hset;have hpix:Ix m.gO W.groups.length (gi W2.groups (k:Int)).parent:=by have:=hr.g.ix p0 p1; rwa[hgl2] at this
     refine⟨hix,_,hr.g.parent (by omega) hlt2,hpix,_,_,_,hr.g.shelf p0 p1,(hr.g.shelves _ p0 p1).ix ZD c0 (by omega),_,ze8.f (hr.g.shelves _ p0 p1) c0 (by omega) (j:=0) rfl,⟨by show _<=(Qc W2 (k:Int) c).v-(Qc W2 (gi W2.groups (k:Int)).parent c).floor; omega,by show (Qc W2 (k:Int) c).v-(Qc W2 (gi W2.groups (k:Int)).parent c).floor<=_; omega⟩,_,Pv,⟨?_,?_⟩,hix,_,_,_,hr.g.shelf (by omega) hlt2,hixS,hwr,⟨by omega,by omega⟩,fun w3 hx3 _=>Z0 (by omega) ⟨by omega,by omega,?_⟩⟩
     ·show -9223372036854775808<=(Qc W2 (gi W2.groups (k:Int)).parent c).floor+X3 ((Qc W2 (k:Int) c).v-(Qc W2 (gi W2.groups (k:Int)).parent c).floor) (Qc W2 (k:Int) c).w;omega
     ·show (Qc W2 (gi W2.groups (k:Int)).parent c).floor+X3 ((Qc W2 (k:Int) c).v-(Qc W2 (gi W2.groups (k:Int)).parent c).floor) (Qc W2 (k:Int) c).w<=9223372036854775807;omega
     ·rw[hdef,hss];exact(hM2.deed hset hsub).step hx3
    ·have hss:Yl W2 (k:Int) c=⟨(Qc W2 (k:Int) c).floor,QP W2 (k:Int) c && !UU W2 (k:Int) c,(Qc W2 (k:Int) c).v,(Qc W2 (k:Int) c).w,(Qc W2 (k:Int) c).sum⟩:=by
      unfold Yl;rw[if_neg];intro h1;rw[h1.1,show (gi (gi W2.groups (k:Int)).shelves c).on=false from h1.2] at g2;cases g2
     have hset:=hset (Yl W2 (k:Int) c);rw[hss] at hset;refine⟨hix,_,_,_,hr.g.shelf (by omega) hlt2,hixS,hwr,⟨by omega,by omega⟩,fun w3 hx3 _=>Z0 (by omega) ⟨by omega,by omega,?_⟩⟩;rw[hdef,hss];exact(hM2.deed hset hsub).step hx3
  ·have hge:=Ou hge;have hN8:=hN8 (by omega);refine⟨⟨by omega,by omega⟩,fun w3 hx3 _=>⟨⟨j+1,?_,by omega,?_⟩,?_⟩⟩
   ·rw[show d-1=3-((j+1:Nat):Int) by omega]
   ·rw[hN8];exact hM2.step hx3
   ·show (d-1).toNat<d.toNat;omega
 ·have hd:=Ou hd;rw[<-hE (by omega)];exact fun w2 hx2=>⟨rfl,(hM.step hx2).close⟩
end
theorem Ta{n:Nat}{m:MW}{i:Nat}{p:MG}:∀x∈QB n (Oc m i p),x∈QB n m\/x∈Ql p:=fun x hx=>by
 rcases F1 hx with h | h | h | ⟨k,hk,h⟩
 ·exact .inl (Ee h)
 ·exact .inl (Eg h)
 ·exact .inl (Ef h)
 ·simp only[Oc] at h
  split at h
  ·exact .inr h
  ·exact .inl (JB hk h)
theorem Mv.swap{n base:Nat}{bs:List Nat}{w0 w w':Wo}{W W':Q7}{m0 m m':MW}(h:Mv n base bs w0 m0 w W m)(k:Y1 n base w' W' m')(hx:Q0 (QB n m) w w')(hm:m'={ m with ms:=m'.ms })(hsub:∀x∈QB n m',x∈QB n m\/(w0.heap.size<=x/\x∉bs)):Mv n base bs w0 m0 w' W' m':=
 ⟨k,h.ext.fresh hx fun x hm=>(h.sub x hm).symm,fun x hx=>by
  rcases hsub x hx with h1 | h1
  ·exact h.sub x h1
  ·exact .inr h1.1,by rw[hm,h.hd],fun x hx=>by
  rcases hsub x hx with h1 | h1
  ·exact h.nb x h1
  ·exact h1.2,h.new⟩
section
variable {base:Nat}{W:Q7}{m:MW}{w:Wo}
theorem Be{K:Int}(h:Y1 8 base w W m)(hsw:SW K W)(hK:0<=K){c:Int}(c0:0<=c)(c1:c<(W.cpus.length:Int)) :
  Cz T0 #[.agg (Qa W m).toArray,.int .i64 c] w fun e w'=>e=.returned (.agg (Qa W m).toArray)/\Mv 8 base [] w m w' (Zo W c) m:=by
 refine(FW W.now m.cO W.cpus.length m.cC m.tO W.tasks.length m.tC m.gO W.groups.length m.gC c (R:=fun v w'=>v=.agg (Qa W m).toArray/\Mv 8 base [] w m w' (Zo W c) m) ?_).mono fun e w' ⟨v,he,hv,h3⟩=>⟨by rw[he,hv],h3⟩
 intro x hx x1 hx1;have hgl:=hsw.a.gl;refine OM W.groups.length 0 rfl (fun k w2=>k<=8/\Mv 8 base [x,x1] w m w2 (QY W c k) m) (fun w2 hx2 _=>⟨by decide,(Mv.two h hx hx1).call0 hx2⟩) fun k w2 hs2 ⟨hk8,hM2⟩=>?_
 obtain⟨hS2,hO2⟩:=KT hsw hK c0 c1 k hk8;have e0:Qa (QY W c k) m=Qa W m:=O4 hO2.fr;have hr:=hM2.rd;have hgl2:(QY W c k).groups.length=W.groups.length:=hO2.g.len;have hcl2:(QY W c k).cpus.length=W.cpus.length:=by rw[hO2.c]
 have hdef:QY W c (k+1)=if (gi (QY W c k).groups (k:Int)).used=true/\ZH (QY W c k) (k:Int) c 20=true/\Z9 (QY W c k) (k:Int) c 20>(Qc (QY W c k) (k:Int) c).floor then setSh (QY W c k) (k:Int) c (DR (QY W c k) (k:Int) c) else QY W c k:=rfl;have hN8:k=8->Zo W c=QY W c k:=fun e=>by rw[e]; rfl
 generalize QY W c k=W2 at hM2 hS2 hO2 e0 hr hgl2 hcl2 hdef hN8;refine⟨fun hlt=>?_,fun hge=>?_⟩
 ·have hlt:=Ot hlt;have hlt2:(k:Int)<(W2.groups.length:Int):=by omega
  have hix:Ix m.gO W.groups.length (k:Int):=by have:=hr.g.ix (i:=(k:Int)) (by omega) hlt2; rwa[hgl2] at this
  refine⟨hix,(gi W2.groups (k:Int)).used,hr.g.used (by omega) hlt2,fun g=>?_,fun g=>?_⟩
  ·refine⟨⟨by omega,by omega⟩,fun w3 hx3 _=>Z0 (by omega) ⟨by omega,?_⟩⟩;rw[hdef,if_neg (fun h1=>by rw[h1.1] at g; cases g)];exact hM2.step hx3
  ·have g:(gi W2.groups (k:Int)).used=true:=by simpa using g
   have hu:Q6 W2.groups (k:Int)=true:=Q5.2 ⟨by omega,hlt2,g⟩;have hsl:=hS2.a.sl hu;have hle:=Kn (g:=(k:Int)) hr hS2.a c0 (by omega);rw[e0] at hle;have hss:=hr.g.shelves (k:Int) (by omega) hlt2;have hixS:=hss.ix ZD c0 (by omega);have hwr:=ztc hM2.own hM2.nb (i:=(k:Int)) (by omega) (by omega) c0 (by omega) (j:=0) (k:=1) (by decide);have hset:=hM2.own.stoS (i:=(k:Int)) (by omega) (by omega) c0 (by omega) (j:=0) (vs:=[.int .i64 (Z9 W2 (k:Int) c 20)]) (x:=DR W2 (k:Int) c) rfl (by simp);rw[<-zvu] at hset;have hsub:Q0 (QB 8 m) w2 (sto w2 (m.ms k).sO (Int.toNat c*5+0) [.int .i64 (Z9 W2 (k:Int) c 20)]):=BE (by omega);simp only[Int.toNat_natCast] at hwr hixS hset;refine⟨_,_,hle,fun _=>hix,_,_,_,fun _=>hr.g.shelf (by omega) hlt2,fun _=>hixS,_,fun _=>ze8.f hss c0 (by omega) (j:=0) rfl,fun g2=>?_,fun g2=>?_⟩
   ·refine⟨hix,_,_,_,hr.g.shelf (by omega) hlt2,hixS,hwr,⟨by omega,by omega⟩,fun w3 hx3 _=>Z0 (by omega) ⟨by omega,?_⟩⟩;rw[hdef,if_pos ⟨g,by simpa[Qc] using g2⟩];exact(hM2.deed hset hsub).step hx3
   ·refine⟨⟨by omega,by omega⟩,fun w3 hx3 _=>Z0 (by omega) ⟨by omega,?_⟩⟩;rw[hdef,if_neg]
    ·exact hM2.step hx3
    ·rintro⟨_,h1,h2⟩;rw[h1,show decide (Z9 W2 (k:Int) c 20>(gi (gi W2.groups (k:Int)).shelves c).floor)=true from decide_eq_true h2] at g2;cases g2
 ·have hge:=Ou hge;rw[hN8 (by omega)];exact fun w3 hx3=>⟨rfl,(hM2.step hx3).close⟩
theorem Mw.locs{bs:List Nat}{w:Wo}{gs:List ZA}{ms:Nat->MG}{o:OA}(h:Mw bs w o gs ms){i:Int}(h0:0<=i)(h1:i<(gs.length:Int)):Q2 bs w o (Int.toNat i*14+8+3) [.slice (ms i.toNat).lO (gi gs i).band.locals.length (ms i.toNat).lC]:=(h.cells i h0 h1).get 11 _ rfl
theorem Mw.quo{bs:List Nat}{w:Wo}{gs:List ZA}{ms:Nat->MG}{o:OA}(h:Mw bs w o gs ms){i:Int}(h0:0<=i)(h1:i<(gs.length:Int)):Q2 bs w o (Int.toNat i*14+8+0) [.int .i64 (gi gs i).band.quota]:=(h.cells i h0 h1).get 8 _ rfl
def VH(m:MG)(p:MG):MG:=⟨p.lO,p.lC,p.dO,p.dC,m.sO,m.sC⟩
theorem T9{m p:MG}:∀x∈Ql (VH m p),x∈Zt p\/x∈Ql m:=fun x hx=>by
 simp only[Ql,VH,Zt,List.mem_append] at hx ⊢;rcases hx with (h | h) | h
 ·exact .inl (.inl h)
 ·exact .inl (.inr h)
 ·exact .inr (.inr h)
theorem Y1.putB{n:Nat}(h:Y1 n base w W m){i:Int}(h0:0<=i)(hi:i<(n:Int)){b:Jb}{p:MG}(hb:QR base w b p)(hn:∀x∈Zt p,x∉QB n m) :
  Y1 n base (sto w m.gO (Int.toNat i*14+8) (QT b p)) (setBd W i b) (Oc m i.toNat (VH (m.ms i.toNat) p)):=by
 have hm:=h.each h0 hi;refine h.stoG h0 hi (g:={ gi W.groups i with band:=b }) (p:=VH (m.ms i.toNat) p) ⟨hb.loc,hb.dry,hm.shl⟩ (fun x hx=>?_) rfl (by simp[QT]);rcases T9 x hx with h1 | h1
 ·exact .inl (hn x h1)
 ·exact .inr h1
theorem zad{F K:Int}(h:Y1 8 base w W m)(hsw:SF F K W)(hbase:base<=w.heap.size) :
  Cz Oy #[.agg (Qa W m).toArray] w fun e w'=>∃m',e=.returned (.agg (Qa W m).toArray)/\Mv 8 base [] w m w' (LE W) m':=by
 refine(q8 W.now m.cO W.cpus.length m.cC m.tO W.tasks.length m.tC m.gO W.groups.length m.gC (R:=fun v w'=>∃m',v=.agg (Qa W m).toArray/\Mv 8 base [] w m w' (LE W) m') ?_).mono fun e w' ⟨v,he,m',hv,h3⟩=>⟨m',by rw[he,hv],h3⟩
 intro x hx x1 hx1;have hgl:=hsw.w.a.gl;have hcl4:=hsw.w.a.c2;have hnew:=Yr hx hx1;refine OM W.groups.length 0 rfl (fun k w2=>k<=8/\∃m2,Mv 8 base [x,x1] w m w2 (YP W k) m2) (fun w2 hx2 _=>⟨by decide,m,(Mv.two h hx hx1).call0 hx2⟩) fun k w2 hs2 ⟨hk8,m2,hM2⟩=>?_
 obtain⟨hS2,hO2⟩:=Tu hsw k hk8;have hgl2:(YP W k).groups.length=W.groups.length:=hO2.g.len;have hcl2:(YP W k).cpus.length=W.cpus.length:=by rw[hO2.c]
 have hdef:YP W (k+1)=if (gi (YP W k).groups (k:Int)).used=true/\(gi (YP W k).groups (k:Int)).band.quota≠0 then Yx (YP W k) (k:Int) (YP W k).cpus.length else YP W k:=rfl;have hN8:k=8->LE W=YP W k:=fun e=>by rw[e]; rfl
 generalize YP W k=W2 at hM2 hS2 hO2 hgl2 hcl2 hdef hN8;have hmg:m2.gO=m.gO:=by rw[hM2.hd]
 have hr:=hM2.rd;refine⟨fun hlt=>?_,fun hge=>?_⟩
 ·have hlt:=Ot hlt;have hlt2:(k:Int)<(W2.groups.length:Int):=by omega
  have hix:Ix m.gO W.groups.length (k:Int):=by have:=hr.g.ix (i:=(k:Int)) (by omega) hlt2; rwa[hgl2,hmg] at this
  have hru:=hr.g.used (i:=(k:Int)) (by omega) hlt2;have hrq:=hr.g.quo (i:=(k:Int)) (by omega) hlt2;rw[hmg] at hru hrq;refine⟨hix,(gi W2.groups (k:Int)).used,hru,fun _=>hix,_,fun _=>hrq,fun g=>?_,fun g=>?_⟩
  ·refine⟨⟨by omega,by omega⟩,fun w3 hx3 _=>Z0 (by omega) ⟨by omega,m2,?_⟩⟩;rw[hdef,if_neg]
   ·exact hM2.step hx3
   ·rintro⟨h1,h2⟩;rw[h1] at g;simp[h2] at g
  ·simp only[Bool.or_eq_false_iff,Bool.not_eq_false',beq_eq_false_iff_ne] at g;have hu:Q6 W2.groups (k:Int)=true:=Q5.2 ⟨by omega,hlt2,g.1⟩;rw[if_pos ⟨g.1,g.2⟩] at hdef;refine OM W.cpus.length 0 rfl (fun c w3=>c<=W.cpus.length/\∃m3,Mv 8 base [x,x1] w m w3 (Yx W2 (k:Int) c) m3) (fun w3 hx3 _=>⟨Nat.zero_le _,m2,hM2.step hx3⟩) fun c w3 hs3 ⟨hc,m3,hM3⟩=>?_
   obtain⟨hS3,hO3,hq3⟩:=Ht hS2 hu g.2 c (by omega);have hgl3:(Yx W2 (k:Int) c).groups.length=W.groups.length:=by rw[hO3.g.len,hgl2]
   have hcl3:(Yx W2 (k:Int) c).cpus.length=W.cpus.length:=by rw[hO3.c,hcl2]
   have hdef3:Yx W2 (k:Int) (c+1)=if gi (gi (Yx W2 (k:Int) c).groups (k:Int)).band.locals (c:Int)>0/\QP (Yx W2 (k:Int) c) (k:Int) (c:Int)=false then setBd (Yx W2 (k:Int) c) (k:Int) (Yk (gi (Yx W2 (k:Int) c).groups (k:Int)).band (c:Int)) else Yx W2 (k:Int) c:=rfl;have hN3:c=W.cpus.length->YP W (k+1)=Yx W2 (k:Int) c:=fun e=>by rw[hdef,hcl2,e]
   have e3:Qa (Yx W2 (k:Int) c) m3=Qa W m:=hM3.encW_eq (by rw[hO3.n,hO2.n]) hcl3 (by rw[hO3.t,hO2.t]) hgl3;have hu3:Q6 (Yx W2 (k:Int) c).groups (k:Int)=true:=by rw[hO3.g.usd]; exact hu
   generalize Yx W2 (k:Int) c=W3 at hM3 hS3 hO3 hq3 hgl3 hcl3 hdef3 hN3 e3 hu3;have hmg3:m3.gO=m.gO:=by rw[hM3.hd]
   have hr3:=hM3.rd;refine⟨fun hlt3=>?_,fun hge3=>?_⟩
   ·have hlt3:=Ot hlt3;obtain⟨u0,u1,hgu⟩:=hS3.w.a.u hu3;obtain⟨hb,hbl,_⟩:=hgu.band hq3;have hklt:(k:Int)<(W3.groups.length:Int):=by omega
    have hrl:=hr3.g.locs (i:=(k:Int)) (by omega) hklt;have hrb:=hr3.g.band (i:=(k:Int)) (by omega) hklt;rw[hmg3] at hrl hrb;have hLo:=hr3.g.locals (k:Int) (by omega) hklt;have hDo:=hr3.g.dry (k:Int) (by omega) hklt;have hact:=TW (g:=(k:Int)) (c:=(c:Int)) hr3 hS3.w.a (by omega) (by omega);rw[e3] at hact;refine⟨hix,_,_,_,hrl,hLo.ix Uv (by omega) (by omega),_,hLo (c:Int) (by omega) (by omega),_,fun _=>hact,fun g3=>?_,fun g3=>?_⟩
    ·simp only[Bool.and_eq_true,decide_eq_true_eq,Bool.not_eq_true'] at g3;rw[if_pos g3] at hdef3;refine⟨hix,_,_,_,_,_,_,_,_,_,hrb,fun wr3 hx3 hs4=>?_⟩;have hM4:=hM3.step hx3;have hr4:=hM4.rd0;refine Calls.mono (J4 (op:=⟨3,(c:Int),0⟩) hb (hr4.g.locals (k:Int) (by omega) hklt) (hr4.g.dry (k:Int) (by omega) hklt)) ?_;rintro e wv2 ⟨p,he,hO,hy⟩
     have hbd:YC (gi W3.groups (k:Int)).band ⟨3,(c:Int),0⟩=(Yk (gi W3.groups (k:Int)).band (c:Int),0):=by
      unfold YC;rw[if_neg (show ¬(3:Int)=4 by decide),if_neg (by rw[Qo.2 (by show 0<=(c:Int)/\(c:Int)<=_; omega)]; decide),if_neg (show ¬(3:Int)=1 by decide),if_neg (show ¬(3:Int)=2 by decide),if_pos rfl]
     rw[hbd] at he hO
     dsimp only at he hO
     have hM5:=hM4.call0 hy;have hbs:base<=wr3.heap.size:=by have:=hM4.ext.size; omega
     have hOb:∀y∈Zt p,wr3.heap.size<=y:=fun y hy=>(hO.lt y hy).1
     have hput:=hM5.own.putB (i:=(k:Int)) (by omega) (by omega) (hO.mono hbs) (fun y hy hm=>by have:=hOb y hy; have:=(hM4.own.lt y hm).2; omega);have hwr:=zbc hM5.own hM5.nb (i:=(k:Int)) (by omega) (by omega) (j:=8) (k:=5) (by decide);have hsz:=hM4.ext.size
     have hM6:=hM5.swap hput EE rfl fun y hy=>by
      rcases Ta y hy with h1 | h1
      ·exact .inl h1
      ·rcases T9 y h1 with h2 | h2
       ·have:=hOb y h2;exact .inr ⟨by omega,fun hm=>by have:=hs4 y hm; omega⟩
       ·exact .inl (JB (by omega) h2)
     rw[hmg3] at hwr hM6;refine⟨_,_,_,_,_,_,_,_,_,_,he,Qd hy hs4,fun b2 hb2=>⟨hix,hwr,⟨by omega,by omega⟩,fun w5 hx5 _=>Z0 (w1:=w3) (by omega) ⟨by omega,Oc m3 (Int.toNat (k:Int)) (VH (m3.ms (Int.toNat (k:Int))) p),?_⟩⟩⟩;rw[hdef3];exact hM6.step hx5
    ·refine⟨⟨by omega,by omega⟩,fun w5 hx5 _=>Z0 (by omega) ⟨by omega,m3,?_⟩⟩;rw[hdef3,if_neg]
     ·exact hM3.step hx5
     ·rintro⟨h1,h2⟩;rw[h2,decide_eq_true h1] at g3;cases g3
   ·have hge3:=Ou hge3;refine⟨⟨by omega,by omega⟩,fun w5 hx5 _=>Z0 (by omega) ⟨by omega,m3,?_⟩⟩;rw[hN3 (by omega)];exact hM3.step hx5
 ·have hge:=Ou hge;rw[hN8 (by omega)];exact fun w3 hx3=>⟨m2,rfl,(hM2.step hx3).close⟩
end
section
variable {base:Nat}{W:Q7}{m:MW}{w:Wo}
theorem zdx{W W':Q7}(h:Fr W W'):W'.cpus.length=W.cpus.length/\W'.tasks.length=W.tasks.length/\W'.groups.length=W.groups.length:=⟨h.c,by rw[h.t],h.g.len⟩
theorem zic{n:Nat}{bs:List Nat}{w0 w:Wo}{W0 W:Q7}{m0 m:MW}(h:Mv n base bs w0 m0 w W m)(hf:Fr W0 W):Qa W m=Qa W0 m0:=h.encW_eq hf.n hf.c (by rw[hf.t]) hf.g.len
theorem Qq{K:Int}(h:Y1 8 base w W m)(hsw:SW K W)(hK0:0<=K)(hK:K<=100000000000000000)(hbase:base<=w.heap.size) :
  Cz Qi #[.agg (Qa W m).toArray] w fun e w'=>∃m',e=.returned (.agg (Qa (Qg W) m').toArray)/\Mv 8 base [] w m w' (Qg W) m':=by
 refine(FX W.now m.cO W.cpus.length m.cC m.tO W.tasks.length m.tC m.gO W.groups.length m.gC (R:=fun v w'=>∃m',v=.agg (Qa (Qg W) m').toArray/\Mv 8 base [] w m w' (Qg W) m') ?_).mono fun e w' ⟨v,he,m',hv,h3⟩=>⟨m',by rw[he,hv],h3⟩
 intro x hx x1 hx1;have hgl:=hsw.a.gl;have hcl4:=hsw.a.c2;have hm9:=Zb;refine⟨fun vs w1=>∃(k:Nat),vs=.int .i64 (k:Int)::Qa W m/\k<=W.cpus.length/\Mv 8 base [x,x1] w m w1 (YH W k) m,Zu W.cpus.length 0,fun w1 hx0 _=>⟨0,rfl,Nat.zero_le _,(Mv.two h hx hx1).call0 hx0⟩,?_⟩;rintro c1 l l1O l1L l1C l2O l2L l2C l3O l3L l3C wv2 hs2 ⟨k,he,hk,hM⟩;obtain⟨hS,hO⟩:=Od (F:=K) (K:=K+Qk) (hsw.sf.mono (Int.le_refl _) (by simp only[Qk]; omega)) (Int.le_refl _) k hk;have hdef:YH W (k+1)=QN (YH W k) (k:Int):=rfl;have hend:k=W.cpus.length->YH W W.cpus.length=YH W k:=fun e=>by rw[e]
 have e0:=zic hM hO.fr;obtain⟨n1,n2,n3⟩:=zdx hO.fr;simp only[Qa,List.cons.injEq,Value.int.injEq,Value.slice.injEq,true_and,and_true] at he;obtain⟨rfl,rfl,⟨rfl,rfl,rfl⟩,⟨rfl,rfl,rfl⟩,rfl,rfl,rfl⟩:=he;generalize YH W k=W1 at hM hS hO hdef hend e0 n1 n2 n3;refine⟨fun hlt wr3 hx3 hs3=>?_,fun hge wr5 hx5 hs5=>?_⟩
 ·have hlt:=Ot hlt;have hM3:=hM.step hx3;have hcall:=Ko hM3.own hS (by omega) (by simp only[Qk]; omega) (c:=(k:Int)) (by omega) (by omega);rw[e0] at hcall;refine Calls.mono hcall ?_;rintro e wv3 ⟨he,hy⟩;refine⟨_,_,_,_,_,_,_,_,_,_,he,hM3.kept hy hs3,⟨by omega,by omega⟩,fun wr4 hx4 _=>⟨⟨k+1,rfl,by omega,?_⟩,?_⟩⟩
  ·rw[hdef];exact(hM3.call hy hs3).step hx4
  ·simp only[Zu,XK,Y5,List.getElem?_cons_zero]; omega
 ·have hge:=Ou hge;have hkk:k=W.cpus.length:=by omega
  have hend:=hend hkk;have hM5:=hM.step hx5;have hb5:base<=wr5.heap.size:=by have:=hM5.ext.size; omega
  have hcall:=zad hM5.own hS hb5;rw[e0] at hcall;refine Calls.mono hcall ?_;rintro e2 wv4 ⟨m4,he2,hy2⟩;obtain⟨hS4,hO4⟩:=Tu hS 8 (by decide);have hM6:=hM5.call hy2 hs5;have hset:Qg W=JE (LE W1) W.cpus.length:=by unfold Qg; rw[hend]
  have hf4:Fr W (LE W1):=hO.fr.trans hO4.fr;have hS4':SW (K+Qk) (LE W1):=hS4.w;have hlen4:=zdx hf4;generalize LE W1=W4 at hM6 hset hf4 hS4' hlen4;refine⟨_,_,_,_,_,_,_,_,_,_,he2,hM5.kept hy2 hs5,fun vs w1=>∃(k:Nat) (m1:MW),vs=.int .i64 (k:Int)::Qa W m/\k<=W.cpus.length/\Mv 8 base [x,x1] w m w1 (JE W4 k) m1,Zu W.cpus.length 0,fun w1 hx0 _=>⟨0,m4,rfl,Nat.zero_le _,hM6.step hx0⟩,?_⟩;rintro c3 l l1O l1L l1C l2O l2L l2C l3O l3L l3C wv7 hs7 ⟨k,m7,he,hk,hM7⟩;obtain⟨hS7,hf7⟩:=KE hS4' (by simp only[Qk]; omega) k (by omega);have hdef7:JE W4 (k+1)=Vu (JE W4 k) (k:Int):=rfl;have hend7:k=W.cpus.length->Qg W=JE W4 k:=fun e=>by rw[hset,e]
  have hfW:=hf4.trans hf7;have e7:=zic hM7 hfW;obtain⟨q1,q2,q3⟩:=zdx hfW;simp only[Qa,List.cons.injEq,Value.int.injEq,Value.slice.injEq,true_and,and_true] at he;obtain⟨rfl,rfl,⟨rfl,rfl,rfl⟩,⟨rfl,rfl,rfl⟩,rfl,rfl,rfl⟩:=he;generalize JE W4 k=W7 at hM7 hS7 hf7 hdef7 hend7 hfW e7 q1 q2 q3;refine⟨fun hlt wr9 hx9 hs9=>?_,fun hge=>?_⟩
  ·have hlt:=Ot hlt;have hM9:=hM7.step hx9;have hk4:(k:Int)<=4:=by omega
   have hKb:K+Qk+(k:Int)*Qk+Qk<=1000000000000000000:=by simp only[Qk]; omega
   have c1':(k:Int)<(W7.cpus.length:Int):=by omega
   have hSF:=hS7.sf.mono (F':=K+Qk+(k:Int)*Qk) (K':=K+Qk+(k:Int)*Qk+Qk) (Int.le_refl _) (by simp only[Qk]; omega);have hcall:=Ko hM9.own hSF (Int.le_refl _) hKb (c:=(k:Int)) (by omega) c1';rw[e7] at hcall;refine Calls.mono hcall ?_;rintro e4 wv8 ⟨he4,hy4⟩;obtain⟨hS8,hO8⟩:=E8 hSF (Int.le_refl _) (c:=(k:Int)) (by omega) c1';have hM8:=hM9.call hy4 hs9;refine⟨_,_,_,_,_,_,_,_,_,_,he4,hM9.kept hy4 hs9,fun wr10 hx10 hs10=>?_⟩;have hM10:=hM8.step hx10;have hstep:Vu W7 (k:Int)=if MB (Zo (QN W7 (k:Int)) (k:Int)) (k:Int)=true then endW (Zo (QN W7 (k:Int)) (k:Int)) (k:Int) else Zo (QN W7 (k:Int)) (k:Int):=rfl;have c2':(k:Int)<((QN W7 (k:Int)).cpus.length:Int):=by rw[hO8.c]; exact c1'
   have hcall5:=Be hM10.own hS8.w (by simp only[Qk]; omega) (c:=(k:Int)) (by omega) c2';rw[O4 hO8.fr,e7] at hcall5;obtain⟨hS11,hO11⟩:=KT hS8.w (by simp only[Qk]; omega) (c:=(k:Int)) (by omega) c2' 8 (by decide);refine Calls.mono hcall5 ?_;rintro e5 wv9 ⟨he5,hy5⟩;have hM11:=hM10.call hy5 hs10;have hK11:=hM10.kept hy5 hs10;have hf11:Fr W (Zo (QN W7 (k:Int)) (k:Int)):=(hfW.trans hO8.fr).trans hO11.fr;have hS11':SW (K+Qk+(k:Int)*Qk+Qk) (Zo (QN W7 (k:Int)) (k:Int)):=hS11;generalize Zo (QN W7 (k:Int)) (k:Int)=W11 at hM11 hf11 hS11' hstep;have e11:=zic hM11 hf11;have hm11:m7.cO=m.cO/\m7.tO=m.tO:=by rw[hM7.hd]; exact⟨rfl,rfl⟩
   obtain⟨r1,r2,r3⟩:=zdx hf11;have hr:=hM11.rd;have c3':(k:Int)<(W11.cpus.length:Int):=by omega
   have hcur:=hS11'.cu (k:Int) (by omega) c3';have htl:=hS11'.a.t;have hixC:=hr.c.ix Zh (i:=(k:Int)) (by omega) c3';have hrC:=hr.c.f (i:=(k:Int)) (by omega) c3' (j:=1) rfl
   have hT:(decide ((gi W11.cpus (k:Int)).cur>=0))=true->0<=(gi W11.cpus (k:Int)).cur/\(gi W11.cpus (k:Int)).cur<(W11.tasks.length:Int):=fun g=>by
    have:=Ot g;exact⟨this,by omega⟩
   have hline:∀g:(decide ((gi W11.cpus (k:Int)).cur>=0))=true,PX [x,x1] Yh #[.agg (Qa W m).toArray,.int .i64 (gi W11.cpus (k:Int)).cur] wv9 (.bool (Zy W11 (gi W11.cpus (k:Int)).cur)):=fun g=>by
    have:=Uo hr hS11'.a (hT g).1 (hT g).2 (fun hs=>hS11'.li (hT g).1 (hT g).2 hs)
    rwa[e11] at this
   rw[r1,hm11.1] at hixC;rw[hm11.1] at hrC;refine⟨_,_,_,_,_,_,_,_,_,_,he5,hK11,hixC,_,hrC,fun g=>?_,(Q8 W11 (gi W11.cpus (k:Int)).cur).cpu,fun g=>?_,Zy W11 (gi W11.cpus (k:Int)).cur,fun _ g=>hline g,fun g wr11 hx11 hs11=>?_,fun g=>?_⟩
   ·have:=hr.t.ix QI (hT g).1 (hT g).2
    rwa[r2,hm11.2] at this
   ·have:=hr.t.f (hT g).1 (hT g).2 (j:=2) rfl
    rwa[hm11.2] at this
   ·have hM12:=hM11.step hx11;have hcall6:=Zp hM12.own (c:=(k:Int)) (by omega) c3';rw[e11] at hcall6;refine Calls.mono hcall6 ?_;rintro e6 wv10 ⟨he6,hy6⟩;have e12:=O4 (m:=m7) (NU W11 (k:Int));rw[e11] at e12;rw[e12] at he6;refine⟨_,_,_,_,_,_,_,_,_,_,he6,hM12.kept hy6 hs11,⟨by omega,by omega⟩,fun wr12 hx12 _=>⟨⟨k+1,m7,rfl,by omega,?_⟩,?_⟩⟩
    ·rw[hdef7,hstep,if_pos (by unfold MB; exact g)];exact(hM12.call hy6 hs11).step hx12
    ·simp only[Zu,XK,Y5,List.getElem?_cons_zero]; omega
   ·refine⟨⟨by omega,by omega⟩,fun wr12 hx12 _=>⟨⟨k+1,m7,rfl,by omega,?_⟩,?_⟩⟩
    ·rw[hdef7,hstep,if_neg (by unfold MB; rw[g]; decide)];exact hM11.step hx12
    ·simp only[Zu,XK,Y5,List.getElem?_cons_zero]; omega
  ·have hge:=Ou hge;have hend7:=hend7 (by omega);rw[hend7];refine fun w9 hx9=>⟨m7,?_,(hM7.step hx9).close⟩
   rw[e7]; rfl
end
theorem Y0{n:Int}{w:Wo}{bs:List Nat}:PX bs Zk #[.int .i64 n] w (.bool (decide (n<=Qp))):=za2 n fun wr hx=>rfl
section
variable {W:Q7}{m:MW}{w:Wo}{bs:List Nat}
theorem PO(h:YZ bs w W m)(hl:Xc W):PX bs Jj #[.agg (Qa W m).toArray] w (.bool (Jr (Xs W/\Lx W))):=
 Et W.now m.cO W.cpus.length m.cC m.tO W.tasks.length m.tC m.gO W.groups.length m.gC fun wr hx=>by
  have h:=(h.ext hx).less (cs:=[]) (by simp);intro x hx;refine⟨_,X2 h hl.c hl.t hl.g hl.f,_,fun _=>Y0,fun g=>MU ?_,fun g=>?_⟩
  ·rintro⟨wp,r⟩;rw[show Qv W=true from Qh.2 wp,show decide (W.now<=Qp)=true from decide_eq_true r.n] at g;cases g
  ·simp only[Bool.or_eq_false_iff,Bool.not_eq_false'] at g;have wp:Xs W:=Qh.1 g.1;have hnow:=Ot g.2;have hgl:=wp.a.gl;have htl:=wp.a.t;have hcl:=wp.a.c2;refine YE W.cpus.length 0 rfl (fun k=>k<=W.cpus.length/\∀c:Int,0<=c->c<(k:Int)->(gi W.cpus c).busy<=Qp/\(gi W.cpus c).idle<=Qp) ⟨Nat.zero_le _,fun c a b=>by omega⟩ fun k ⟨hk,hI⟩=>⟨fun hlt=>?_,fun hge=>?_⟩
   ·have hlt:=Ot hlt;refine⟨h.c.ix Zh (by omega) hlt,_,h.c.f (by omega) hlt (j:=3) rfl,_,Y0,fun _=>h.c.ix Zh (by omega) hlt,_,fun _=>h.c.f (by omega) hlt (j:=4) rfl,_,fun _=>Y0,fun g2=>MU ?_,fun g2=>⟨⟨by omega,by omega⟩,Qr (by omega) ⟨by omega,fun c a b=>?_⟩⟩⟩
    ·rintro⟨_,r⟩;have:=r.c (k:Int) (by omega) hlt;rw[decide_eq_true this.1,decide_eq_true this.2] at g2;cases g2
    ·by_cases e:c=(k:Int)
     ·subst e;simp only[Bool.or_eq_false_iff,Bool.not_eq_false'] at g2;exact⟨Ot g2.1,Ot g2.2⟩
     ·exact hI c a (by omega)
   have hge:=Ou hge;have hC:∀c:Int,0<=c->c<(W.cpus.length:Int)->(gi W.cpus c).busy<=Qp/\(gi W.cpus c).idle<=Qp:=fun c a b=>hI c a (by omega)
   clear hI;refine YE W.tasks.length 0 rfl (fun k=>k<=W.tasks.length/\∀t:Int,0<=t->t<(k:Int)->(gi W.tasks t).v<=Qp/\(gi W.tasks t).sum<=Qp/\(gi W.tasks t).used<=Qp) ⟨Nat.zero_le _,fun c a b=>by omega⟩ fun k ⟨hk,hI⟩=>⟨fun hlt=>?_,fun hge=>?_⟩
   ·have hlt:=Ot hlt;have hix:=h.t.ix QI (i:=(k:Int)) (by omega) hlt;refine⟨hix,_,h.t.f (by omega) hlt (j:=5) rfl,_,Y0,fun _=>hix,_,fun _=>h.t.f (by omega) hlt (j:=6) rfl,_,fun _=>Y0,fun _=>hix,_,fun _=>h.t.f (by omega) hlt (j:=7) rfl,_,fun _=>Y0,fun g2=>MU ?_,fun g2=>⟨⟨by omega,by omega⟩,Qr (by omega) ⟨by omega,fun c a b=>?_⟩⟩⟩
    ·rintro⟨_,r⟩;have:=r.t (k:Int) (by omega) hlt;rw[decide_eq_true this.1,decide_eq_true this.2.1,decide_eq_true this.2.2] at g2;cases g2
    ·by_cases e:c=(k:Int)
     ·subst e;simp only[Bool.or_eq_false_iff,Bool.not_eq_false'] at g2;exact⟨Ot g2.1.1,Ot g2.1.2,Ot g2.2⟩
     ·exact hI c a (by omega)
   have hge:=Ou hge;have hT:∀t:Int,0<=t->t<(W.tasks.length:Int)->(gi W.tasks t).v<=Qp/\(gi W.tasks t).sum<=Qp/\(gi W.tasks t).used<=Qp:=fun c a b=>hI c a (by omega)
   clear hI;refine YE W.groups.length 0 rfl (fun k=>k<=W.groups.length/\∀j:Int,0<=j->j<(k:Int)->(gi W.groups j).sum<=Qp/\∀c:Int,0<=c->c<((gi W.groups j).shelves.length:Int)->(Qc W j c).floor<=Qp/\(Qc W j c).v<=Qp/\(Qc W j c).sum<=Qp) ⟨Nat.zero_le _,fun c a b=>by omega⟩ fun k ⟨hk,hI⟩=>⟨fun hlt=>?_,fun hge=>?_⟩
   ·have hlt:=Ot hlt;have hix:=h.g.ix (i:=(k:Int)) (by omega) hlt
    have hsl:(gi W.groups (k:Int)).shelves.length<=4:=by
     have:=wp.a.grp (k:Int) (by omega) (by omega)
     cases hu:(gi W.groups (k:Int)).used with
     | true=>have:=(this.2 hu).len; omega
     | false=>have:=(this.1 hu).l; omega
    refine⟨hix,_,(h.g.cells (k:Int) (by omega) hlt).get 7 _ rfl,_,Y0,fun g2=>MU ?_,fun g2=>?_⟩
    ·rintro⟨_,r⟩;have:=r.g (k:Int) (by omega) hlt;rw[decide_eq_true this] at g2;cases g2
    have g2:(gi W.groups (k:Int)).sum<=Qp:=by simpa using g2
    have hrs:=h.g.shelves (k:Int) (by omega) hlt;refine YE (gi W.groups (k:Int)).shelves.length 0 rfl (fun q=>q<=(gi W.groups (k:Int)).shelves.length/\∀c:Int,0<=c->c<(q:Int)->(Qc W (k:Int) c).floor<=Qp/\(Qc W (k:Int) c).v<=Qp/\(Qc W (k:Int) c).sum<=Qp) ⟨Nat.zero_le _,fun c a b=>by omega⟩ fun q ⟨hq,hJ⟩=>⟨hix,_,_,_,h.g.shelf (by omega) hlt,fun hlt2=>?_,fun hge2=>?_⟩
    ·have hlt2:=Ot hlt2;refine⟨hix,_,_,_,h.g.shelf (by omega) hlt,hrs.ix ZD (by omega) hlt2,_,_,_,_,_,hrs (q:Int) (by omega) hlt2,fun b1 hb1=>⟨_,Y0,_,fun _=>Y0,_,fun _=>Y0,fun g3=>MU ?_,fun g3=>⟨⟨by omega,by omega⟩,Qr (by omega) ⟨by omega,fun c a b=>?_⟩⟩⟩⟩
     ·rintro⟨_,r⟩;have:=r.s (k:Int) (q:Int) (by omega) hlt (by omega) hlt2;unfold Qc at this;rw[decide_eq_true this.1,decide_eq_true this.2.1,decide_eq_true this.2.2] at g3;cases g3
     ·by_cases e:c=(q:Int)
      ·subst e;simp only[Bool.or_eq_false_iff,Bool.not_eq_false'] at g3;exact⟨Ot g3.1.1,Ot g3.1.2,Ot g3.2⟩
      ·exact hJ c a (by omega)
    ·have hge2:=Ou hge2;refine⟨⟨by omega,by omega⟩,Qr (by omega) ⟨by omega,fun j a b=>?_⟩⟩
     by_cases e:j=(k:Int)
     ·subst e;exact⟨g2,fun c a b=>hJ c a (by omega)⟩
     ·exact hI j a (by omega)
   ·have hge:=Ou hge;exact zhj ⟨wp,⟨hnow,hC,hT,fun j a b=>(hI j a (by omega)).1,fun j c a b c0 c1=>(hI j a (by omega)).2 c c0 c1⟩⟩
theorem J5{t:Int}(h:YZ bs w W m)(hl:W.tasks.length<=maxLen):PX bs Yv #[.agg (Qa W m).toArray,.int .i64 t] w (.bool (ZT W t)):=
 za4 W.now m.cO W.cpus.length m.cC m.tO W.tasks.length m.tC m.gO W.groups.length m.gC t fun wr hx=>by
  have h:=(h.ext hx).less (cs:=[]) (by simp);intro x hx;have:=Xa;refine⟨⟨by omega,by omega⟩,_,Qj,fun g=>?_,_,fun g=>?_,rfl⟩
  ·have:=Qo.1 g;exact h.t.ix QI (by omega) (by omega)
  ·have:=Qo.1 g;exact h.t.f (by omega) (by omega) (j:=0) rfl
end
structure Dc (base:Nat) (bs:List Nat) (w:Wo) (o:OA) (cap:Nat) (ps:List (ZA×MG)):Prop where
 own:M9 base w o cap ps
 nb:∀x∈Qy o,x∉bs
 nm:∀i:Int,0<=i->i<(ps.length:Int)->∀x∈Ql (gi ps i).2,x∉bs
section
variable {base:Nat}{bs cs:List Nat}{w w':Wo}{o:OA}{cap:Nat}{ps:List (ZA×MG)}{b:Nat}
theorem Dc.lt(h:Dc base bs w o cap ps):(∀x∈Qy o,base<=x/\x<w.heap.size)/\∀i:Int,0<=i->i<(ps.length:Int)->∀x∈Ql (gi ps i).2,base<=x/\x<w.heap.size:=⟨h.own.row.lt,fun i a b=>(h.own.each i a b).lt⟩
theorem Dc.ext(h:Dc base bs w o cap ps)(hx:Q0 cs w w')(h1:∀x∈Qy o,x∉cs)(h2:∀i:Int,0<=i->i<(ps.length:Int)->∀x∈Ql (gi ps i).2,x∉cs):Dc base bs w' o cap ps:=
 ⟨⟨h.own.row.ext hx h1,fun i a b=>(h.own.each i a b).ext hx (h2 i a b),h.own.dj⟩,h.nb,h.nm⟩
theorem Dc.step(h:Dc base bs w o cap ps)(hx:Q0 bs w w'):Dc base bs w' o cap ps:=h.ext hx h.nb h.nm
theorem Dc.call0(h:Dc base bs w o cap ps)(hx:Q0 [] w w'):Dc base bs w' o cap ps:=h.ext hx (by simp) (by simp)
theorem Dc.add(h:Dc base bs w o cap ps)(hb:w.heap.size<=b):Dc base (bs++[b]) w o cap ps:=
 have key:∀x,x<w.heap.size->x∉bs->x∉bs++[b]:=fun x hl hx hm=>by
  rcases List.mem_append.1 hm with hm | hm
  ·exact hx hm
  ·have:x=b:=by simpa using hm
   omega
 ⟨h.own,fun x hx=>key x (h.lt.1 x hx).2 (h.nb x hx),fun i a c x hx=>key x (h.lt.2 i a c x hx).2 (h.nm i a c x hx)⟩
theorem Dc.put(h:Dc base bs w o cap ps)(hx:Q0 bs w w')(hb:w.heap.size<=b):Dc base (bs++[b]) w' o cap ps:=⟨(h.step hx).own,(h.add hb).nb,(h.add hb).nm⟩
theorem Dc.sub(h:Dc base bs w o cap ps)(hs:∀x∈cs,x∈bs):Dc base cs w o cap ps:=⟨h.own,fun x hx hm=>h.nb x hx (hs x hm),fun i a c x hx hm=>h.nm i a c x hx (hs x hm)⟩
theorem Dc.nil(base:Nat)(bs:List Nat)(w:Wo):Dc base bs w none 0 []:=⟨⟨.inl ⟨rfl,rfl,rfl⟩,fun i a b=>by simp at b; omega,fun i j a b=>by simp at b; omega⟩,by simp[Qy],fun i a b=>by simp at b; omega⟩
theorem zty{α:Type}[Inhabited α]{l:List α}{x:α}{i:Int}(h0:0<=i)(h1:i<(l.length:Int)):gi (l++[x]) i=gi l i:=by
 obtain⟨k,rfl⟩:=Int.eq_ofNat_of_zero_le h0;rw[J0 (by simp; omega),J0 (by omega),List.getElem_append_left]
theorem zre{α:Type}[Inhabited α]{l:List α}{x:α}:gi (l++[x]) (l.length:Int)=x:=by
 rw[J0 (by simp)]; simp
theorem Dc.app1{p:ZA×MG}{t':TypeId}{fz:Nat×Nat}(h:Dc base bs w o cap ps)(hs:∀x∈bs,x<w.heap.size)(hbase:base<=w.heap.size)(hp:O3 base w p)(hpb:∀x∈Ql p.2,x∉bs)(hd:∀i:Int,0<=i->i<(ps.length:Int)->∀x∈Ql (gi ps i).2,x∉Ql p.2)(hb:w.heap[b]? = some (.cells (VE p).toArray t' fz))(h1:Z7 (VE p)=true)(hl:ps.length<=1048576)(tr:TypeId)(cs:Array Bool) :
  ∃o' cap' w',(builtin .append #[Qt,Qt] tr cs #[.slice o ps.length cap,.slice (some ⟨b,0,none⟩) 1 1]).run Tryz.prog w=.ok (.value (.slice o' (ps++[p]).length cap')) w'/\Q9 bs w w'/\Dc base bs w' o' cap' (ps++[p])/\Q0 (Qy o) w w':=by
 obtain⟨o2,c2,w2,hrun,hk,hO,hx⟩:=Ob.app1 ZJ TX (⟨h.own.row,h.nb⟩:Ob VE 14 QC base bs w o cap ps) hs hbase hb h1 hl (by decide) tr cs;have hlen:(ps++[p]).length=ps.length+1:=by simp
 have hcase:∀i:Int,0<=i->i<((ps++[p]).length:Int)->(i<(ps.length:Int)/\gi (ps++[p]) i=gi ps i)\/(i=(ps.length:Int)/\gi (ps++[p]) i=p):=fun i a b=>by
  by_cases e:i<(ps.length:Int)
  ·exact .inl ⟨e,zty a e⟩
  ·have:i=(ps.length:Int):=by omega
   subst this;exact .inr ⟨rfl,zre⟩
 refine⟨o2,c2,w2,hrun,hk,⟨⟨hO.own,fun i a b=>?_,fun i j a b c d e=>?_⟩,hO.nb,fun i a b=>?_⟩,hx⟩
 ·rcases hcase i a b with ⟨hi,hg⟩ | ⟨hi,hg⟩
  ·rw[hg]; exact(h.own.each i a hi).ext hx (Xj h.own.row (h.own.each i a hi))
  ·rw[hg]; exact hp.ext hx (Xj h.own.row hp)
 ·rcases hcase i a b with ⟨hi,hg⟩ | ⟨hi,hg⟩ <;> rcases hcase j c d with ⟨hj,hg'⟩ | ⟨hj,hg'⟩
  ·rw[hg,hg']; exact h.own.dj i j a hi c hj e
  ·rw[hg,hg']; exact hd i a hi
  ·rw[hg,hg']; exact fun x hx hm=>hd j c hj x hm hx
  ·omega
 ·rcases hcase i a b with ⟨hi,hg⟩ | ⟨hi,hg⟩
  ·rw[hg]; exact h.nm i a hi
  ·rw[hg]; exact hpb
end
theorem zvp(g:ZA)(m:MG):Z7 (Yc g m)=true:=rfl
theorem PG{W:Q7}(ha:WA W){k:Int}(k0:0<=k)(k1:k<8):(gi W.groups k).band.dry.length=(gi W.groups k).band.locals.length/\(gi W.groups k).band.locals.length<=4/\(gi W.groups k).shelves.length<=4:=by
 have hg:=ha.grp k k0 k1;have hc:=ha.c2
 cases hu:(gi W.groups k).used with
 | false=>
  have:=hg.1 hu;have hb:=At this.b;have:=this.l;omega
 | true=>
  have:=hg.2 hu;have hl:=this.len
  by_cases hq:(gi W.groups k).band.quota=0
  ·have hb:=At (this.none hq).1;omega
  ·have hb:=(this.band hq).1;have h1:=hb.dl;have h2:=hb.l2;omega
section
variable {W:Q7}{m:MW}{w:Wo}{bs:List Nat}
def VG(W:Q7)(ms:Nat->MG)(k:Nat):List (ZA×MG):=(List.range k).map fun (j:Nat)=>(gi W.groups (j:Int),ms j)
theorem Yy(W:Q7)(ms:Nat->MG)(k:Nat):(VG W ms k).length=k:=by simp[VG]
theorem L2{W:Q7}{ms:Nat->MG}{k:Nat}{i:Int}(h0:0<=i)(h1:i<(k:Int)):gi (VG W ms k) i=(gi W.groups i,ms i.toNat):=by
 obtain⟨j,rfl⟩:=Int.eq_ofNat_of_zero_le h0;rw[J0 (by rw[Yy]; omega)];simp[VG]
theorem zmu(W:Q7)(ms:Nat->MG)(k:Nat)(p:MG):VG W (fun j=>if j=k then p else ms j) (k+1)=VG W ms k++[(gi W.groups (k:Int),p)]:=by
 unfold VG;rw[List.range_succ,List.map_append]
 congr 1
 ·refine List.map_congr_left fun j hj=>?_
  have:=List.mem_range.1 hj;show (_,if j=k then p else ms j)=_;rw[if_neg (by omega)]
 ·simp
theorem O8(h:YZ [] w W m)(ha:WA W) :
  Cz J3 #[.agg (Qa W m).toArray] w fun e w'=>∃m',e=.returned (.agg (Qa W m').toArray)/\Y1 8 w.heap.size w' W m'/\Q0 [] w w':=by
 refine(zdt W.now m.cO W.cpus.length m.cC m.tO W.tasks.length m.tC m.gO W.groups.length m.gC (R:=fun v w'=>∃m',v=.agg (Qa W m').toArray/\Y1 8 w.heap.size w' W m'/\Q0 [] w w') ?_).mono fun e w' ⟨v,he,m',hv,h3⟩=>⟨m',by rw[he,hv],h3⟩
 have hcl:=ha.c2;have htl:=ha.t;have hgl:=ha.gl;intro x hx x1 hx1 x2 hx2;have s0:Sc w [x,x1,x2] w:=(((Sc.start w).add hx).add hx1).add hx2
 refine⟨fun vs w1=>∃(i:Nat) (cO:OA) (cC:Nat),vs=[.int .i64 (i:Int),.int .i64 W.now,.slice cO (W.cpus.take i).length cC,.slice none 0 0,.slice none 0 0]/\i<=W.cpus.length/\Sc w [x,x1,x2] w1/\Ob P0 5 Z1 w.heap.size [x,x1,x2] w1 cO cC (W.cpus.take i),
  Zu W.cpus.length 0,fun wr hx _=>⟨0,none,0,by simp,Nat.zero_le _,s0.call0 hx,⟨.inl ⟨rfl,rfl,rfl⟩,by simp[Qy]⟩⟩,?_⟩
 rintro c1 l l1O l1L l1C l2O l2L l2C l3O l3L l3C wv2 hs2 ⟨i,cO,cC,he,hi,s1,hC⟩;simp only[List.cons.injEq,Value.int.injEq,Value.slice.injEq,true_and,and_true] at he;obtain⟨rfl,rfl,⟨rfl,rfl,rfl⟩,⟨rfl,rfl,rfl⟩,rfl,rfl,rfl⟩:=he;refine⟨fun hlt=>?_,fun hge=>?_⟩
 ·have hlt:=Ot hlt;have hr:=h.c.scb s1;refine⟨hr.ix Zh (by omega) hlt,_,_,_,_,_,hr i (by omega) hlt,fun b4 hb4=>⟨rfl,fun wr3 hx3 hs3 hcell=>?_⟩⟩;have s2:=s1.put hx3 hb4;have hC2:=hC.put hx3 hb4;obtain⟨o2,c2,w2,hrun,hk2,hC3,hy2⟩:=hC2.app1 Mf PB (x:=gi W.cpus (i:Int)) hs3 s2.ext.size hcell (zui _) (by rw[List.length_take]; omega) (by decide) Zd #[false,false];rw[KG (by omega)] at hrun hC3;have s3:=s2.call hy2 fun y hm=>(hC2.own.lt y hm).1
  refine⟨_,_,_,w2,hrun,hk2,⟨by omega,by omega⟩,fun w5 hx5 _=>⟨⟨i+1,o2,c2,rfl,by omega,(s3.step hx5).sub (by simp),(hC3.step hx5).sub (by simp)⟩,?_⟩⟩;simp only[Zu,XK,Y5,List.getElem?_cons_zero]; omega
 have hge:=Ou hge;rw[show W.cpus.take i=W.cpus from List.take_of_length_le (by omega)] at hC ⊢
 refine⟨fun vs w1=>∃(i:Nat) (tO:OA) (tC:Nat),vs=[.int .i64 (i:Int),.int .i64 W.now,.slice l1O W.cpus.length l1C,.slice tO (W.tasks.take i).length tC,.slice none 0 0]/\i<=W.tasks.length/\Sc w [x,x1,x2] w1/\Ob P0 5 Z1 w.heap.size [x,x1,x2] w1 l1O l1C W.cpus/\Ob YM 9 QD w.heap.size [x,x1,x2] w1 tO tC (W.tasks.take i),
  Zu W.tasks.length 0,fun wr hx _=>⟨0,none,0,by simp,Nat.zero_le _,s1.step hx,hC.step hx,⟨.inl ⟨rfl,rfl,rfl⟩,by simp[Qy]⟩⟩,?_⟩
 clear hC s1 hi hge hs2;rintro t1 l4 l5O l5L l5C l6O l6L l6C l7O l7L l7C wv6 hs6 ⟨i,tO,tC,he,hi,s1,hC,hT⟩;simp only[List.cons.injEq,Value.int.injEq,Value.slice.injEq,true_and,and_true] at he;obtain⟨rfl,rfl,⟨rfl,rfl,rfl⟩,⟨rfl,rfl,rfl⟩,rfl,rfl,rfl⟩:=he;refine⟨fun hlt=>?_,fun hge=>?_⟩
 ·have hlt:=Ot hlt;have hr:=h.t.scb s1;refine⟨hr.ix QI (by omega) hlt,_,_,_,_,_,_,_,_,_,hr i (by omega) hlt,fun b4 hb4=>⟨rfl,fun wr3 hx3 hs3 hcell=>?_⟩⟩;have s2:=s1.put hx3 hb4;have hC2:=hC.put hx3 hb4;have hT2:=hT.put hx3 hb4;obtain⟨o2,c2,w2,hrun,hk2,hT3,hy2⟩:=hT2.app1 Tp OV (x:=gi W.tasks (i:Int)) hs3 s2.ext.size hcell (zvq _) (by rw[List.length_take]; omega) (by decide) QO #[false,false];rw[KG (by omega)] at hrun hT3;have s3:=s2.call hy2 fun y hm=>(hT2.own.lt y hm).1
  have hC3:=hC2.call hy2 (hC2.own.ty_ne hT2.own (by decide));refine⟨_,_,_,w2,hrun,hk2,⟨by omega,by omega⟩,fun w5 hx5 _=>⟨⟨i+1,o2,c2,rfl,by omega,(s3.step hx5).sub (by simp),(hC3.step hx5).sub (by simp),(hT3.step hx5).sub (by simp)⟩,?_⟩⟩;simp only[Zu,XK,Y5,List.getElem?_cons_zero]; omega
 have hge:=Ou hge;rw[show W.tasks.take i=W.tasks from List.take_of_length_le (by omega)] at hT ⊢
 refine⟨fun vs w1=>∃(i:Nat) (gO:OA) (gC:Nat) (ms:Nat->MG),vs=[.int .i64 (i:Int),.int .i64 W.now,.slice l5O W.cpus.length l5C,.slice l6O W.tasks.length l6C,.slice gO (VG W ms i).length gC]/\i<=W.groups.length/\Sc w [x,x1,x2] w1/\Ob P0 5 Z1 w.heap.size [x,x1,x2] w1 l5O l5C W.cpus/\Ob YM 9 QD w.heap.size [x,x1,x2] w1 l6O l6C W.tasks/\Dc w.heap.size [x,x1,x2] w1 gO gC (VG W ms i),
  Zu W.groups.length 0,fun wr hx _=>⟨0,none,0,fun _=>default,by simp[VG],Nat.zero_le _,s1.step hx,hC.step hx,hT.step hx,Dc.nil _ _ _⟩,?_⟩
 clear hC hT s1 hi hge hs6;rintro k1 l22 l23O l23L l23C l24O l24L l24C l25O l25L l25C wv15 hs15 ⟨i,gO,gC,ms,he,hi,s1,hC,hT,hG⟩;simp only[List.cons.injEq,Value.int.injEq,Value.slice.injEq,true_and,and_true] at he;obtain⟨rfl,rfl,⟨rfl,rfl,rfl⟩,⟨rfl,rfl,rfl⟩,rfl,rfl,rfl⟩:=he;refine⟨fun hlt=>?_,fun hge=>?_⟩
 ·have hlt:=Ot hlt;have hr:=h.g.ext s1.ext;have hrb:Mw [x,x1,x2] wv15 m.gO W.groups m.ms:=(h.g.wide (cs:=[x,x1,x2]) fun y hm=>.inr (s1.new y hm)).ext s1.ext.of_nil;have hix:=hrb.ix (i:=(i:Int)) (by omega) hlt;obtain⟨bl1,bl2,bl3⟩:=PG ha (k:=(i:Int)) (by omega) (by omega);refine⟨hix,_,_,_,_,_,_,_,_,_,_,_,_,_,_,_,_,_,_,_,_,hrb.cells (i:Int) (by omega) hlt,fun b11 hb11=>⟨hix,_,_,_,_,_,_,_,_,_,hrb.band (by omega) hlt,fun wr19 hx19 hs19=>?_⟩⟩;have s2:=s1.put hx19 hb11;have hC2:=hC.put hx19 hb11;have hT2:=hT.put hx19 hb11;have hG2:=hG.put hx19 hb11;have hr2:=h.g.ext s2.ext;refine Calls.mono (HC (hr2.locals (i:Int) (by omega) hlt) (hr2.dry (i:Int) (by omega) hlt) bl1 (by omega)) ?_;rintro e wv16 ⟨p,he,hB,hy⟩;have s3:=s2.call0 hy;have hC3:=hC2.call0 hy;have hT3:=hT2.call0 hy;have hG3:=hG2.call0 hy;have hBn:∀y∈Zt p,wr19.heap.size<=y:=fun y hm=>(hB.lt y hm).1
  have hBb:∀y∈Zt p,y∉[x,x1,x2]++[b11]:=fun y hm hm'=>by
   have:=hBn y hm;have:=hs19 y hm';omega
  refine⟨_,_,_,_,_,_,_,_,_,he,Qd hy hs19,fun vs w1=>∃(c:Nat) (sO:OA) (sC:Nat),vs=[.int .i64 (c:Int),.bool (gi W.groups (i:Int)).used,.int .i64 (gi W.groups (i:Int)).parent,.string (gi W.groups (i:Int)).name,.int .i64 (gi W.groups (i:Int)).weight,.int .i64 (gi W.groups (i:Int)).cpus,.int .i64 (gi W.groups (i:Int)).period,.int .i64 (gi W.groups (i:Int)).next,.int .i64 (gi W.groups (i:Int)).sum,.int .i64 (gi W.groups (i:Int)).band.quota,.int .i64 (gi W.groups (i:Int)).band.pool,.int .i64 (gi W.groups (i:Int)).band.spent,.slice p.lO (gi W.groups (i:Int)).band.locals.length p.lC,.slice p.dO (gi W.groups (i:Int)).band.dry.length p.dC,.slice sO ((gi W.groups (i:Int)).shelves.take c).length sC]/\c<=(gi W.groups (i:Int)).shelves.length/\Sc w ([x,x1,x2]++[b11]) w1/\wr19.heap.size<=w1.heap.size/\Ob P0 5 Z1 w.heap.size ([x,x1,x2]++[b11]) w1 l23O l23C W.cpus/\Ob YM 9 QD w.heap.size ([x,x1,x2]++[b11]) w1 l24O l24C W.tasks/\Dc w.heap.size ([x,x1,x2]++[b11]) w1 l25O l25C (VG W ms i)/\QR wr19.heap.size w1 (gi W.groups (i:Int)).band p/\Ob P1 5 Zm wr19.heap.size ([x,x1,x2]++[b11]) w1 sO sC ((gi W.groups (i:Int)).shelves.take c),
   Zu (gi W.groups (i:Int)).shelves.length 0,fun wr hx _=>⟨0,none,0,by simp,Nat.zero_le _,s3.step hx,Nat.le_trans hy.size hx.size,hC3.step hx,hT3.step hx,hG3.step hx,hB.ext hx hBb,⟨.inl ⟨rfl,rfl,rfl⟩,by simp[Qy]⟩⟩,?_⟩
  have hsz:w.heap.size<=wr19.heap.size:=s2.ext.size;have hGlt:=hG2.lt;clear hB s3 hC3 hT3 hG3 hC2 hT2;rintro c4 l26 l27 l28 l29 l30 l31 l32 l33 l34 l35 l36 l37O l37L l37C l38O l38L l38C l39O l39L l39C wv17 hs17 ⟨c,sO,sC,he,hc,s4,hz4,hC4,hT4,hG4,hB4,hS4⟩;simp only[List.cons.injEq,Value.int.injEq,Value.slice.injEq,Value.bool.injEq,Value.string.injEq,true_and,and_true] at he;obtain⟨rfl,rfl,rfl,rfl,rfl,rfl,rfl,rfl,rfl,rfl,rfl,rfl,⟨rfl,rfl,rfl⟩,⟨rfl,rfl,rfl⟩,rfl,rfl,rfl⟩:=he;have hrb4:Mw ([x,x1,x2]++[b11]) wv17 m.gO W.groups m.ms:=(h.g.wide (cs:=[x,x1,x2]++[b11]) fun y hm=>.inr (s4.new y hm)).ext s4.ext.of_nil;refine⟨hix,_,_,_,hrb4.shelf (by omega) hlt,fun hlt2=>?_,fun hge2=>?_⟩
  ·have hlt2:=Ot hlt2;have hrs:=hrb4.shelves (i:Int) (by omega) hlt;refine⟨hix,_,_,_,hrb4.shelf (by omega) hlt,hrs.ix ZD (by omega) hlt2,_,_,_,_,_,hrs c (by omega) hlt2,fun b12 hb12=>⟨rfl,fun wr21 hx21 hs21 hcell=>?_⟩⟩;have s5:=s4.put hx21 hb12;have hS5:=hS4.put hx21 hb12;have hsz21:wr19.heap.size<=wr21.heap.size:=Nat.le_trans hz4 hx21.size;obtain⟨o2,c2,w2,hrun,hk2,hS6,hy2⟩:=hS5.app1 UQ TY (x:=gi (gi W.groups (i:Int)).shelves (c:Int)) hs21 hsz21 hcell (zuk _) (by rw[List.length_take]; omega) (by decide) QW #[false,false];rw[KG (by omega)] at hrun hS6;have hG5:=hG4.put hx21 hb12;have hC5:=hC4.put hx21 hb12;have hT5:=hT4.put hx21 hb12;have hB5:=hB4.ext hx21 hBb;have s6:=s5.call hy2 fun y hm=>Nat.le_trans hsz (hS5.own.lt y hm).1
   have hC6:=hC5.call hy2 (hC5.own.ty_ne hS5.own (by decide));have hT6:=hT5.call hy2 (hT5.own.ty_ne hS5.own (by decide))
   have hG6:=hG5.ext hy2 (hG5.own.row.ty_ne hS5.own (by decide)) fun j a b y hm hm'=>by
    have:=(hGlt.2 j a b y hm).2;have:=(hS5.own.lt y hm').1;omega
   have hBb5:∀y∈Zt p,y∉[x,x1,x2]++[b11]++[b12]:=fun y hm hm'=>by
    rcases List.mem_append.1 hm' with h2 | h2
    ·exact hBb y hm h2
    ·have:y=b12:=by simpa using h2
     have:=(hB4.lt y hm).2;omega
   have hB6:=hB5.ext hy2 fun y hm=>by
    rcases List.mem_append.1 hm with hm | hm
    ·exact hB5.loc.ty_ne hS5.own (by decide) y hm
    ·exact hB5.dry.ty_ne hS5.own (by decide) y hm
   refine⟨_,_,_,w2,hrun,hk2,⟨by omega,by omega⟩,fun w5 hx5 _=>⟨⟨c+1,o2,c2,rfl,by omega,(s6.step hx5).sub (by simp),?_,(hC6.step hx5).sub (by simp),(hT6.step hx5).sub (by simp),(hG6.step hx5).sub (by simp),hB6.ext hx5 hBb5,(hS6.step hx5).sub (by simp)⟩,?_⟩⟩
   ·have:=hy2.size;have:=hx5.size;omega
   ·simp only[Zu,XK,Y5,List.getElem?_cons_zero]; omega
  ·have hge2:=Ou hge2;rw[show (gi W.groups (i:Int)).shelves.take c=(gi W.groups (i:Int)).shelves from List.take_of_length_le (by omega)] at hS4 ⊢;intro b13 hb13 wr23 hx23 hs23 hcell;have s5:=s4.put hx23 hb13;have hG5:=hG4.put hx23 hb13;have hC5:=hC4.put hx23 hb13;have hT5:=hT4.put hx23 hb13;have hB5:=hB4.ext hx23 hBb;have hS5:=hS4.put hx23 hb13
   have hlt17:∀y∈Ql ⟨p.lO,p.lC,p.dO,p.dC,l39O,l39C⟩,wr19.heap.size<=y/\y<wv17.heap.size:=fun y hm=>by
    simp only[Ql,List.mem_append] at hm;rcases hm with (hm | hm) | hm
    ·exact hB4.loc.lt y hm
    ·exact hB4.dry.lt y hm
    ·exact hS4.own.lt y hm
   obtain⟨o2,c2,w2,hrun,hk2,hG6,hy2⟩:=hG5.app1 (p:=(gi W.groups (i:Int),⟨p.lO,p.lC,p.dO,p.dC,l39O,l39C⟩)) hs23 s5.ext.size ⟨(hB5.mono hsz).loc,(hB5.mono hsz).dry,hS5.own.mono hsz⟩ (fun y hm hm'=>by
     have h1:=hlt17 y hm;rcases List.mem_append.1 hm' with h2 | h2
     ·have:=hs19 y h2; omega
     ·have:y=b13:=by simpa using h2
      omega) (fun j a b y hm hm'=>by
     have:=(hGlt.2 j a b y hm).2;have:=(hlt17 y hm').1;omega) hcell (zvp _ _) (by rw[Yy]; omega) Qt #[false,false]
   rw[<-zmu] at hrun hG6;have s6:=s5.call hy2 fun y hm=>(hG5.own.row.lt y hm).1
   have hC6:=hC5.call hy2 (hC5.own.ty_ne hG5.own.row (by decide));have hT6:=hT5.call hy2 (hT5.own.ty_ne hG5.own.row (by decide));refine⟨_,_,_,w2,hrun,hk2,⟨by omega,by omega⟩,fun w5 hx5 _=>⟨⟨i+1,o2,c2,_,rfl,by omega,(s6.step hx5).sub (by simp),(hC6.step hx5).sub (by simp),(hT6.step hx5).sub (by simp),(hG6.step hx5).sub (by simp)⟩,?_⟩⟩;simp only[Zu,XK,Y5,List.getElem?_cons_zero]; omega
 ·have hge:=Ou hge;have hi8:i=W.groups.length:=by omega
  subst hi8;refine fun w9 hx9=>⟨⟨l23O,l23C,l24O,l24C,l25O,l25C,ms⟩,?_,⟨(hC.step hx9).own,(hT.step hx9).own,(hG.step hx9).own,hgl⟩,(s1.step hx9).ext⟩
  rw[Yy];rfl
theorem Z5(h:YZ [] w W m)(hl:Xc W) :
  Cz QL #[.agg (Qa W m).toArray] w fun e w'=>(Qv W=false/\e=.returned (.tuple #[.agg (Qa Pi zqq).toArray,.int .i64 1])/\Q0 [] w w')\/(Qv W=true/\∃m',e=.returned (.tuple #[.agg (Qa W m').toArray,.int .i64 (if QK W=true then 0 else 10)])/\Y1 8 w.heap.size w' W m'/\Q0 [] w w'):=by
 refine(FT W.now m.cO W.cpus.length m.cC m.tO W.tasks.length m.tC m.gO W.groups.length m.gC (R:=fun v w'=>(Qv W=false/\v=.tuple #[.agg (Qa Pi zqq).toArray,.int .i64 1]/\Q0 [] w w')\/(Qv W=true/\∃m',v=.tuple #[.agg (Qa W m').toArray,.int .i64 (if QK W=true then 0 else 10)]/\Y1 8 w.heap.size w' W m'/\Q0 [] w w')) ?_).mono fun e w' ⟨v,he,h3⟩=>by
  rw[he];rcases h3 with ⟨a,hv,b⟩ | ⟨a,m',hv,b⟩
  ·exact .inl ⟨a,by rw[hv],b⟩
  ·exact .inr ⟨a,m',by rw[hv],b⟩
 intro x hx x1 hx1;refine⟨_,X2 h hl.c hl.t hl.g hl.f,fun g wr hx=>.inl ⟨by simpa using g,rfl,hx⟩,fun g wr1 hx2 hs1=>?_⟩;have hW:Qv W=true:=by simpa using g
 have wp:=Qh.1 hW;refine Calls.mono (O8 (h.ext hx2) wp.a) ?_;rintro e wv ⟨m',he,hM,hy⟩
 have hnb:∀y∈QB 8 m',y∉[x,x1]:=fun y hy hm=>by
  have:=(hM.lt y hy).1;have:=hs1 y hm;omega
 have hro:=PO (hM.rd hnb) hl;have hfin:∀w2,Q0 [x,x1] wv w2->Y1 8 w.heap.size w2 W m'/\Q0 [] w w2:=fun w2 h2=>⟨(hM.mono hx2.size).ext h2 hnb,(hx2.trans hy).fresh h2 fun y hm=>.inl (Yr hx hx1 y hm)⟩
 refine⟨_,_,_,_,_,_,_,_,_,_,he,Qd hy hs1,_,hro,fun g2 w2 h2=>.inr ⟨hW,m',?_,hfin w2 h2⟩,fun g2 w2 h2=>.inr ⟨hW,m',?_,hfin w2 h2⟩⟩
 ·have:¬QK W=true:=fun hr=>by
   rw[show Jr (Xs W/\Lx W)=true from Qh.2 ⟨wp,Qh.1 hr⟩] at g2;cases g2
  rw[if_neg this]; rfl
 ·have hd:Jr (Xs W/\Lx W)=true:=by simpa using g2
  have:QK W=true:=Qh.2 (Qh.1 hd).2;rw[if_pos this]; rfl
end
structure Wk (n:Nat) (bs:List Nat) (w0 w:Wo) (W:Q7) (m:MW):Prop where
 s:Sc w0 bs w
 o:OW n w0.heap.size bs w W m
section
variable {n:Nat}{bs cs:List Nat}{w0 w w':Wo}{W W':Q7}{m m':MW}{b:Nat}
theorem Wk.step(h:Wk n bs w0 w W m)(hx:Q0 bs w w'):Wk n bs w0 w' W m:=⟨h.s.step hx,h.o.step hx⟩
theorem Wk.call0(h:Wk n bs w0 w W m)(hx:Q0 [] w w'):Wk n bs w0 w' W m:=⟨h.s.call0 hx,h.o.call0 hx⟩
theorem Wk.add(h:Wk n bs w0 w W m)(hb:w.heap.size<=b):Wk n (bs++[b]) w0 w W m:=⟨h.s.add hb,h.o.add hb⟩
theorem Wk.sub(h:Wk n bs w0 w W m)(hs:∀x∈cs,x∈bs):Wk n cs w0 w W m:=⟨h.s.sub hs,h.o.sub hs⟩
theorem Wk.rd(h:Wk n bs w0 w W m):YZ bs w W m:=h.o.rd
theorem Wk.own(h:Wk n bs w0 w W m):Y1 n w0.heap.size w W m:=h.o.own
theorem Wk.nb(h:Wk n bs w0 w W m):∀x∈QB n m,x∉bs:=h.o.nb
theorem Wk.base(h:Wk n bs w0 w W m):w0.heap.size<=w.heap.size:=h.s.ext.size
theorem Wk.deed(h:Wk n bs w0 w W m)(k:Mv n w0.heap.size [] w m w' W' m')(hs:∀x∈bs,x<w.heap.size):Wk n bs w0 w' W' m':=
 ⟨h.s.call k.ext fun x hx=>(h.o.own.lt x hx).1,⟨k.own,fun x hx hm=>by
  rcases k.sub x hx with h1 | h1
  ·exact h.o.nb x h1 hm
  ·have:=hs x hm;omega⟩⟩
theorem Wk.kept(h:Wk n bs w0 w W m)(k:Mv n w0.heap.size [] w m w' W' m')(hs:∀x∈bs,x<w.heap.size):Q9 bs w w':=fun x hm=>k.ext.block x (hs x hm) fun hm'=>h.o.nb x hm' hm
theorem Wk.sto(h:Wk n bs w0 w W m)(k:Y1 n w0.heap.size w' W' m)(hx:Q0 (QB n m) w w'):Wk n bs w0 w' W' m:=⟨h.s.call hx fun x hx=>(h.o.own.lt x hx).1,⟨k,h.o.nb⟩⟩
theorem Wk.fin(h:Wk n bs w0 w W m):Y1 n w0.heap.size w W m/\Q0 [] w0 w:=⟨h.o.own,h.s.ext⟩
end
def QG(r:Q7×Int)(w:Wo)(v:Va)(w':Wo):Prop:=∃n m',v=.tuple #[.agg (Qa r.1 m').toArray,.int .i64 r.2]/\Y1 n w.heap.size w' r.1 m'/\Q0 [] w w'
theorem Y1.zero(base:Nat)(w:Wo):Y1 0 base w Pi zqq:=⟨.inl ⟨rfl,rfl,rfl⟩,.inl ⟨rfl,rfl,rfl⟩,⟨.inl ⟨rfl,rfl,rfl⟩,fun i a b=>by simp[zix,Pi] at b; omega,fun i j a b=>by simp[zix,Pi] at b; omega⟩,rfl⟩
section
variable {W W':Q7}{m:MW}{w:Wo}{bar:Int}
theorem QG.bad{w':Wo}(hW:Qv W=false)(hx:Q0 [] w w'):QG (YG W bar W') w (.tuple #[.agg (Qa Pi zqq).toArray,.int .i64 1]) w':=by
 rw[zc3 hW];exact⟨0,zqq,rfl,Y1.zero _ _,hx⟩
theorem QG.no{n:Nat}{bs:List Nat}{w':Wo}{m':MW}(hW:Qv W=true)(hb:bar≠0)(hk:Wk n bs w w' W m'){c:Int}(hc:bar=c):QG (YG W bar W') w (.tuple #[.agg (Qa W m').toArray,.int .i64 c]) w':=by
 rw[zc4 hW hb,hc];exact⟨n,m',rfl,hk.fin⟩
theorem QG.ok{n:Nat}{bs:List Nat}{w':Wo}{m':MW}(hW:Qv W=true)(hb:bar=0)(hk:Wk n bs w w' W' m'):QG (YG W bar W') w (.tuple #[.agg (Qa W' m').toArray,.int .i64 0]) w':=by
 rw[zhp hW hb];exact⟨n,m',rfl,hk.fin⟩
theorem Wk.begin{x x1:Nat}{wr wv:Wo}{m':MW}(hx:w.heap.size<=x)(hx1:w.heap.size<=x1)(hx2:Q0 [] w wr)(hs:∀y∈[x,x1],y<wr.heap.size)(hM:Y1 8 wr.heap.size wv W m')(hy:Q0 [] wr wv):Wk 8 [x,x1] w wv W m':=
 ⟨⟨hx2.trans hy,Yr hx hx1⟩,(OW.of hM hs).mono hx2.size⟩
theorem E2{t:Int}(h:YZ [] w W m)(hl:Xc W) :
  Cz Vf #[.agg (Qa W m).toArray,.int .i64 t] w fun e w'=>∃v,e=.returned v/\QG (YG W (V2 W t) (zdd W t)) w v w':=by
 refine DJ W.now m.cO W.cpus.length m.cC m.tO W.tasks.length m.tC m.gO W.groups.length m.gC t (R:=fun v w'=>QG (YG W (V2 W t) (zdd W t)) w v w') ?_;intro x hx x1 hx1 wr hx2 hs2;refine Calls.mono (Z5 (h.ext hx2) hl) ?_;rintro e wv (⟨hW,he,hy⟩ | ⟨hW,m',he,hM,hy⟩)
 ·exact⟨_,_,_,_,_,_,_,_,_,_,_,he,Qd hy hs2,fun _ wr1 hx3=>QG.bad hW ((hx2.trans hy).fresh hx3 fun y hm=>.inl (Yr hx hx1 y hm)),fun g=>by simp at g⟩
 have hK:=Wk.begin hx hx1 hx2 hs2 hM hy;have hr:=hK.rd;refine⟨_,_,_,_,_,_,_,_,_,_,_,he,Qd hy hs2,fun g=>by split at g <;> simp at g,fun _=>⟨_,J5 hr hl.t,fun g wr2 hx3=>?_,fun g=>?_⟩⟩
 ·have g:ZT W t=false:=by simpa using g
  have hb:V2 W t=2:=by unfold V2; rw[if_pos g]
  exact QG.no hW (by rw[hb]; decide) (hK.step hx3) hb
 have g:ZT W t=true:=by simpa using g
 obtain⟨t0,t1,tn⟩:=YB g;have hix:=hr.t.ix QI t0 t1;refine⟨hix,_,hr.t.f t0 t1 (j:=0) rfl,fun g2 wr3 hx3=>?_,fun g2=>⟨fun g3 wr4 hx3=>?_,fun g3=>?_⟩⟩
 ·have g2:(Q8 W t).state≠1:=by simpa[Q8] using g2
  have hb:V2 W t=6:=by unfold V2; rw[if_neg (by rw[g]; decide),if_pos g2]
  exact QG.no hW (by rw[hb]; decide) (hK.step hx3) hb
 ·have g2:¬(Q8 W t).state≠1:=by simpa[Q8] using g2
  have hr0:¬QK W=true:=fun hr=>by rw[if_pos hr] at g3; simp at g3
  have hb:V2 W t=10:=by unfold V2; rw[if_neg (by rw[g]; decide),if_neg g2,if_pos (by simpa using hr0)]
  rw[if_neg hr0];exact QG.no hW (by rw[hb]; decide) (hK.step hx3) hb
 ·have g2:¬(Q8 W t).state≠1:=by simpa[Q8] using g2
  have hr0:QK W=true:=Decidable.byContradiction fun hr=>by rw[if_neg hr] at g3; simp at g3
  have hb:V2 W t=0:=by unfold V2; rw[if_neg (by rw[g]; decide),if_neg g2,if_neg (by rw[hr0]; decide)]
  obtain⟨_,_,sw,sw1⟩:=zfg hW hb;have hset:Y1 8 w.heap.size _ (setTk W t { Q8 W t with state:=2 }) m':=hK.own.stoT t0 t1 (j:=0) (vs:=[.int .i64 2]) (x:={ Q8 W t with state:=2 }) rfl (by simp);refine⟨hix,ze9 hK.own hK.nb t0 t1 (by decide),fun wr5 hx5 hs5=>?_⟩;have hK5:=(hK.sto hset Lv).step hx5;have hcall:=Qq hK5.own sw1 (by decide) (by decide) hK5.base;have e5:Qa (setTk W t { Q8 W t with state:=2 }) m'=Qa W m':=by simp[Qa,setTk]
  rw[e5] at hcall;refine Calls.mono hcall ?_;rintro e1 wv1 ⟨m1,he1,hy1⟩;exact⟨_,_,_,_,_,_,_,_,_,_,he1,hK5.kept hy1 hs5,fun wr6 hx6=>QG.ok hW hb ((hK5.deed hy1 hs5).step hx6)⟩
end
theorem zg2{α:Type}[Inhabited α]{l:List α}{i:Int}(h0:0<=i)(h1:i<(l.length:Int)):l.set i.toNat (gi l i)=l:=by
 obtain⟨k,rfl⟩:=Int.eq_ofNat_of_zero_le h0;rw[J0 (by omega),Int.toNat_natCast,List.set_getElem_self]
theorem zi6{W:Q7}{k:Int}(h0:0<=k)(h1:k<(W.groups.length:Int)):setBd W k (gi W.groups k).band=W:=by
 show setGr W k (gi W.groups k)=W;unfold setGr;rw[zg2 h0 h1]
section
variable {base:Nat}{W:Q7}{m:MW}{w:Wo}{k:Int}{b:Jb}
end
structure PW (base pb:Nat) (w:Wo) (W:Q7) (m:MW):Prop where
 own:Y1 8 base w W m
 pt:w.heap[pb]? = some (.cells (Qa W m).toArray Q3 (0,0))
 pn:pb∉QB 8 m
abbrev pA(pb:Nat):OA:=some ⟨pb,0,none⟩
structure Mp (base pb:Nat) (bs:List Nat) (w0:Wo) (m0:MW) (w:Wo) (W:Q7) (m:MW):Prop where
 v:Mv 8 base bs w0 m0 w W m
 pt:w.heap[pb]? = some (.cells (Qa W m).toArray Q3 (0,0))
 pn:pb∉QB 8 m
 pb:pb∉bs
section
variable {base pb:Nat}{bs cs:List Nat}{w0 w w':Wo}{W W':Q7}{m0 m m':MW}{b:Nat}
theorem Mp.start(h:PW base pb w W m):Mp base pb [] w m w W m:=⟨Mv.start h.own,h.pt,h.pn,by simp⟩
theorem Mp.pw(h:Mp base pb bs w0 m0 w W m):PW base pb w W m:=⟨h.v.own,h.pt,h.pn⟩
theorem Mp.step(h:Mp base pb bs w0 m0 w W m)(hx:Q0 bs w w'):Mp base pb bs w0 m0 w' W m:=⟨h.v.step hx,ZP h.pt hx h.pb,h.pn,h.pb⟩
theorem Mp.call0(h:Mp base pb bs w0 m0 w W m)(hx:Q0 [] w w'):Mp base pb bs w0 m0 w' W m:=⟨h.v.call0 hx,ZP h.pt hx (by simp),h.pn,h.pb⟩
theorem Mp.call(h:Mp base pb bs w0 m0 w W m)(k:Mp base pb [] w m w' W' m')(hs:∀x∈bs,x<w.heap.size):Mp base pb bs w0 m0 w' W' m':=⟨h.v.call k.v hs,k.pt,k.pn,h.pb⟩
theorem Mp.deed(h:Mp base pb bs w0 m0 w W m)(k:Y1 8 base w' W' m)(hx:Q0 (QB 8 m) w w')(he:Qa W' m=Qa W m):Mp base pb bs w0 m0 w' W' m:=⟨h.v.deed k hx,by rw[he]; exact ZP h.pt hx h.pn,h.pn,h.pb⟩
theorem Mp.wpt(h:Mp base pb bs w0 m0 w W m):PD bs w (pA pb) W m:=⟨Oi h.pt h.pb (k0:=0) fun j v hj=>by simpa using hj,h.v.rd⟩
end
section
variable {base pb:Nat}{bs:List Nat}{w:Wo}{W:Q7}{m:MW}{k c:Int}
theorem DV(h:PW base pb w W m)(c0:0<=c)(c1:c<(W.cpus.length:Int)) :
  Cz Jd #[.agg #[.pointer (pA pb),.int .i64 c]] w fun e w'=>e=.returned (.tuple #[])/\Mp base pb [] w m w' (endW W c) m:=by
 refine(Ke (pA pb) c (R:=fun v w'=>v=.tuple #[]/\Mp base pb [] w m w' (endW W c) m) ?_).mono fun e w' ⟨v,he,hv,h3⟩=>⟨by rw[he,hv],h3⟩
 intro b hb;obtain⟨e1,e2⟩:=zkp h.own c0 c1;have hM:=Mp.start h;have hp:=hM.wpt;have hr:=h.own.rd (bs:=[]) (by simp);have hs:=zg5 (n:=Int.toNat c*5) (hr.c c c0 c1);refine⟨_,A6 hp c0 c1,_,A6 hp c0 c1,hs,zlg.2 (zhl h.own (by simp) c0 c1 (by decide)),hs,?_⟩;rw[zk6];refine⟨zlg.2 (zhl e1 (by simp) c0 (by simpa using c1) (by decide)),?_⟩;rw[zk6];exact fun wr hx=>⟨rfl,(hM.deed e2 (D4.trans D4) (by simp[Qa,endW,setCp])).call0 hx⟩
end
section
variable {base pb:Nat}{w:Wo}{W:Q7}{m:MW}{k c:Int}
theorem Mp.nil{w0 w:Wo}{m0:MW}(h:Mp base pb [] w0 m0 w W m){w':Wo}(hx:Q0 [] w w'):Mp base pb [] w0 m0 w' W m:=h.step hx
end
section
variable {b:Jb}{m:MG}{w:Wo}
theorem zif(h1:zfa [] w m.lO b.locals)(h2:zjp [] w m.dO b.dry)(l1:b.locals.length<=1048576)(l2:b.dry.length<=1048576) :
  Cz VO #[.agg (QT b m).toArray] w fun e w'=>∃p,e=.returned (.agg (QT b p).toArray)/\QR w.heap.size w' b p/\Q0 [] w w':=by
 refine(FJ b.quota b.pool b.spent m.lO b.locals.length m.lC m.dO b.dry.length m.dC (R:=fun v w'=>∃p,v=.agg (QT b p).toArray/\QR w.heap.size w' b p/\Q0 [] w w') ?_).mono fun e w' ⟨v,he,p,hv,h3⟩=>⟨p,by rw[he,hv],h3⟩
 have hm9:=Zb;intro x hx x5 hx5 wr hx0 hs0;have s0:Sc w [x,x5] wr:=(((Sc.start w).add hx).add hx5).call0 hx0;refine⟨_,_,_,_,Pz ZW TB b.locals.length (by omega) (by omega) wr,Qd (QV _ _) hs0,fun wr1 hx1 hs1=>?_⟩;have hL0:Ob Xu 1 Qb wr.heap.size [x,x5] _ (some ⟨wr.heap.size,0,none⟩) b.locals.length (List.replicate b.locals.length (0:Int)):=Ob.of (U9 (enc:=Xu) ZW.len Qb b.locals.length (0:Int) wr) hs0;have s1:=(s0.call0 (QV wr (.cells ((List.replicate b.locals.length (0:Int)).flatMap Xu).toArray Qb))).step hx1;have hL1:=hL0.step hx1;obtain⟨n1,w2,hrun1,hL2,hy1⟩:=zky ZW TB zuj (by decide) (c2:=m.lC) hL1.own (h1.ext s1.ext) (m:=b.locals) (by simp) Qb #[false,false];rw[List.length_replicate] at hrun1;have s2:=s1.call hy1 fun y hy=>Nat.le_trans s0.ext.size (hL1.own.lt y hy).1
 have hL2':Ob Xu 1 Qb wr.heap.size [x,x5] w2 (some ⟨wr.heap.size,0,none⟩) b.locals.length b.locals:=⟨hL2,hL1.nb⟩;refine⟨_,_,hrun1,Kq hy1 hs1 hL1.nb,fun wr2 hx2 hs2=>⟨_,_,_,_,Pz Ys M4 b.dry.length (by omega) (by omega) wr2,Qd (QV _ _) hs2,fun wr3 hx3 hs3=>?_⟩⟩;have s3:=((s2.step hx2).call0 (QV wr2 (.cells ((List.replicate b.dry.length false).flatMap Ol).toArray ZR))).step hx3;have hL3:=((hL2'.step hx2).call0 (QV wr2 (.cells ((List.replicate b.dry.length false).flatMap Ol).toArray ZR))).step hx3;have hD0:Ob Ol 1 ZR wr2.heap.size [x,x5] _ (some ⟨wr2.heap.size,0,none⟩) b.dry.length (List.replicate b.dry.length false):=Ob.of (U9 (enc:=Ol) Ys.len ZR b.dry.length false wr2) hs2;have hD1:=hD0.step hx3;obtain⟨n2,w4,hrun2,hD2,hy2⟩:=zky Ys M4 zvo (by decide) (c2:=m.dC) hD1.own (h2.ext s3.ext) (m:=b.dry) (by simp) Qb #[false,false];rw[List.length_replicate] at hrun2;have hz2:w.heap.size<=wr2.heap.size:=(s2.step hx2).ext.size;have s4:=s3.call hy2 fun y hy=>Nat.le_trans hz2 (hD1.own.lt y hy).1
 have hL4:=hL3.call hy2 (hL3.own.ty_ne hD1.own (by decide));have hD3:Ob Ol 1 ZR wr2.heap.size [x,x5] w4 (some ⟨wr2.heap.size,0,none⟩) b.dry.length b.dry:=⟨hD2,hD1.nb⟩;exact⟨_,_,hrun2,Kq hy2 hs3 hD1.nb,fun wr4 hx4=>⟨⟨some ⟨wr.heap.size,0,none⟩,b.locals.length,some ⟨wr2.heap.size,0,none⟩,b.dry.length,none,0⟩,rfl,⟨(hL4.step hx4).own.mono s0.ext.size,(hD3.step hx4).own.mono hz2⟩,(s4.step hx4).ext⟩⟩
end
theorem HZ{α:Type}[Inhabited α]{P:Program}{enc:α->List Va}{z:Nat}{ty t:TypeId}{bytes:Nat}{zero:α}(E:zjn P enc z ty bytes zero)(ht:P.underlying t=some (.slice ty))(hone:∀x,Z7 (enc x)=true)(hz0:0<z){w:Wo}{o:OA}{c:Nat}{l:List α}(h:Rd enc z [] w o l)(hl:l.length<=1048576)(hby:bytes<=1000)(tr:TypeId)(cs:Array Bool) :
  ∃o' c' w',(builtin .append #[t,t] tr cs #[.slice none 0 0,.slice o l.length c]).run P w=.ok (.value (.slice o' l.length c')) w'/\Jp enc z ty w.heap.size w' o' c' l/\Q0 [] w w':=by
 have hO:Jp enc z ty w.heap.size w none 0 ([]:List α):=.inl ⟨rfl,rfl,rfl⟩
 have hbb:(2*(([]:List α).length+l.length))*bytes<=281474976710656:=by
  rw[List.length_nil,Nat.zero_add];exact Nat.le_trans (Nat.mul_le_mul (show 2*l.length<=2097152 by omega) hby) (by decide)
 obtain⟨o',c',w',h1,h2,h3,_⟩:=zkx E ht hO (zp2 E.len hone ht h (c:=c) hz0) hbb (by rw[List.length_nil]; omega) tr (Nat.le_refl _);rw[List.length_nil,Nat.zero_add] at h1;exact⟨o',c',w',Nx h1,h2,h3⟩
theorem zgr(W:Q7)(ms:Nat->MG)(n k:Nat)(hk:k<n)(p:MG):(VG W ms n).set k (gi W.groups (k:Int),p)=VG W (fun j=>if j=k then p else ms j) n:=by
 refine zia (by rw[List.length_set,Yy,Yy]) fun j hj=>?_
 rw[List.length_set,Yy] at hj;have:=Qw (VG W ms n) (gi W.groups (k:Int),p) (i:=(k:Int)) (by omega) (by rw[Yy]; omega) (j:=(j:Int)) (by omega);rw[Int.toNat_natCast] at this;rw[this,L2 (by omega) (by omega),L2 (by omega) (by omega)]
 by_cases e:k=j
 ·subst e; simp
 ·rw[if_neg (by omega),if_neg (by simp; omega)]
theorem ziw(W:Q7){ms ms':Nat->MG}{n:Nat}(h:∀j,j<n->ms j=ms' j):VG W ms n=VG W ms' n:=by
 unfold VG;exact List.map_congr_left fun j hj=>by rw[h j (List.mem_range.1 hj)]
section
variable {W:Q7}{m:MW}{w:Wo}
theorem EU(h:YZ [] w W m)(ha:WA W) :
  Cz Jh #[.agg (Qa W m).toArray] w fun e w'=>∃m',e=.returned (.agg (Qa W m').toArray)/\Y1 8 w.heap.size w' W m'/\Q0 [] w w':=by
 refine(DG W.now m.cO W.cpus.length m.cC m.tO W.tasks.length m.tC m.gO W.groups.length m.gC (R:=fun v w'=>∃m',v=.agg (Qa W m').toArray/\Y1 8 w.heap.size w' W m'/\Q0 [] w w') ?_).mono fun e w' ⟨v,he,m',hv,h3⟩=>⟨m',by rw[he,hv],h3⟩
 have hcl:=ha.c2;have htl:=ha.t;have hgl:=ha.gl;intro x hx x1 hx1 x2 hx2 wr hx0 hs0;have s0:Sc w [x,x1,x2] wr:=((((Sc.start w).add hx).add hx1).add hx2).call0 hx0;obtain⟨cO,cC,w1,hrun1,hC1,hy1⟩:=HZ Mf PB zui (by decide) (c:=m.cC) (h.c.ext s0.ext) (by omega) (by decide) Zd #[false,false];refine⟨_,_,_,_,hrun1,Qd hy1 hs0,fun wr1 hx1' hs1=>?_⟩;have s1:=(s0.call0 hy1).step hx1';have hC2:=(Ob.of hC1 hs0).step hx1';obtain⟨tO,tC,w2,hrun2,hT1,hy2⟩:=HZ Tp OV zvq (by decide) (c:=m.tC) (h.t.ext s1.ext) (by omega) (by decide) QO #[false,false];refine⟨_,_,_,_,hrun2,Qd hy2 hs1,fun wr2 hx2' hs2=>?_⟩;have s2:=(s1.call0 hy2).step hx2';have hC3:=(hC2.call0 hy2).step hx2';have hT3:=(Ob.of hT1 hs1).step hx2'
 have hrp:Rd VE 14 [] wr2 m.gO (VG W m.ms 8):=fun i h0 hi=>by
  rw[Yy] at hi;rw[L2 h0 hi];exact(h.g.ext s2.ext).cells i h0 (by omega)
 obtain⟨gO,gC,w3,hrun3,hG1,hy3⟩:=HZ ZJ TX (fun p=>zvp p.1 p.2) (by decide) (c:=m.gC) hrp (by rw[Yy]; decide) (by decide) Qt #[false,false];rw[Yy] at hrun3;have hrun3':(builtin .append #[Qt,Qt] Qt #[false,false] #[.slice none 0 0,.slice m.gO W.groups.length m.gC]).run Tryz.prog wr2=.ok (.value (.slice gO W.groups.length gC)) w3:=by rw[hgl]; exact hrun3
 have z1:w.heap.size<=wr1.heap.size:=s1.ext.size;have z2:w.heap.size<=wr2.heap.size:=s2.ext.size;have s3:=s2.call0 hy3;have hC4:=(hC3.call0 hy3).mono s0.ext.size;have hT4:=(hT3.call0 hy3).mono z1;have hG4:=Ob.of hG1 hs2
 refine⟨_,_,_,_,hrun3',Qd hy3 hs2,fun vs w4=>∃(k:Nat) (ms:Nat->MG),vs=[.int .i64 (k:Int)]/\k<=8/\Sc w [x,x1,x2] w4/\wr2.heap.size<=w4.heap.size/\Ob P0 5 Z1 w.heap.size [x,x1,x2] w4 cO cC W.cpus/\Ob YM 9 QD w.heap.size [x,x1,x2] w4 tO tC W.tasks/\Ob VE 14 QC wr2.heap.size [x,x1,x2] w4 gO gC (VG W ms 8)
   /\ (∀j,j<k->O3 wr2.heap.size w4 (gi W.groups (j:Int),ms j)/\∀y∈Ql (ms j),y∉[x,x1,x2])/\(∀i j,i<k->j<k->i≠j->∀y∈Ql (ms i),y∉Ql (ms j))/\(∀j,k<=j->ms j=m.ms j),
  Zu W.groups.length 0,fun w4 hx4 _=>⟨0,m.ms,rfl,by decide,s3.step hx4,Nat.le_trans hy3.size hx4.size,hC4.step hx4,hT4.step hx4,hG4.step hx4,fun j hj=>by omega,fun i j hi=>by omega,fun j _=>rfl⟩,?_⟩
 clear s3 hC4 hT4 hG4 hG1 hrp hrun3 hrun3' hC3 hT3 hC2 hT1 hrun1 hrun2 hC1;rintro x9 wv3 hs3 ⟨k,ms,he,hk,s3,z3,hC,hT,hG,hE,hJ,hF⟩;simp only[List.cons.injEq,Value.int.injEq,true_and,and_true] at he;subst he;refine⟨fun hlt=>?_,fun hge=>?_⟩
 ·have hlt:=Ot hlt;have hrb:Mw [x,x1,x2] wv3 m.gO W.groups m.ms:=(h.g.wide (cs:=[x,x1,x2]) fun y hm=>.inr (s3.new y hm)).ext s3.ext.of_nil;have hix:=hrb.ix (i:=(k:Int)) (by omega) hlt;obtain⟨bl1,bl2,bl3⟩:=PG ha (k:=(k:Int)) (by omega) (by omega);refine⟨hix,_,_,_,_,_,_,_,_,_,_,_,_,_,_,_,_,_,_,_,_,hrb.cells (k:Int) (by omega) hlt,fun b3 hb3 wr4 hx4 hs4=>?_⟩;have s4:=s3.put hx4 hb3;have hC4:=hC.put hx4 hb3;have hT4:=hT.put hx4 hb3;have hG4:=hG.put hx4 hb3;have hr4:=h.g.ext s4.ext;have z4:wr2.heap.size<=wr4.heap.size:=Nat.le_trans z3 hx4.size;refine Calls.mono (zif (hr4.locals (k:Int) (by omega) hlt) (hr4.dry (k:Int) (by omega) hlt) (by omega) (by omega)) ?_;rintro e wv4 ⟨p,he,hB,hy4⟩;have s5:=s4.call0 hy4;have hC5:=hC4.call0 hy4;have hT5:=hT4.call0 hy4;have hG5:=hG4.call0 hy4;have hgk:gi (VG W ms 8) (k:Int)=(gi W.groups (k:Int),ms k):=by rw[L2 (by omega) (by omega),Int.toNat_natCast]
  have hmk:ms k=m.ms k:=hF k (Nat.le_refl _);have hBn:∀y∈Zt p,wr4.heap.size<=y:=fun y hm=>(hB.lt y hm).1
  have e1:=hG5.own.sto ZJ.len (i:=(k:Int)) (by omega) (by rw[Yy]; omega) (j:=8) (vs:=QT (gi W.groups (k:Int)).band p) (x:=(gi W.groups (k:Int),VH (ms k) p)) (by rw[hgk]; rfl) (by simp[QT]);have hgix:=hG5.own.ix (i:=(k:Int)) (by omega) (by rw[Yy]; omega);have hgwr:=hG5.own.wr ZJ.len hG5.nb (i:=(k:Int)) (by omega) (by rw[Yy]; omega) (j:=8) (n:=5) (by decide);rw[Yy] at hgix;have hgix':Ix gO W.groups.length (k:Int):=by rw[hgl]; exact hgix
  simp only[Int.toNat_natCast] at e1 hgwr;rw[zgr W ms 8 k (by omega)] at e1;refine⟨_,_,_,_,_,_,_,_,_,he,Qd hy4 hs4,rfl,hgix',hgwr,fun wr5 hx5 hs5=>?_⟩;have hX5:=hG5.own.stoX (k*14+8) (QT (gi W.groups (k:Int)).band p);have s6:=(s5.call hX5 fun y hy=>Nat.le_trans z2 (hG5.own.lt y hy).1).step hx5;have hC6:=(hC5.call hX5 (hC5.own.ty_ne hG5.own (by decide))).step hx5;have hT6:=(hT5.call hX5 (hT5.own.ty_ne hG5.own (by decide))).step hx5;have hG6:Ob VE 14 QC wr2.heap.size ([x,x1,x2]++[b3]) wr5 gO gC (VG W (fun j=>if j=k then VH (ms k) p else ms j) 8):=(⟨e1,hG5.nb⟩:Ob VE 14 QC wr2.heap.size ([x,x1,x2]++[b3]) _ gO gC _).step hx5
  have hBnb:∀y∈Zt p,y∉[x,x1,x2]++[b3]:=fun y hm hm'=>by
   have:=hBn y hm;have:=hs4 y hm';omega
  have hBg:∀y∈Zt p,y∉Qy gO:=fun y hm hm'=>by
   have:=hBn y hm;have:=(hG4.own.lt y hm').2;omega
  have hB6:=(hB.ext hX5 hBg).ext hx5 hBnb;have z5:wr4.heap.size<=wr5.heap.size:=Nat.le_trans (Nat.le_trans hy4.size hX5.size) hx5.size;obtain⟨sO,sC,w6,hrun6,hS6,hy6⟩:=HZ UQ TY zuk (by decide) (c:=(m.ms k).sC) ((h.g.ext s6.ext).shelves (k:Int) (by omega) hlt) (by omega) (by decide) QW #[true,false];have s7:=s6.call0 hy6;have hC7:=hC6.call0 hy6;have hT7:=hT6.call0 hy6;have hG7:=hG6.call0 hy6;have hB7:=hB6.ext0 hy6
  have hgk2:gi (VG W (fun j=>if j=k then VH (ms k) p else ms j) 8) (k:Int)=(gi W.groups (k:Int),VH (ms k) p):=by
   rw[L2 (by omega) (by omega),Int.toNat_natCast,if_pos rfl]
  have e2:=hG7.own.sto ZJ.len (i:=(k:Int)) (by omega) (by rw[Yy]; omega) (j:=13) (vs:=[.slice sO (gi W.groups (k:Int)).shelves.length sC]) (x:=(gi W.groups (k:Int),⟨p.lO,p.lC,p.dO,p.dC,sO,sC⟩)) (by rw[hgk2]; rfl) (by simp);have hgwr2:=hG7.own.wr ZJ.len hG7.nb (i:=(k:Int)) (by omega) (by rw[Yy]; omega) (j:=13) (n:=1) (by decide);simp only[Int.toNat_natCast] at e2 hgwr2;rw[zgr _ _ 8 k (by omega)] at e2
  have hms2:VG W (fun j=>if j=k then (⟨p.lO,p.lC,p.dO,p.dC,sO,sC⟩:MG) else if j=k then VH (ms k) p else ms j) 8=VG W (fun j=>if j=k then (⟨p.lO,p.lC,p.dO,p.dC,sO,sC⟩:MG) else ms j) 8:=ziw W fun j _=>by
   by_cases e:j=k
   ·rw[if_pos e,if_pos e]
   ·rw[if_neg e,if_neg e,if_neg e]
  rw[hms2] at e2;have hX7:=hG7.own.stoX (k*14+13) [.slice sO (gi W.groups (k:Int)).shelves.length sC];refine⟨_,_,_,_,hrun6,Qd hy6 hs5,rfl,hgix',hgwr2,⟨by omega,by omega⟩,fun w9 hx9 _=>⟨⟨k+1,fun j=>if j=k then (⟨p.lO,p.lC,p.dO,p.dC,sO,sC⟩:MG) else ms j,rfl,by omega,?_,?_,?_,?_,?_,?_,?_,?_⟩,?_⟩⟩
  ·exact((s7.call hX7 fun y hy=>Nat.le_trans z2 (hG7.own.lt y hy).1).step hx9).sub (by simp)
  ·exact Nat.le_trans (Nat.le_trans (Nat.le_trans (Nat.le_trans z4 z5) hy6.size) hX7.size) hx9.size
  ·exact((hC7.call hX7 (hC7.own.ty_ne hG7.own (by decide))).step hx9).sub (by simp)
  ·exact((hT7.call hX7 (hT7.own.ty_ne hG7.own (by decide))).step hx9).sub (by simp)
  ·exact((⟨e2,hG7.nb⟩:Ob VE 14 QC wr2.heap.size ([x,x1,x2]++[b3]) _ gO gC _).step hx9).sub (by simp)
  ·intro j hj;have hSn:∀y∈Qy sO,wr5.heap.size<=y:=fun y hm=>(hS6.lt y hm).1
   by_cases e:j=k
   ·subst e;simp only[if_true]
    have hSnb:∀y∈Qy sO,y∉[x,x1,x2]++[b3]:=fun y hm hm'=>by
     have:=hSn y hm;have:=hs5 y hm';omega
    have hO9:O3 wr2.heap.size w9 (gi W.groups (j:Int),⟨p.lO,p.lC,p.dO,p.dC,sO,sC⟩):=by
     have hB9:=((hB7.ext hX7 hBg).ext hx9 hBnb).mono z4;exact⟨hB9.loc,hB9.dry,(((hS6.ext hX7 (hS6.ty_ne hG7.own (by decide))).ext hx9 hSnb)).mono (Nat.le_trans z4 z5)⟩
    refine⟨hO9,fun y hm hm'=>?_⟩;have hm'':y∈[x,x1,x2]++[b3]:=List.mem_append_left _ hm';simp only[Ql,List.mem_append] at hm;rcases hm with (hm | hm) | hm
    ·exact hBnb y (List.mem_append_left _ hm) hm''
    ·exact hBnb y (List.mem_append_right _ hm) hm''
    ·exact hSnb y hm hm''
   ·dsimp only
    rw[if_neg e];obtain⟨hm1,hm2⟩:=hE j (by omega);refine⟨?_,hm2⟩
    have hnb3:∀y∈Ql (ms j),y∉[x,x1,x2]++[b3]:=fun y hm hm'=>by
     rcases List.mem_append.1 hm' with h1 | h1
     ·exact hm2 y hm h1
     ·have:y=b3:=by simpa using h1
      have:=(hm1.lt y hm).2;omega
    have hgg:∀y∈Ql (ms j),y∉Qy gO:=Xj (p:=(gi W.groups (j:Int),ms j)) hG.own hm1;exact((((((hm1.ext hx4 hm2).ext0 hy4).ext hX5 hgg).ext hx5 hnb3).ext0 hy6).ext hX7 hgg).ext hx9 hnb3
  ·intro i j hi hj hij y hm hm'
   dsimp only at hm hm'
   have hnew:∀y∈Ql (⟨p.lO,p.lC,p.dO,p.dC,sO,sC⟩:MG),wr4.heap.size<=y:=fun y hm=>by
    simp only[Ql,List.mem_append] at hm;rcases hm with (hm | hm) | hm
    ·exact hBn y (List.mem_append_left _ hm)
    ·exact hBn y (List.mem_append_right _ hm)
    ·exact Nat.le_trans z5 (hS6.lt y hm).1
   have hold:∀j,j<k->∀y∈Ql (ms j),y<wr4.heap.size:=fun j hj y hm=>Nat.lt_of_lt_of_le ((hE j hj).1.lt y hm).2 hx4.size
   by_cases e1:i=k
   ·rw[if_pos e1] at hm
    by_cases e2:j=k
    ·omega
    ·rw[if_neg e2] at hm';have:=hnew y hm;have:=hold j (by omega) y hm';omega
   ·rw[if_neg e1] at hm
    by_cases e2:j=k
    ·rw[if_pos e2] at hm';have:=hnew y hm';have:=hold i (by omega) y hm;omega
    ·rw[if_neg e2] at hm';exact hJ i j (by omega) (by omega) hij y hm hm'
  ·intro j hj
   dsimp only
   rw[if_neg (by omega)];exact hF j (by omega)
  ·simp only[Zu,XK,Y5,List.getElem?_cons_zero]; omega
 ·have hge:=Ou hge;have hk8:k=8:=by omega
  subst hk8;refine fun w9 hx9=>⟨⟨cO,cC,tO,tC,gO,gC,ms⟩,rfl,⟨(hC.step hx9).own,(hT.step hx9).own,?_,hgl⟩,(s3.step hx9).ext⟩
  have e:zix W ⟨cO,cC,tO,tC,gO,gC,ms⟩=VG W ms 8:=by unfold zix VG; rw[hgl]
  rw[e]
  have hgi:∀i:Int,0<=i->i<((VG W ms 8).length:Int)->i.toNat<8/\gi (VG W ms 8) i=(gi W.groups ((i.toNat:Nat):Int),ms i.toNat):=fun i a b=>by
   rw[Yy] at b;refine⟨by omega,?_⟩;rw[L2 a b,show ((i.toNat:Nat):Int)=i by omega]
  refine⟨(hG.step hx9).own.mono z2,fun i a b=>?_,fun i j a b a' b' hij=>?_⟩
  ·obtain⟨c1,c2⟩:=hgi i a b;rw[c2];exact((hE _ c1).1.ext hx9 (hE _ c1).2).mono z2
  ·obtain⟨c1,c2⟩:=hgi i a b;obtain⟨d1,d2⟩:=hgi j a' b';rw[c2,d2];exact hJ _ _ c1 d1 (by omega)
end
end Go.Proofs.YtnclplgaicdapaaGreatDoor
