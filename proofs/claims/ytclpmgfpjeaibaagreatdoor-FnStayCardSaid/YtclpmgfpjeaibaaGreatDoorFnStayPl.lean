/- Part 12 of what the law FnStay needs: the engine, the functions' propositions, the contracts. -/
import Derived.Test.YtclpmgfpjeaibaaGreatDoorFnStayPk
namespace Go.Proofs.YtclpmgfpjeaibaaGreatDoor
open Go.RowKit
set_option linter.unusedVariables false
set_option linter.unusedSimpArgs false
set_option maxRecDepth 10000
theorem znx {n:Nat} {m:MW} {i:Nat} {p:MG}:∀x∈zbc n (setM m i p),x∈zbc n m\/x∈zam p:=fun x hx=>by
 rcases zyw hx with h | h | h | ⟨k,hk,h⟩
 ·exact .inl (z56 h)
 ·exact .inl (z58 h)
 ·exact .inl (z57 h)
 ·simp only [setM] at h
  split at h
  ·exact .inr h
  ·exact .inl (zi7 hk h)
theorem Mv.swap {n base:Nat} {bs:List Nat} {w0 w w':World} {W W':Wld} {m0 m m':MW} (h:Mv n base bs w0 m0 w W m) (k:MWd n base w' W' m') (hx:ExtX (zbc n m) w w') (hm:m'={ m with ms:=m'.ms })
  (hsub:∀x∈zbc n m',x∈zbc n m\/(w0.heap.size<=x/\x∉bs)):Mv n base bs w0 m0 w' W' m':=
 ⟨k,h.ext.fresh hx fun x hm=>(h.sub x hm).symm,fun x hx=>by
  rcases hsub x hx with h1 | h1
  ·exact h.sub x h1
  ·exact .inr h1.1,by rw [hm,h.hd],fun x hx=>by
  rcases hsub x hx with h1 | h1
  ·exact h.nb x h1
  ·exact h1.2,h.new⟩
section
variable {base:Nat} {W:Wld} {m:MW} {w:World}
theorem zxe {K:Int} (h:MWd 8 base w W m) (hsw:SW K W) (hK:0<=K) {c:Int} (c0:0<=c) (c1:c<(W.cpus.length:Int)) :
  Calls Tryz.prog ziy #[.agg (encW W m).toArray,.int .i64 c] w fun e w'=>e = .returned (.agg (encW W m).toArray)/\Mv 8 base [] w m w' (za7 W c) m:=by
 refine (zwq W.now m.cO W.cpus.length m.cC m.tO W.tasks.length m.tC m.gO W.groups.length m.gC c (R:=fun v w'=>v = .agg (encW W m).toArray/\Mv 8 base [] w m w' (za7 W c) m) ?_).mono fun e w' ⟨v,he,hv,h3⟩=>⟨by rw [he,hv],h3⟩
 intro x hx x1 hx1
 have hgl:=hsw.a.gl
 refine zik W.groups.length 0 rfl (fun k w2=>k<=8/\Mv 8 base [x,x1] w m w2 (za3 W c k) m) (fun w2 hx2 _=>⟨by decide,(Mv.two h hx hx1).call0 hx2⟩) fun k w2 hs2 ⟨hk8,hM2⟩ => ?_
 obtain ⟨hS2,hO2⟩:=zjp hsw hK c0 c1 k hk8
 have e0:encW (za3 W c k) m=encW W m:=zir hO2.fr
 have hr:=hM2.rd
 have hgl2:(za3 W c k).groups.length=W.groups.length:=hO2.g.len
 have hcl2:(za3 W c k).cpus.length=W.cpus.length:=by rw [hO2.c]
 have hdef:za3 W c (k+1)=if (gi (za3 W c k).groups (k:Int)).used=true/\zc4 (za3 W c k) (k:Int) c 20=true/\zby (za3 W c k) (k:Int) c 20>(shf (za3 W c k) (k:Int) c).floor then setSh (za3 W c k) (k:Int) c (zw1 (za3 W c k) (k:Int) c) else za3 W c k:=rfl
 have hN8:k=8->za7 W c=za3 W c k:=fun e=>by rw [e]; rfl
 generalize za3 W c k=W2 at hM2 hS2 hO2 e0 hr hgl2 hcl2 hdef hN8
 refine ⟨fun hlt => ?_,fun hge => ?_⟩
 ·have hlt:=of_decide_eq_true hlt
  have hlt2:(k:Int)<(W2.groups.length:Int):=by omega
  have hix:Ix m.gO W.groups.length (k:Int):=by have:=hr.g.ix (i:=(k:Int)) (by omega) hlt2; rwa [hgl2] at this
  refine ⟨hix,(gi W2.groups (k:Int)).used,hr.g.used (by omega) hlt2,fun g => ?_,fun g => ?_⟩
  ·refine ⟨⟨by omega,by omega⟩,fun w3 hx3 _=>zan (by omega) ⟨by omega,?_⟩⟩
   rw [hdef,if_neg (fun h1=>by rw [h1.1] at g; cases g)]
   exact hM2.step hx3
  ·have g:(gi W2.groups (k:Int)).used=true:=by simpa using g
   have hu:zae W2.groups (k:Int)=true:=zac.2 ⟨by omega,hlt2,g⟩
   have hsl:=hS2.a.sl hu
   have hle:=zo6 (g:=(k:Int)) hr hS2.a c0 (by omega)
   rw [e0] at hle
   have hss:=hr.g.shelves (k:Int) (by omega) hlt2
   have hixS:=hss.ix ze4 c0 (by omega)
   have hwr:=wrS hM2.own hM2.nb (i:=(k:Int)) (by omega) (by omega) c0 (by omega) (j:=0) (k:=1) (by decide)
   have hset:=hM2.own.stoS (i:=(k:Int)) (by omega) (by omega) c0 (by omega) (j:=0) (vs:=[.int .i64 (zby W2 (k:Int) c 20)]) (x:=zw1 W2 (k:Int) c) rfl (by simp)
   rw [<-zakf] at hset
   have hsub:ExtX (zbc 8 m) w2 (sto w2 (m.ms k).sO (Int.toNat c*5+0) [.int .i64 (zby W2 (k:Int) c 20)]):=subS (by omega)
   simp only [Int.toNat_natCast] at hwr hixS hset
   refine ⟨_,_,hle,fun _=>hix,_,_,_,fun _=>hr.g.shelf (by omega) hlt2,fun _=>hixS,_,fun _=>RdS.f hss c0 (by omega) (j:=0) rfl,fun g2 => ?_,fun g2 => ?_⟩
   ·refine ⟨hix,_,_,_,hr.g.shelf (by omega) hlt2,hixS,hwr,⟨by omega,by omega⟩,fun w3 hx3 _=>zan (by omega) ⟨by omega,?_⟩⟩
    rw [hdef,if_pos ⟨g,by simpa [shf] using g2⟩]
    exact (hM2.deed hset hsub).step hx3
   ·refine ⟨⟨by omega,by omega⟩,fun w3 hx3 _=>zan (by omega) ⟨by omega,?_⟩⟩
    rw [hdef,if_neg]
    ·exact hM2.step hx3
    ·rintro ⟨_,h1,h2⟩
     rw [h1,show decide (zby W2 (k:Int) c 20>(gi (gi W2.groups (k:Int)).shelves c).floor)=true from decide_eq_true h2] at g2
     cases g2
 ·have hge:=of_decide_eq_false hge
  rw [hN8 (by omega)]
  exact fun w3 hx3=>⟨rfl,(hM2.step hx3).close⟩
theorem RdG.locs {bs:List Nat} {w:World} {gs:List Grp} {ms:Nat->MG} {o:Option Addr} (h:RdG bs w o gs ms) {i:Int} (h0:0<=i) (h1:i<(gs.length:Int)):zaa bs w o (Int.toNat i*14+8+3) [.slice (ms i.toNat).lO (gi gs i).band.locals.length (ms i.toNat).lC]:=(h.cells i h0 h1).get 11 _ rfl
theorem RdG.quo {bs:List Nat} {w:World} {gs:List Grp} {ms:Nat->MG} {o:Option Addr} (h:RdG bs w o gs ms) {i:Int} (h0:0<=i) (h1:i<(gs.length:Int)):zaa bs w o (Int.toNat i*14+8+0) [.int .i64 (gi gs i).band.quota]:=(h.cells i h0 h1).get 8 _ rfl
def putM (m:MG) (p:MG):MG:=⟨p.lO,p.lC,p.dO,p.dC,m.sO,m.sC⟩
theorem znp {m p:MG}:∀x∈zam (putM m p),x∈zfc p\/x∈zam m:=fun x hx=>by
 simp only [zam,putM,zfc,List.mem_append] at hx ⊢
 rcases hx with (h | h) | h
 ·exact .inl (.inl h)
 ·exact .inl (.inr h)
 ·exact .inr (.inr h)
theorem MWd.putB {n:Nat} (h:MWd n base w W m) {i:Int} (h0:0<=i) (hi:i<(n:Int)) {b:Bnd} {p:MG} (hb:zdl base w b p) (hn:∀x∈zfc p,x∉zbc n m) :
  MWd n base (sto w m.gO (Int.toNat i*14+8) (zdj b p)) (setBd W i b) (setM m i.toNat (putM (m.ms i.toNat) p)):=by
 have hm:=h.each h0 hi
 refine h.stoG h0 hi (g:={ gi W.groups i with band:=b }) (p:=putM (m.ms i.toNat) p) ⟨hb.loc,hb.dry,hm.shl⟩ (fun x hx => ?_) rfl (by simp [zdj])
 rcases znp x hx with h1 | h1
 ·exact .inl (hn x h1)
 ·exact .inr h1
set_option maxHeartbeats 1000000 in
theorem z3p {F K:Int} (h:MWd 8 base w W m) (hsw:SF F K W) (hbase:base<=w.heap.size) :
  Calls Tryz.prog zky #[.agg (encW W m).toArray] w fun e w'=>∃m',e = .returned (.agg (encW W m).toArray)/\Mv 8 base [] w m w' (zop W) m':=by
 refine (z22 W.now m.cO W.cpus.length m.cC m.tO W.tasks.length m.tC m.gO W.groups.length m.gC (R:=fun v w'=>∃m',v = .agg (encW W m).toArray/\Mv 8 base [] w m w' (zop W) m') ?_).mono fun e w' ⟨v,he,m',hv,h3⟩=>⟨m',by rw [he,hv],h3⟩
 intro x hx x1 hx1
 have hgl:=hsw.w.a.gl
 have hcl4:=hsw.w.a.c2
 have hnew:=zl9 hx hx1
 refine zik W.groups.length 0 rfl (fun k w2=>k<=8/\∃m2,Mv 8 base [x,x1] w m w2 (zdm W k) m2) (fun w2 hx2 _=>⟨by decide,m,(Mv.two h hx hx1).call0 hx2⟩) fun k w2 hs2 ⟨hk8,m2,hM2⟩ => ?_
 obtain ⟨hS2,hO2⟩:=zh9 hsw k hk8
 have hgl2:(zdm W k).groups.length=W.groups.length:=hO2.g.len
 have hcl2:(zdm W k).cpus.length=W.cpus.length:=by rw [hO2.c]
 have hdef:zdm W (k+1)=if (gi (zdm W k).groups (k:Int)).used=true/\(gi (zdm W k).groups (k:Int)).band.quota≠0 then zdk (zdm W k) (k:Int) (zdm W k).cpus.length else zdm W k:=rfl
 have hN8:k=8->zop W=zdm W k:=fun e=>by rw [e]; rfl
 generalize zdm W k=W2 at hM2 hS2 hO2 hgl2 hcl2 hdef hN8
 have hmg:m2.gO=m.gO:=by rw [hM2.hd]
 have hr:=hM2.rd
 refine ⟨fun hlt => ?_,fun hge => ?_⟩
 ·have hlt:=of_decide_eq_true hlt
  have hlt2:(k:Int)<(W2.groups.length:Int):=by omega
  have hix:Ix m.gO W.groups.length (k:Int):=by have:=hr.g.ix (i:=(k:Int)) (by omega) hlt2; rwa [hgl2,hmg] at this
  have hru:=hr.g.used (i:=(k:Int)) (by omega) hlt2
  have hrq:=hr.g.quo (i:=(k:Int)) (by omega) hlt2
  rw [hmg] at hru hrq
  refine ⟨hix,(gi W2.groups (k:Int)).used,hru,fun _=>hix,_,fun _=>hrq,fun g => ?_,fun g => ?_⟩
  ·refine ⟨⟨by omega,by omega⟩,fun w3 hx3 _=>zan (by omega) ⟨by omega,m2,?_⟩⟩
   rw [hdef,if_neg]
   ·exact hM2.step hx3
   ·rintro ⟨h1,h2⟩
    rw [h1] at g
    simp [h2] at g
  ·simp only [Bool.or_eq_false_iff,Bool.not_eq_false',beq_eq_false_iff_ne] at g
   have hu:zae W2.groups (k:Int)=true:=zac.2 ⟨by omega,hlt2,g.1⟩
   rw [if_pos ⟨g.1,g.2⟩] at hdef
   refine zik W.cpus.length 0 rfl (fun c w3=>c<=W.cpus.length/\∃m3,Mv 8 base [x,x1] w m w3 (zdk W2 (k:Int) c) m3) (fun w3 hx3 _=>⟨Nat.zero_le _,m2,hM2.step hx3⟩) fun c w3 hs3 ⟨hc,m3,hM3⟩ => ?_
   obtain ⟨hS3,hO3,hq3⟩:=zqs hS2 hu g.2 c (by omega)
   have hgl3:(zdk W2 (k:Int) c).groups.length=W.groups.length:=by rw [hO3.g.len,hgl2]
   have hcl3:(zdk W2 (k:Int) c).cpus.length=W.cpus.length:=by rw [hO3.c,hcl2]
   have hdef3:zdk W2 (k:Int) (c+1)=if gi (gi (zdk W2 (k:Int) c).groups (k:Int)).band.locals (c:Int)>0/\za5 (zdk W2 (k:Int) c) (k:Int) (c:Int)=false then setBd (zdk W2 (k:Int) c) (k:Int) (ze1 (gi (zdk W2 (k:Int) c).groups (k:Int)).band (c:Int)) else zdk W2 (k:Int) c:=rfl
   have hN3:c=W.cpus.length->zdm W (k+1)=zdk W2 (k:Int) c:=fun e=>by rw [hdef,hcl2,e]
   have e3:encW (zdk W2 (k:Int) c) m3=encW W m:=hM3.encW_eq (by rw [hO3.n,hO2.n]) hcl3 (by rw [hO3.t,hO2.t]) hgl3
   have hu3:zae (zdk W2 (k:Int) c).groups (k:Int)=true:=by rw [hO3.g.usd]; exact hu
   generalize zdk W2 (k:Int) c=W3 at hM3 hS3 hO3 hq3 hgl3 hcl3 hdef3 hN3 e3 hu3
   have hmg3:m3.gO=m.gO:=by rw [hM3.hd]
   have hr3:=hM3.rd
   refine ⟨fun hlt3 => ?_,fun hge3 => ?_⟩
   ·have hlt3:=of_decide_eq_true hlt3
    obtain ⟨u0,u1,hgu⟩:=hS3.w.a.u hu3
    obtain ⟨hb,hbl,_⟩:=hgu.band hq3
    have hklt:(k:Int)<(W3.groups.length:Int):=by omega
    have hrl:=hr3.g.locs (i:=(k:Int)) (by omega) hklt
    have hrb:=hr3.g.band (i:=(k:Int)) (by omega) hklt
    rw [hmg3] at hrl hrb
    have hLo:=hr3.g.locals (k:Int) (by omega) hklt
    have hDo:=hr3.g.dry (k:Int) (by omega) hklt
    have hact:=zj3 (g:=(k:Int)) (c:=(c:Int)) hr3 hS3.w.a (by omega) (by omega)
    rw [e3] at hact
    refine ⟨hix,_,_,_,hrl,hLo.ix zf2 (by omega) (by omega),_,hLo (c:Int) (by omega) (by omega),_,fun _=>hact,fun g3 => ?_,fun g3 => ?_⟩
    ·simp only [Bool.and_eq_true,decide_eq_true_eq,Bool.not_eq_true'] at g3
     rw [if_pos g3] at hdef3
     refine ⟨hix,_,_,_,_,_,_,_,_,_,hrb,fun wr3 hx3 hs4 => ?_⟩
     have hM4:=hM3.step hx3
     have hr4:=hM4.rd0
     refine Calls.mono (zjd (op:=⟨3,(c:Int),0⟩) hb (hr4.g.locals (k:Int) (by omega) hklt) (hr4.g.dry (k:Int) (by omega) hklt)) ?_
     rintro e wv2 ⟨p,he,hO,hy⟩
     have hbd:zdd (gi W3.groups (k:Int)).band ⟨3,(c:Int),0⟩=(ze1 (gi W3.groups (k:Int)).band (c:Int),0):=by
      unfold zdd
      rw [if_neg (show ¬(3:Int)=4 by decide),if_neg (by rw [za6.2 (by show 0<=(c:Int)/\(c:Int)<=_; omega)]; decide),if_neg (show ¬(3:Int)=1 by decide),if_neg (show ¬(3:Int)=2 by decide),if_pos rfl]
     rw [hbd] at he hO
     dsimp only at he hO
     have hM5:=hM4.call0 hy
     have hbs:base<=wr3.heap.size:=by have:=hM4.ext.size; omega
     have hOb:∀y∈zfc p,wr3.heap.size<=y:=fun y hy=>(hO.lt y hy).1
     have hput:=hM5.own.putB (i:=(k:Int)) (by omega) (by omega) (hO.mono hbs) (fun y hy hm=>by have:=hOb y hy; have:=(hM4.own.lt y hm).2; omega)
     have hwr:=wrG hM5.own hM5.nb (i:=(k:Int)) (by omega) (by omega) (j:=8) (k:=5) (by decide)
     have hsz:=hM4.ext.size
     have hM6:=hM5.swap hput subG rfl fun y hy=>by
      rcases znx y hy with h1 | h1
      ·exact .inl h1
      ·rcases znp y h1 with h2 | h2
       ·have:=hOb y h2
        exact .inr ⟨by omega,fun hm=>by have:=hs4 y hm; omega⟩
       ·exact .inl (zi7 (by omega) h2)
     rw [hmg3] at hwr hM6
     refine ⟨_,_,_,_,_,_,_,_,_,_,he,zaz hy hs4,fun b2 hb2=>⟨hix,hwr,⟨by omega,by omega⟩,fun w5 hx5 _=>zan (w1:=w3) (by omega) ⟨by omega,setM m3 (Int.toNat (k:Int)) (putM (m3.ms (Int.toNat (k:Int))) p),?_⟩⟩⟩
     rw [hdef3]
     exact hM6.step hx5
    ·refine ⟨⟨by omega,by omega⟩,fun w5 hx5 _=>zan (by omega) ⟨by omega,m3,?_⟩⟩
     rw [hdef3,if_neg]
     ·exact hM3.step hx5
     ·rintro ⟨h1,h2⟩
      rw [h2,decide_eq_true h1] at g3
      cases g3
   ·have hge3:=of_decide_eq_false hge3
    refine ⟨⟨by omega,by omega⟩,fun w5 hx5 _=>zan (by omega) ⟨by omega,m3,?_⟩⟩
    rw [hN3 (by omega)]
    exact hM3.step hx5
 ·have hge:=of_decide_eq_false hge
  rw [hN8 (by omega)]
  exact fun w3 hx3=>⟨m2,rfl,(hM2.step hx3).close⟩
end
section
variable {base:Nat} {W:Wld} {m:MW} {w:World}
theorem zqr {W W':Wld} (h:Fr W W'):W'.cpus.length=W.cpus.length/\W'.tasks.length=W.tasks.length/\W'.groups.length=W.groups.length:=⟨h.c,by rw [h.t],h.g.len⟩
theorem zab7 {n:Nat} {bs:List Nat} {w0 w:World} {W0 W:Wld} {m0 m:MW} (h:Mv n base bs w0 m0 w W m) (hf:Fr W0 W):encW W m=encW W0 m0:=h.encW_eq hf.n hf.c (by rw [hf.t]) hf.g.len
set_option maxHeartbeats 1000000 in
theorem zfl {K:Int} (h:MWd 8 base w W m) (hsw:SW K W) (hK0:0<=K) (hK:K<=100000000000000000) (hbase:base<=w.heap.size) :
  Calls Tryz.prog zc0 #[.agg (encW W m).toArray] w fun e w'=>∃m',e = .returned (.agg (encW (zah W) m').toArray)/\Mv 8 base [] w m w' (zah W) m':=by
 refine (zwr W.now m.cO W.cpus.length m.cC m.tO W.tasks.length m.tC m.gO W.groups.length m.gC (R:=fun v w'=>∃m',v = .agg (encW (zah W) m').toArray/\Mv 8 base [] w m w' (zah W) m') ?_).mono fun e w' ⟨v,he,m',hv,h3⟩=>⟨m',by rw [he,hv],h3⟩
 intro x hx x1 hx1
 have hgl:=hsw.a.gl
 have hcl4:=hsw.a.c2
 have hm9:=zcx
 refine ⟨fun vs w1=>∃(k:Nat),vs = .int .i64 (k:Int)::encW W m/\k<=W.cpus.length/\Mv 8 base [x,x1] w m w1 (zbq W k) m,zd5 W.cpus.length 0,fun w1 hx0 _=>⟨0,rfl,Nat.zero_le _,(Mv.two h hx hx1).call0 hx0⟩,?_⟩
 rintro c1 l l1O l1L l1C l2O l2L l2C l3O l3L l3C wv2 hs2 ⟨k,he,hk,hM⟩
 obtain ⟨hS,hO⟩:=zhe (F:=K) (K:=K+lagB) (hsw.sf.mono (Int.le_refl _) (by simp only [lagB]; omega)) (Int.le_refl _) k hk
 have hdef:zbq W (k+1)=zat (zbq W k) (k:Int):=rfl
 have hend:k=W.cpus.length->zbq W W.cpus.length=zbq W k:=fun e=>by rw [e]
 have e0:=zab7 hM hO.fr
 obtain ⟨n1,n2,n3⟩:=zqr hO.fr
 simp only [encW,List.cons.injEq,Value.int.injEq,Value.slice.injEq,true_and,and_true] at he
 obtain ⟨rfl,rfl,⟨rfl,rfl,rfl⟩,⟨rfl,rfl,rfl⟩,rfl,rfl,rfl⟩:=he
 generalize zbq W k=W1 at hM hS hO hdef hend e0 n1 n2 n3
 refine ⟨fun hlt wr3 hx3 hs3 => ?_,fun hge wr5 hx5 hs5 => ?_⟩
 ·have hlt:=of_decide_eq_true hlt
  have hM3:=hM.step hx3
  have hcall:=zo7 hM3.own hS (by omega) (by simp only [lagB]; omega) (c:=(k:Int)) (by omega) (by omega)
  rw [e0] at hcall
  refine Calls.mono hcall ?_
  rintro e wv3 ⟨he,hy⟩
  refine ⟨_,_,_,_,_,_,_,_,_,_,he,hM3.kept hy hs3,⟨by omega,by omega⟩,fun wr4 hx4 _=>⟨⟨k+1,rfl,by omega,?_⟩,?_⟩⟩
  ·rw [hdef]
   exact (hM3.call hy hs3).step hx4
  ·simp only [zd5,cntM,zef,List.getElem?_cons_zero]; omega
 ·have hge:=of_decide_eq_false hge
  have hkk:k=W.cpus.length:=by omega
  have hend:=hend hkk
  have hM5:=hM.step hx5
  have hb5:base<=wr5.heap.size:=by have:=hM5.ext.size; omega
  have hcall:=z3p hM5.own hS hb5
  rw [e0] at hcall
  refine Calls.mono hcall ?_
  rintro e2 wv4 ⟨m4,he2,hy2⟩
  obtain ⟨hS4,hO4⟩:=zh9 hS 8 (by decide)
  have hM6:=hM5.call hy2 hs5
  have hset:zah W=zeo (zop W1) W.cpus.length:=by unfold zah; rw [hend]
  have hf4:Fr W (zop W1):=hO.fr.trans hO4.fr
  have hS4':SW (K+lagB) (zop W1):=hS4.w
  have hlen4:=zqr hf4
  generalize zop W1=W4 at hM6 hset hf4 hS4' hlen4
  refine ⟨_,_,_,_,_,_,_,_,_,_,he2,hM5.kept hy2 hs5,fun vs w1=>∃(k:Nat) (m1:MW),vs = .int .i64 (k:Int)::encW W m/\k<=W.cpus.length/\Mv 8 base [x,x1] w m w1 (zeo W4 k) m1,zd5 W.cpus.length 0,fun w1 hx0 _=>⟨0,m4,rfl,Nat.zero_le _,hM6.step hx0⟩,?_⟩
  rintro c3 l l1O l1L l1C l2O l2L l2C l3O l3L l3C wv7 hs7 ⟨k,m7,he,hk,hM7⟩
  obtain ⟨hS7,hf7⟩:=zl7 hS4' (by simp only [lagB]; omega) k (by omega)
  have hdef7:zeo W4 (k+1)=zhl (zeo W4 k) (k:Int):=rfl
  have hend7:k=W.cpus.length->zah W=zeo W4 k:=fun e=>by rw [hset,e]
  have hfW:=hf4.trans hf7
  have e7:=zab7 hM7 hfW
  obtain ⟨q1,q2,q3⟩:=zqr hfW
  simp only [encW,List.cons.injEq,Value.int.injEq,Value.slice.injEq,true_and,and_true] at he
  obtain ⟨rfl,rfl,⟨rfl,rfl,rfl⟩,⟨rfl,rfl,rfl⟩,rfl,rfl,rfl⟩:=he
  generalize zeo W4 k=W7 at hM7 hS7 hf7 hdef7 hend7 hfW e7 q1 q2 q3
  refine ⟨fun hlt wr9 hx9 hs9 => ?_,fun hge => ?_⟩
  ·have hlt:=of_decide_eq_true hlt
   have hM9:=hM7.step hx9
   have hk4:(k:Int)<=4:=by omega
   have hKb:K+lagB+(k:Int)*lagB+lagB<=1000000000000000000:=by simp only [lagB]; omega
   have c1':(k:Int)<(W7.cpus.length:Int):=by omega
   have hSF:=hS7.sf.mono (F':=K+lagB+(k:Int)*lagB) (K':=K+lagB+(k:Int)*lagB+lagB) (Int.le_refl _) (by simp only [lagB]; omega)
   have hcall:=zo7 hM9.own hSF (Int.le_refl _) hKb (c:=(k:Int)) (by omega) c1'
   rw [e7] at hcall
   refine Calls.mono hcall ?_
   rintro e4 wv8 ⟨he4,hy4⟩
   obtain ⟨hS8,hO8⟩:=zq2 hSF (Int.le_refl _) (c:=(k:Int)) (by omega) c1'
   have hM8:=hM9.call hy4 hs9
   refine ⟨_,_,_,_,_,_,_,_,_,_,he4,hM9.kept hy4 hs9,fun wr10 hx10 hs10 => ?_⟩
   have hM10:=hM8.step hx10
   have hstep:zhl W7 (k:Int)=if zoq (za7 (zat W7 (k:Int)) (k:Int)) (k:Int)=true then endW (za7 (zat W7 (k:Int)) (k:Int)) (k:Int) else za7 (zat W7 (k:Int)) (k:Int):=rfl
   have c2':(k:Int)<((zat W7 (k:Int)).cpus.length:Int):=by rw [hO8.c]; exact c1'
   have hcall5:=zxe hM10.own hS8.w (by simp only [lagB]; omega) (c:=(k:Int)) (by omega) c2'
   rw [zir hO8.fr,e7] at hcall5
   obtain ⟨hS11,hO11⟩:=zjp hS8.w (by simp only [lagB]; omega) (c:=(k:Int)) (by omega) c2' 8 (by decide)
   refine Calls.mono hcall5 ?_
   rintro e5 wv9 ⟨he5,hy5⟩
   have hM11:=hM10.call hy5 hs10
   have hK11:=hM10.kept hy5 hs10
   have hf11:Fr W (za7 (zat W7 (k:Int)) (k:Int)):=(hfW.trans hO8.fr).trans hO11.fr
   have hS11':SW (K+lagB+(k:Int)*lagB+lagB) (za7 (zat W7 (k:Int)) (k:Int)):=hS11
   generalize za7 (zat W7 (k:Int)) (k:Int)=W11 at hM11 hf11 hS11' hstep
   have e11:=zab7 hM11 hf11
   have hm11:m7.cO=m.cO/\m7.tO=m.tO:=by rw [hM7.hd]; exact ⟨rfl,rfl⟩
   obtain ⟨r1,r2,r3⟩:=zqr hf11
   have hr:=hM11.rd
   have c3':(k:Int)<(W11.cpus.length:Int):=by omega
   have hcur:=hS11'.cu (k:Int) (by omega) c3'
   have htl:=hS11'.a.t
   have hixC:=hr.c.ix zeg (i:=(k:Int)) (by omega) c3'
   have hrC:=hr.c.f (i:=(k:Int)) (by omega) c3' (j:=1) rfl
   have hT:(decide ((gi W11.cpus (k:Int)).cur>=0))=true->0<=(gi W11.cpus (k:Int)).cur/\(gi W11.cpus (k:Int)).cur<(W11.tasks.length:Int):=fun g=>by
    have:=of_decide_eq_true g
    exact ⟨this,by omega⟩
   have hline:∀g:(decide ((gi W11.cpus (k:Int)).cur>=0))=true,zad [x,x1] Tryz.prog zev #[.agg (encW W m).toArray,.int .i64 (gi W11.cpus (k:Int)).cur] wv9 (.bool (ze3 W11 (gi W11.cpus (k:Int)).cur)):=fun g=>by
    have:=znf hr hS11'.a (hT g).1 (hT g).2 (fun hs=>hS11'.li (hT g).1 (hT g).2 hs)
    rwa [e11] at this
   rw [r1,hm11.1] at hixC
   rw [hm11.1] at hrC
   refine ⟨_,_,_,_,_,_,_,_,_,_,he5,hK11,hixC,_,hrC,fun g => ?_,(tkk W11 (gi W11.cpus (k:Int)).cur).cpu,fun g => ?_,ze3 W11 (gi W11.cpus (k:Int)).cur,fun _ g=>hline g,fun g wr11 hx11 hs11 => ?_,fun g => ?_⟩
   ·have:=hr.t.ix zce (hT g).1 (hT g).2
    rwa [r2,hm11.2] at this
   ·have:=hr.t.f (hT g).1 (hT g).2 (j:=2) rfl
    rwa [hm11.2] at this
   ·have hM12:=hM11.step hx11
    have hcall6:=zgo hM12.own (c:=(k:Int)) (by omega) c3'
    rw [e11] at hcall6
    refine Calls.mono hcall6 ?_
    rintro e6 wv10 ⟨he6,hy6⟩
    have e12:=zir (m:=m7) (z5r W11 (k:Int))
    rw [e11] at e12
    rw [e12] at he6
    refine ⟨_,_,_,_,_,_,_,_,_,_,he6,hM12.kept hy6 hs11,⟨by omega,by omega⟩,fun wr12 hx12 _=>⟨⟨k+1,m7,rfl,by omega,?_⟩,?_⟩⟩
    ·rw [hdef7,hstep,if_pos (by unfold zoq; exact g)]
     exact (hM12.call hy6 hs11).step hx12
    ·simp only [zd5,cntM,zef,List.getElem?_cons_zero]; omega
   ·refine ⟨⟨by omega,by omega⟩,fun wr12 hx12 _=>⟨⟨k+1,m7,rfl,by omega,?_⟩,?_⟩⟩
    ·rw [hdef7,hstep,if_neg (by unfold zoq; rw [g]; decide)]
     exact hM11.step hx12
    ·simp only [zd5,cntM,zef,List.getElem?_cons_zero]; omega
  ·have hge:=of_decide_eq_false hge
   have hend7:=hend7 (by omega)
   rw [hend7]
   refine fun w9 hx9=>⟨m7,?_,(hM7.step hx9).close⟩
   rw [e7]; rfl
end
theorem zcm {n:Int} {w:World} {bs:List Nat}:zad bs Tryz.prog zbt #[.int .i64 n] w (.bool (decide (n<=zbr))):=z4k n fun wr hx=>rfl
section
variable {W:Wld} {m:MW} {w:World} {bs:List Nat}
theorem zmg (h:RdW bs w W m) (hl:LenW W):zad bs Tryz.prog zft #[.agg (encW W m).toArray] w (.bool (decB (WldP W/\zu3 W))):=
 zuk W.now m.cO W.cpus.length m.cC m.tO W.tasks.length m.tC m.gO W.groups.length m.gC fun wr hx=>by
  have h:=(h.ext hx).less (cs:=[]) (by simp)
  intro x hx
  refine ⟨_,zk5 h hl.c hl.t hl.g hl.f,_,fun _=>zcm,fun g=>noP ?_,fun g => ?_⟩
  ·rintro ⟨wp,r⟩
   rw [show zbi W=true from zbp.2 wp,show decide (W.now<=zbr)=true from decide_eq_true r.n] at g
   cases g
  ·simp only [Bool.or_eq_false_iff,Bool.not_eq_false'] at g
   have wp:WldP W:=zbp.1 g.1
   have hnow:=of_decide_eq_true g.2
   have hgl:=wp.a.gl
   have htl:=wp.a.t
   have hcl:=wp.a.c2
   refine zgs W.cpus.length 0 rfl (fun k=>k<=W.cpus.length/\∀c:Int,0<=c->c<(k:Int)->(gi W.cpus c).busy<=zbr/\(gi W.cpus c).idle<=zbr) ⟨Nat.zero_le _,fun c a b=>by omega⟩ fun k ⟨hk,hI⟩=>⟨fun hlt => ?_,fun hge => ?_⟩
   ·have hlt:=of_decide_eq_true hlt
    refine ⟨h.c.ix zeg (by omega) hlt,_,h.c.f (by omega) hlt (j:=3) rfl,_,zcm,fun _=>h.c.ix zeg (by omega) hlt,_,fun _=>h.c.f (by omega) hlt (j:=4) rfl,_,fun _=>zcm,fun g2=>noP ?_,fun g2=>⟨⟨by omega,by omega⟩,zar (by omega) ⟨by omega,fun c a b => ?_⟩⟩⟩
    ·rintro ⟨_,r⟩
     have:=r.c (k:Int) (by omega) hlt
     rw [decide_eq_true this.1,decide_eq_true this.2] at g2
     cases g2
    ·by_cases e:c=(k:Int)
     ·subst e
      simp only [Bool.or_eq_false_iff,Bool.not_eq_false'] at g2
      exact ⟨of_decide_eq_true g2.1,of_decide_eq_true g2.2⟩
     ·exact hI c a (by omega)
   have hge:=of_decide_eq_false hge
   have hC:∀c:Int,0<=c->c<(W.cpus.length:Int)->(gi W.cpus c).busy<=zbr/\(gi W.cpus c).idle<=zbr:=fun c a b=>hI c a (by omega)
   clear hI
   refine zgs W.tasks.length 0 rfl (fun k=>k<=W.tasks.length/\∀t:Int,0<=t->t<(k:Int)->(gi W.tasks t).v<=zbr/\(gi W.tasks t).sum<=zbr/\(gi W.tasks t).used<=zbr) ⟨Nat.zero_le _,fun c a b=>by omega⟩ fun k ⟨hk,hI⟩=>⟨fun hlt => ?_,fun hge => ?_⟩
   ·have hlt:=of_decide_eq_true hlt
    have hix:=h.t.ix zce (i:=(k:Int)) (by omega) hlt
    refine ⟨hix,_,h.t.f (by omega) hlt (j:=5) rfl,_,zcm,fun _=>hix,_,fun _=>h.t.f (by omega) hlt (j:=6) rfl,_,fun _=>zcm,fun _=>hix,_,fun _=>h.t.f (by omega) hlt (j:=7) rfl,_,fun _=>zcm,fun g2=>noP ?_,fun g2=>⟨⟨by omega,by omega⟩,zar (by omega) ⟨by omega,fun c a b => ?_⟩⟩⟩
    ·rintro ⟨_,r⟩
     have:=r.t (k:Int) (by omega) hlt
     rw [decide_eq_true this.1,decide_eq_true this.2.1,decide_eq_true this.2.2] at g2
     cases g2
    ·by_cases e:c=(k:Int)
     ·subst e
      simp only [Bool.or_eq_false_iff,Bool.not_eq_false'] at g2
      exact ⟨of_decide_eq_true g2.1.1,of_decide_eq_true g2.1.2,of_decide_eq_true g2.2⟩
     ·exact hI c a (by omega)
   have hge:=of_decide_eq_false hge
   have hT:∀t:Int,0<=t->t<(W.tasks.length:Int)->(gi W.tasks t).v<=zbr/\(gi W.tasks t).sum<=zbr/\(gi W.tasks t).used<=zbr:=fun c a b=>hI c a (by omega)
   clear hI
   refine zgs W.groups.length 0 rfl (fun k=>k<=W.groups.length/\∀j:Int,0<=j->j<(k:Int)->(gi W.groups j).sum<=zbr/\∀c:Int,0<=c->c<((gi W.groups j).shelves.length:Int)->(shf W j c).floor<=zbr/\(shf W j c).v<=zbr/\(shf W j c).sum<=zbr) ⟨Nat.zero_le _,fun c a b=>by omega⟩ fun k ⟨hk,hI⟩=>⟨fun hlt => ?_,fun hge => ?_⟩
   ·have hlt:=of_decide_eq_true hlt
    have hix:=h.g.ix (i:=(k:Int)) (by omega) hlt
    have hsl:(gi W.groups (k:Int)).shelves.length<=4:=by
     have:=wp.a.grp (k:Int) (by omega) (by omega)
     cases hu:(gi W.groups (k:Int)).used with
     | true=>have:=(this.2 hu).len; omega
     | false=>have:=(this.1 hu).l; omega
    refine ⟨hix,_,(h.g.cells (k:Int) (by omega) hlt).get 7 _ rfl,_,zcm,fun g2=>noP ?_,fun g2 => ?_⟩
    ·rintro ⟨_,r⟩
     have:=r.g (k:Int) (by omega) hlt
     rw [decide_eq_true this] at g2
     cases g2
    have g2:(gi W.groups (k:Int)).sum<=zbr:=by simpa using g2
    have hrs:=h.g.shelves (k:Int) (by omega) hlt
    refine zgs (gi W.groups (k:Int)).shelves.length 0 rfl (fun q=>q<=(gi W.groups (k:Int)).shelves.length/\∀c:Int,0<=c->c<(q:Int)->(shf W (k:Int) c).floor<=zbr/\(shf W (k:Int) c).v<=zbr/\(shf W (k:Int) c).sum<=zbr) ⟨Nat.zero_le _,fun c a b=>by omega⟩ fun q ⟨hq,hJ⟩=>⟨hix,_,_,_,h.g.shelf (by omega) hlt,fun hlt2 => ?_,fun hge2 => ?_⟩
    ·have hlt2:=of_decide_eq_true hlt2
     refine ⟨hix,_,_,_,h.g.shelf (by omega) hlt,hrs.ix ze4 (by omega) hlt2,_,_,_,_,_,hrs (q:Int) (by omega) hlt2,fun b1 hb1=>⟨_,zcm,_,fun _=>zcm,_,fun _=>zcm,fun g3=>noP ?_,fun g3=>⟨⟨by omega,by omega⟩,zar (by omega) ⟨by omega,fun c a b => ?_⟩⟩⟩⟩
     ·rintro ⟨_,r⟩
      have:=r.s (k:Int) (q:Int) (by omega) hlt (by omega) hlt2
      unfold shf at this
      rw [decide_eq_true this.1,decide_eq_true this.2.1,decide_eq_true this.2.2] at g3
      cases g3
     ·by_cases e:c=(q:Int)
      ·subst e
       simp only [Bool.or_eq_false_iff,Bool.not_eq_false'] at g3
       exact ⟨of_decide_eq_true g3.1.1,of_decide_eq_true g3.1.2,of_decide_eq_true g3.2⟩
      ·exact hJ c a (by omega)
    ·have hge2:=of_decide_eq_false hge2
     refine ⟨⟨by omega,by omega⟩,zar (by omega) ⟨by omega,fun j a b => ?_⟩⟩
     by_cases e:j=(k:Int)
     ·subst e
      exact ⟨g2,fun c a b=>hJ c a (by omega)⟩
     ·exact hI j a (by omega)
   ·have hge:=of_decide_eq_false hge
    exact yesP ⟨wp,⟨hnow,hC,hT,fun j a b=>(hI j a (by omega)).1,fun j c a b c0 c1=>(hI j a (by omega)).2 c c0 c1⟩⟩
end
structure ObG (base:Nat) (bs:List Nat) (w:World) (o:Option Addr) (cap:Nat) (ps:List (Grp×MG)):Prop where
 own:OwnG base w o cap ps
 nb:∀x∈za9 o,x∉bs
 nm:∀i:Int,0<=i->i<(ps.length:Int)->∀x∈zam (gi ps i).2,x∉bs
section
variable {base:Nat} {bs cs:List Nat} {w w':World} {o:Option Addr} {cap:Nat} {ps:List (Grp×MG)} {b:Nat}
theorem ObG.lt (h:ObG base bs w o cap ps):(∀x∈za9 o,base<=x/\x<w.heap.size)/\∀i:Int,0<=i->i<(ps.length:Int)->∀x∈zam (gi ps i).2,base<=x/\x<w.heap.size:=⟨h.own.row.lt,fun i a b=>(h.own.each i a b).lt⟩
theorem ObG.ext (h:ObG base bs w o cap ps) (hx:ExtX cs w w') (h1:∀x∈za9 o,x∉cs) (h2:∀i:Int,0<=i->i<(ps.length:Int)->∀x∈zam (gi ps i).2,x∉cs):ObG base bs w' o cap ps:=
 ⟨⟨h.own.row.ext hx h1,fun i a b=>(h.own.each i a b).ext hx (h2 i a b),h.own.dj⟩,h.nb,h.nm⟩
theorem ObG.step (h:ObG base bs w o cap ps) (hx:ExtX bs w w'):ObG base bs w' o cap ps:=h.ext hx h.nb h.nm
theorem ObG.call0 (h:ObG base bs w o cap ps) (hx:ExtX [] w w'):ObG base bs w' o cap ps:=h.ext hx (by simp) (by simp)
theorem ObG.add (h:ObG base bs w o cap ps) (hb:w.heap.size<=b):ObG base (bs++[b]) w o cap ps:=
 have key:∀x,x<w.heap.size->x∉bs->x∉bs++[b]:=fun x hl hx hm=>by
  rcases List.mem_append.1 hm with hm | hm
  ·exact hx hm
  ·have:x=b:=by simpa using hm
   omega
 ⟨h.own,fun x hx=>key x (h.lt.1 x hx).2 (h.nb x hx),fun i a c x hx=>key x (h.lt.2 i a c x hx).2 (h.nm i a c x hx)⟩
theorem ObG.put (h:ObG base bs w o cap ps) (hx:ExtX bs w w') (hb:w.heap.size<=b):ObG base (bs++[b]) w' o cap ps:=⟨(h.step hx).own,(h.add hb).nb,(h.add hb).nm⟩
theorem ObG.sub (h:ObG base bs w o cap ps) (hs:∀x∈cs,x∈bs):ObG base cs w o cap ps:=⟨h.own,fun x hx hm=>h.nb x hx (hs x hm),fun i a c x hx hm=>h.nm i a c x hx (hs x hm)⟩
theorem ObG.nil (base:Nat) (bs:List Nat) (w:World):ObG base bs w none 0 []:=⟨⟨.inl ⟨rfl,rfl,rfl⟩,fun i a b=>by simp at b; omega,fun i j a b=>by simp at b; omega⟩,by simp [za9],fun i a b=>by simp at b; omega⟩
theorem zajt {α:Type} [Inhabited α] {l:List α} {x:α} {i:Int} (h0:0<=i) (h1:i<(l.length:Int)):gi (l++[x]) i=gi l i:=by
 obtain ⟨k,rfl⟩:=Int.eq_ofNat_of_zero_le h0
 rw [zkd (by simp; omega),zkd (by omega),List.getElem_append_left]
theorem zah3 {α:Type} [Inhabited α] {l:List α} {x:α}:gi (l++[x]) (l.length:Int)=x:=by
 rw [zkd (by simp)]; simp
theorem ObG.app1 {p:Grp×MG} {t':TypeId} {fz:Nat×Nat} (h:ObG base bs w o cap ps) (hs:∀x∈bs,x<w.heap.size) (hbase:base<=w.heap.size) (hp:OwnM base w p) (hpb:∀x∈zam p.2,x∉bs) (hd:∀i:Int,0<=i->i<(ps.length:Int)->∀x∈zam (gi ps i).2,x∉zam p.2)
  (hb:w.heap[b]? = some (.cells (encP p).toArray t' fz)) (h1:zbd (encP p)=true) (hl:ps.length<=1048576) (tr:TypeId) (cs:Array Bool) :
  ∃o' cap' w',(builtin .append #[zal,zal] tr cs #[.slice o ps.length cap,.slice (some ⟨b,0,none⟩) 1 1]).run Tryz.prog w = .ok (.value (.slice o' (ps++[p]).length cap')) w'/\Kept bs w w'/\ObG base bs w' o' cap' (ps++[p])/\ExtX (za9 o) w w':=by
 obtain ⟨o2,c2,w2,hrun,hk,hO,hx⟩:=Ob.app1 zc1 zkb (⟨h.own.row,h.nb⟩:Ob encP 14 zaw base bs w o cap ps) hs hbase hb h1 hl (by decide) tr cs
 have hlen:(ps++[p]).length=ps.length+1:=by simp
 have hcase:∀i:Int,0<=i->i<((ps++[p]).length:Int)->(i<(ps.length:Int)/\gi (ps++[p]) i=gi ps i)\/(i=(ps.length:Int)/\gi (ps++[p]) i=p):=fun i a b=>by
  by_cases e:i<(ps.length:Int)
  ·exact .inl ⟨e,zajt a e⟩
  ·have:i=(ps.length:Int):=by omega
   subst this
   exact .inr ⟨rfl,zah3⟩
 refine ⟨o2,c2,w2,hrun,hk,⟨⟨hO.own,fun i a b => ?_,fun i j a b c d e => ?_⟩,hO.nb,fun i a b => ?_⟩,hx⟩
 ·rcases hcase i a b with ⟨hi,hg⟩ | ⟨hi,hg⟩
  ·rw [hg]; exact (h.own.each i a hi).ext hx (zfm h.own.row (h.own.each i a hi))
  ·rw [hg]; exact hp.ext hx (zfm h.own.row hp)
 ·rcases hcase i a b with ⟨hi,hg⟩ | ⟨hi,hg⟩ <;> rcases hcase j c d with ⟨hj,hg'⟩ | ⟨hj,hg'⟩
  ·rw [hg,hg']; exact h.own.dj i j a hi c hj e
  ·rw [hg,hg']; exact hd i a hi
  ·rw [hg,hg']; exact fun x hx hm=>hd j c hj x hm hx
  ·omega
 ·rcases hcase i a b with ⟨hi,hg⟩ | ⟨hi,hg⟩
  ·rw [hg]; exact h.nm i a hi
  ·rw [hg]; exact hpb
end
theorem oneG (g:Grp) (m:MG):zbd (encG g m)=true:=rfl
theorem zqe {W:Wld} (ha:WA W) {k:Int} (k0:0<=k) (k1:k<8):(gi W.groups k).band.dry.length=(gi W.groups k).band.locals.length/\(gi W.groups k).band.locals.length<=4/\(gi W.groups k).shelves.length<=4:=by
 have hg:=ha.grp k k0 k1
 have hc:=ha.c2
 cases hu:(gi W.groups k).used with
 | false=>
  have:=hg.1 hu
  have hb:=zq8 this.b
  have:=this.l
  omega
 | true=>
  have:=hg.2 hu
  have hl:=this.len
  by_cases hq:(gi W.groups k).band.quota=0
  ·have hb:=zq8 (this.none hq).1
   omega
  ·have hb:=(this.band hq).1
   have h1:=hb.dl
   have h2:=hb.l2
   omega
section
variable {W:Wld} {m:MW} {w:World} {bs:List Nat}
def psOf (W:Wld) (ms:Nat->MG) (k:Nat):List (Grp×MG):=(List.range k).map fun (j:Nat)=>(gi W.groups (j:Int),ms j)
theorem zd0 (W:Wld) (ms:Nat->MG) (k:Nat):(psOf W ms k).length=k:=by simp [psOf]
theorem zss {W:Wld} {ms:Nat->MG} {k:Nat} {i:Int} (h0:0<=i) (h1:i<(k:Int)):gi (psOf W ms k) i=(gi W.groups i,ms i.toNat):=by
 obtain ⟨j,rfl⟩:=Int.eq_ofNat_of_zero_le h0
 rw [zkd (by rw [zd0]; omega)]
 simp [psOf]
theorem zadf (W:Wld) (ms:Nat->MG) (k:Nat) (p:MG):psOf W (fun j=>if j=k then p else ms j) (k+1)=psOf W ms k++[(gi W.groups (k:Int),p)]:=by
 unfold psOf
 rw [List.range_succ,List.map_append]
 congr 1
 ·refine List.map_congr_left fun j hj => ?_
  have:=List.mem_range.1 hj
  show (_,if j=k then p else ms j)=_
  rw [if_neg (by omega)]
 ·simp
set_option maxHeartbeats 1000000 in
theorem ztg (h:RdW [] w W m) (ha:WA W) :
  Calls Tryz.prog zjb #[.agg (encW W m).toArray] w fun e w'=>∃m',e = .returned (.agg (encW W m').toArray)/\MWd 8 w.heap.size w' W m'/\ExtX [] w w':=by
 refine (z5l W.now m.cO W.cpus.length m.cC m.tO W.tasks.length m.tC m.gO W.groups.length m.gC (R:=fun v w'=>∃m',v = .agg (encW W m').toArray/\MWd 8 w.heap.size w' W m'/\ExtX [] w w') ?_).mono fun e w' ⟨v,he,m',hv,h3⟩=>⟨m',by rw [he,hv],h3⟩
 have hcl:=ha.c2
 have htl:=ha.t
 have hgl:=ha.gl
 intro x hx x1 hx1 x2 hx2
 have s0:Sc w [x,x1,x2] w:=(((Sc.start w).add hx).add hx1).add hx2
 refine ⟨fun vs w1=>∃(i:Nat) (cO:Option Addr) (cC:Nat),vs=[.int .i64 (i:Int),.int .i64 W.now,.slice cO (W.cpus.take i).length cC,.slice none 0 0,.slice none 0 0]/\i<=W.cpus.length/\Sc w [x,x1,x2] w1/\Ob encC 5 zba w.heap.size [x,x1,x2] w1 cO cC (W.cpus.take i),
  zd5 W.cpus.length 0,fun wr hx _=>⟨0,none,0,by simp,Nat.zero_le _,s0.call0 hx,⟨.inl ⟨rfl,rfl,rfl⟩,by simp [za9]⟩⟩,?_⟩
 rintro c1 l l1O l1L l1C l2O l2L l2C l3O l3L l3C wv2 hs2 ⟨i,cO,cC,he,hi,s1,hC⟩
 simp only [List.cons.injEq,Value.int.injEq,Value.slice.injEq,true_and,and_true] at he
 obtain ⟨rfl,rfl,⟨rfl,rfl,rfl⟩,⟨rfl,rfl,rfl⟩,rfl,rfl,rfl⟩:=he
 refine ⟨fun hlt => ?_,fun hge => ?_⟩
 ·have hlt:=of_decide_eq_true hlt
  have hr:=h.c.scb s1
  refine ⟨hr.ix zeg (by omega) hlt,_,_,_,_,_,hr i (by omega) hlt,fun b4 hb4=>⟨rfl,fun wr3 hx3 hs3 hcell => ?_⟩⟩
  have s2:=s1.put hx3 hb4
  have hC2:=hC.put hx3 hb4
  obtain ⟨o2,c2,w2,hrun,hk2,hC3,hy2⟩:=hC2.app1 zsd zma (x:=gi W.cpus (i:Int)) hs3 s2.ext.size hcell (oneC _) (by rw [List.length_take]; omega) (by decide) zbf #[false,false]
  rw [zro (by omega)] at hrun hC3
  have s3:=s2.call hy2 fun y hm=>(hC2.own.lt y hm).1
  refine ⟨_,_,_,w2,hrun,hk2,⟨by omega,by omega⟩,fun w5 hx5 _=>⟨⟨i+1,o2,c2,rfl,by omega,(s3.step hx5).sub (by simp),(hC3.step hx5).sub (by simp)⟩,?_⟩⟩
  simp only [zd5,cntM,zef,List.getElem?_cons_zero]; omega
 have hge:=of_decide_eq_false hge
 rw [show W.cpus.take i=W.cpus from List.take_of_length_le (by omega)] at hC ⊢
 refine ⟨fun vs w1=>∃(i:Nat) (tO:Option Addr) (tC:Nat),vs=[.int .i64 (i:Int),.int .i64 W.now,.slice l1O W.cpus.length l1C,.slice tO (W.tasks.take i).length tC,.slice none 0 0]/\i<=W.tasks.length/\Sc w [x,x1,x2] w1/\Ob encC 5 zba w.heap.size [x,x1,x2] w1 l1O l1C W.cpus/\Ob encT 9 zau w.heap.size [x,x1,x2] w1 tO tC (W.tasks.take i),
  zd5 W.tasks.length 0,fun wr hx _=>⟨0,none,0,by simp,Nat.zero_le _,s1.step hx,hC.step hx,⟨.inl ⟨rfl,rfl,rfl⟩,by simp [za9]⟩⟩,?_⟩
 clear hC s1 hi hge hs2
 rintro t1 l4 l5O l5L l5C l6O l6L l6C l7O l7L l7C wv6 hs6 ⟨i,tO,tC,he,hi,s1,hC,hT⟩
 simp only [List.cons.injEq,Value.int.injEq,Value.slice.injEq,true_and,and_true] at he
 obtain ⟨rfl,rfl,⟨rfl,rfl,rfl⟩,⟨rfl,rfl,rfl⟩,rfl,rfl,rfl⟩:=he
 refine ⟨fun hlt => ?_,fun hge => ?_⟩
 ·have hlt:=of_decide_eq_true hlt
  have hr:=h.t.scb s1
  refine ⟨hr.ix zce (by omega) hlt,_,_,_,_,_,_,_,_,_,hr i (by omega) hlt,fun b4 hb4=>⟨rfl,fun wr3 hx3 hs3 hcell => ?_⟩⟩
  have s2:=s1.put hx3 hb4
  have hC2:=hC.put hx3 hb4
  have hT2:=hT.put hx3 hb4
  obtain ⟨o2,c2,w2,hrun,hk2,hT3,hy2⟩:=hT2.app1 zlr zla (x:=gi W.tasks (i:Int)) hs3 s2.ext.size hcell (oneT _) (by rw [List.length_take]; omega) (by decide) za2 #[false,false]
  rw [zro (by omega)] at hrun hT3
  have s3:=s2.call hy2 fun y hm=>(hT2.own.lt y hm).1
  have hC3:=hC2.call hy2 (hC2.own.ty_ne hT2.own (by decide))
  refine ⟨_,_,_,w2,hrun,hk2,⟨by omega,by omega⟩,fun w5 hx5 _=>⟨⟨i+1,o2,c2,rfl,by omega,(s3.step hx5).sub (by simp),(hC3.step hx5).sub (by simp),(hT3.step hx5).sub (by simp)⟩,?_⟩⟩
  simp only [zd5,cntM,zef,List.getElem?_cons_zero]; omega
 have hge:=of_decide_eq_false hge
 rw [show W.tasks.take i=W.tasks from List.take_of_length_le (by omega)] at hT ⊢
 refine ⟨fun vs w1=>∃(i:Nat) (gO:Option Addr) (gC:Nat) (ms:Nat->MG),vs=[.int .i64 (i:Int),.int .i64 W.now,.slice l5O W.cpus.length l5C,.slice l6O W.tasks.length l6C,.slice gO (psOf W ms i).length gC]/\i<=W.groups.length/\Sc w [x,x1,x2] w1/\Ob encC 5 zba w.heap.size [x,x1,x2] w1 l5O l5C W.cpus/\Ob encT 9 zau w.heap.size [x,x1,x2] w1 l6O l6C W.tasks/\ObG w.heap.size [x,x1,x2] w1 gO gC (psOf W ms i),
  zd5 W.groups.length 0,fun wr hx _=>⟨0,none,0,fun _=>default,by simp [psOf],Nat.zero_le _,s1.step hx,hC.step hx,hT.step hx,ObG.nil _ _ _⟩,?_⟩
 clear hC hT s1 hi hge hs6
 rintro k1 l22 l23O l23L l23C l24O l24L l24C l25O l25L l25C wv15 hs15 ⟨i,gO,gC,ms,he,hi,s1,hC,hT,hG⟩
 simp only [List.cons.injEq,Value.int.injEq,Value.slice.injEq,true_and,and_true] at he
 obtain ⟨rfl,rfl,⟨rfl,rfl,rfl⟩,⟨rfl,rfl,rfl⟩,rfl,rfl,rfl⟩:=he
 refine ⟨fun hlt => ?_,fun hge => ?_⟩
 ·have hlt:=of_decide_eq_true hlt
  have hr:=h.g.ext s1.ext
  have hrb:RdG [x,x1,x2] wv15 m.gO W.groups m.ms:=(h.g.wide (cs:=[x,x1,x2]) fun y hm=>.inr (s1.new y hm)).ext s1.ext.of_nil
  have hix:=hrb.ix (i:=(i:Int)) (by omega) hlt
  obtain ⟨bl1,bl2,bl3⟩:=zqe ha (k:=(i:Int)) (by omega) (by omega)
  refine ⟨hix,_,_,_,_,_,_,_,_,_,_,_,_,_,_,_,_,_,_,_,_,hrb.cells (i:Int) (by omega) hlt,fun b11 hb11=>⟨hix,_,_,_,_,_,_,_,_,_,hrb.band (by omega) hlt,fun wr19 hx19 hs19 => ?_⟩⟩
  have s2:=s1.put hx19 hb11
  have hC2:=hC.put hx19 hb11
  have hT2:=hT.put hx19 hb11
  have hG2:=hG.put hx19 hb11
  have hr2:=h.g.ext s2.ext
  refine Calls.mono (ztd (hr2.locals (i:Int) (by omega) hlt) (hr2.dry (i:Int) (by omega) hlt) bl1 (by omega)) ?_
  rintro e wv16 ⟨p,he,hB,hy⟩
  have s3:=s2.call0 hy
  have hC3:=hC2.call0 hy
  have hT3:=hT2.call0 hy
  have hG3:=hG2.call0 hy
  have hBn:∀y∈zfc p,wr19.heap.size<=y:=fun y hm=>(hB.lt y hm).1
  have hBb:∀y∈zfc p,y∉[x,x1,x2]++[b11]:=fun y hm hm'=>by
   have:=hBn y hm
   have:=hs19 y hm'
   omega
  refine ⟨_,_,_,_,_,_,_,_,_,he,zaz hy hs19,fun vs w1=>∃(c:Nat) (sO:Option Addr) (sC:Nat),vs=[.int .i64 (c:Int),.bool (gi W.groups (i:Int)).used,.int .i64 (gi W.groups (i:Int)).parent,.string (gi W.groups (i:Int)).name,.int .i64 (gi W.groups (i:Int)).weight,.int .i64 (gi W.groups (i:Int)).cpus,.int .i64 (gi W.groups (i:Int)).period,.int .i64 (gi W.groups (i:Int)).next,.int .i64 (gi W.groups (i:Int)).sum,.int .i64 (gi W.groups (i:Int)).band.quota,.int .i64 (gi W.groups (i:Int)).band.pool,.int .i64 (gi W.groups (i:Int)).band.spent,.slice p.lO (gi W.groups (i:Int)).band.locals.length p.lC,.slice p.dO (gi W.groups (i:Int)).band.dry.length p.dC,.slice sO ((gi W.groups (i:Int)).shelves.take c).length sC]/\c<=(gi W.groups (i:Int)).shelves.length/\Sc w ([x,x1,x2]++[b11]) w1/\wr19.heap.size<=w1.heap.size/\Ob encC 5 zba w.heap.size ([x,x1,x2]++[b11]) w1 l23O l23C W.cpus/\Ob encT 9 zau w.heap.size ([x,x1,x2]++[b11]) w1 l24O l24C W.tasks/\ObG w.heap.size ([x,x1,x2]++[b11]) w1 l25O l25C (psOf W ms i)/\zdl wr19.heap.size w1 (gi W.groups (i:Int)).band p/\Ob encS 5 zbv wr19.heap.size ([x,x1,x2]++[b11]) w1 sO sC ((gi W.groups (i:Int)).shelves.take c),
   zd5 (gi W.groups (i:Int)).shelves.length 0,fun wr hx _=>⟨0,none,0,by simp,Nat.zero_le _,s3.step hx,Nat.le_trans hy.size hx.size,hC3.step hx,hT3.step hx,hG3.step hx,hB.ext hx hBb,⟨.inl ⟨rfl,rfl,rfl⟩,by simp [za9]⟩⟩,?_⟩
  have hsz:w.heap.size<=wr19.heap.size:=s2.ext.size
  have hGlt:=hG2.lt
  clear hB s3 hC3 hT3 hG3 hC2 hT2
  rintro c4 l26 l27 l28 l29 l30 l31 l32 l33 l34 l35 l36 l37O l37L l37C l38O l38L l38C l39O l39L l39C wv17 hs17 ⟨c,sO,sC,he,hc,s4,hz4,hC4,hT4,hG4,hB4,hS4⟩
  simp only [List.cons.injEq,Value.int.injEq,Value.slice.injEq,Value.bool.injEq,Value.string.injEq,true_and,and_true] at he
  obtain ⟨rfl,rfl,rfl,rfl,rfl,rfl,rfl,rfl,rfl,rfl,rfl,rfl,⟨rfl,rfl,rfl⟩,⟨rfl,rfl,rfl⟩,rfl,rfl,rfl⟩:=he
  have hrb4:RdG ([x,x1,x2]++[b11]) wv17 m.gO W.groups m.ms:=(h.g.wide (cs:=[x,x1,x2]++[b11]) fun y hm=>.inr (s4.new y hm)).ext s4.ext.of_nil
  refine ⟨hix,_,_,_,hrb4.shelf (by omega) hlt,fun hlt2 => ?_,fun hge2 => ?_⟩
  ·have hlt2:=of_decide_eq_true hlt2
   have hrs:=hrb4.shelves (i:Int) (by omega) hlt
   refine ⟨hix,_,_,_,hrb4.shelf (by omega) hlt,hrs.ix ze4 (by omega) hlt2,_,_,_,_,_,hrs c (by omega) hlt2,fun b12 hb12=>⟨rfl,fun wr21 hx21 hs21 hcell => ?_⟩⟩
   have s5:=s4.put hx21 hb12
   have hS5:=hS4.put hx21 hb12
   have hsz21:wr19.heap.size<=wr21.heap.size:=Nat.le_trans hz4 hx21.size
   obtain ⟨o2,c2,w2,hrun,hk2,hS6,hy2⟩:=hS5.app1 zld zkc (x:=gi (gi W.groups (i:Int)).shelves (c:Int)) hs21 hsz21 hcell (oneS _) (by rw [List.length_take]; omega) (by decide) za8 #[false,false]
   rw [zro (by omega)] at hrun hS6
   have hG5:=hG4.put hx21 hb12
   have hC5:=hC4.put hx21 hb12
   have hT5:=hT4.put hx21 hb12
   have hB5:=hB4.ext hx21 hBb
   have s6:=s5.call hy2 fun y hm=>Nat.le_trans hsz (hS5.own.lt y hm).1
   have hC6:=hC5.call hy2 (hC5.own.ty_ne hS5.own (by decide))
   have hT6:=hT5.call hy2 (hT5.own.ty_ne hS5.own (by decide))
   have hG6:=hG5.ext hy2 (hG5.own.row.ty_ne hS5.own (by decide)) fun j a b y hm hm'=>by
    have:=(hGlt.2 j a b y hm).2
    have:=(hS5.own.lt y hm').1
    omega
   have hBb5:∀y∈zfc p,y∉[x,x1,x2]++[b11]++[b12]:=fun y hm hm'=>by
    rcases List.mem_append.1 hm' with h2 | h2
    ·exact hBb y hm h2
    ·have:y=b12:=by simpa using h2
     have:=(hB4.lt y hm).2
     omega
   have hB6:=hB5.ext hy2 fun y hm=>by
    rcases List.mem_append.1 hm with hm | hm
    ·exact hB5.loc.ty_ne hS5.own (by decide) y hm
    ·exact hB5.dry.ty_ne hS5.own (by decide) y hm
   refine ⟨_,_,_,w2,hrun,hk2,⟨by omega,by omega⟩,fun w5 hx5 _=>⟨⟨c+1,o2,c2,rfl,by omega,(s6.step hx5).sub (by simp),?_,(hC6.step hx5).sub (by simp),(hT6.step hx5).sub (by simp),(hG6.step hx5).sub (by simp),hB6.ext hx5 hBb5,(hS6.step hx5).sub (by simp)⟩,?_⟩⟩
   ·have:=hy2.size
    have:=hx5.size
    omega
   ·simp only [zd5,cntM,zef,List.getElem?_cons_zero]; omega
  ·have hge2:=of_decide_eq_false hge2
   rw [show (gi W.groups (i:Int)).shelves.take c=(gi W.groups (i:Int)).shelves from List.take_of_length_le (by omega)] at hS4 ⊢
   intro b13 hb13 wr23 hx23 hs23 hcell
   have s5:=s4.put hx23 hb13
   have hG5:=hG4.put hx23 hb13
   have hC5:=hC4.put hx23 hb13
   have hT5:=hT4.put hx23 hb13
   have hB5:=hB4.ext hx23 hBb
   have hS5:=hS4.put hx23 hb13
   have hlt17:∀y∈zam ⟨p.lO,p.lC,p.dO,p.dC,l39O,l39C⟩,wr19.heap.size<=y/\y<wv17.heap.size:=fun y hm=>by
    simp only [zam,List.mem_append] at hm
    rcases hm with (hm | hm) | hm
    ·exact hB4.loc.lt y hm
    ·exact hB4.dry.lt y hm
    ·exact hS4.own.lt y hm
   obtain ⟨o2,c2,w2,hrun,hk2,hG6,hy2⟩:=hG5.app1 (p:=(gi W.groups (i:Int),⟨p.lO,p.lC,p.dO,p.dC,l39O,l39C⟩)) hs23 s5.ext.size ⟨(hB5.mono hsz).loc,(hB5.mono hsz).dry,hS5.own.mono hsz⟩ (fun y hm hm'=>by
     have h1:=hlt17 y hm
     rcases List.mem_append.1 hm' with h2 | h2
     ·have:=hs19 y h2; omega
     ·have:y=b13:=by simpa using h2
      omega) (fun j a b y hm hm'=>by
     have:=(hGlt.2 j a b y hm).2
     have:=(hlt17 y hm').1
     omega) hcell (oneG _ _) (by rw [zd0]; omega) zal #[false,false]
   rw [<-zadf] at hrun hG6
   have s6:=s5.call hy2 fun y hm=>(hG5.own.row.lt y hm).1
   have hC6:=hC5.call hy2 (hC5.own.ty_ne hG5.own.row (by decide))
   have hT6:=hT5.call hy2 (hT5.own.ty_ne hG5.own.row (by decide))
   refine ⟨_,_,_,w2,hrun,hk2,⟨by omega,by omega⟩,fun w5 hx5 _=>⟨⟨i+1,o2,c2,_,rfl,by omega,(s6.step hx5).sub (by simp),(hC6.step hx5).sub (by simp),(hT6.step hx5).sub (by simp),(hG6.step hx5).sub (by simp)⟩,?_⟩⟩
   simp only [zd5,cntM,zef,List.getElem?_cons_zero]; omega
 ·have hge:=of_decide_eq_false hge
  have hi8:i=W.groups.length:=by omega
  subst hi8
  refine fun w9 hx9=>⟨⟨l23O,l23C,l24O,l24C,l25O,l25C,ms⟩,?_,⟨(hC.step hx9).own,(hT.step hx9).own,(hG.step hx9).own,hgl⟩,(s1.step hx9).ext⟩
  rw [zd0]
  rfl
theorem zj2 (h:RdW [] w W m) (hl:LenW W) :
  Calls Tryz.prog zet #[.agg (encW W m).toArray] w fun e w'=>(zbi W=false/\e = .returned (.tuple #[.agg (encW zs7 noM).toArray,.int .i64 1])/\ExtX [] w w')\/(zbi W=true/\∃m',e = .returned (.tuple #[.agg (encW W m').toArray,.int .i64 (if zhh W=true then 0 else 10)])/\MWd 8 w.heap.size w' W m'/\ExtX [] w w'):=by
 refine (zwo W.now m.cO W.cpus.length m.cC m.tO W.tasks.length m.tC m.gO W.groups.length m.gC (R:=fun v w'=>(zbi W=false/\v = .tuple #[.agg (encW zs7 noM).toArray,.int .i64 1]/\ExtX [] w w')\/(zbi W=true/\∃m',v = .tuple #[.agg (encW W m').toArray,.int .i64 (if zhh W=true then 0 else 10)]/\MWd 8 w.heap.size w' W m'/\ExtX [] w w')) ?_).mono fun e w' ⟨v,he,h3⟩=>by
  rw [he]
  rcases h3 with ⟨a,hv,b⟩ | ⟨a,m',hv,b⟩
  ·exact .inl ⟨a,by rw [hv],b⟩
  ·exact .inr ⟨a,m',by rw [hv],b⟩
 intro x hx x1 hx1
 refine ⟨_,zk5 h hl.c hl.t hl.g hl.f,fun g wr hx=>.inl ⟨by simpa using g,rfl,hx⟩,fun g wr1 hx2 hs1 => ?_⟩
 have hW:zbi W=true:=by simpa using g
 have wp:=zbp.1 hW
 refine Calls.mono (ztg (h.ext hx2) wp.a) ?_
 rintro e wv ⟨m',he,hM,hy⟩
 have hnb:∀y∈zbc 8 m',y∉[x,x1]:=fun y hy hm=>by
  have:=(hM.lt y hy).1
  have:=hs1 y hm
  omega
 have hro:=zmg (hM.rd hnb) hl
 have hfin:∀w2,ExtX [x,x1] wv w2->MWd 8 w.heap.size w2 W m'/\ExtX [] w w2:=fun w2 h2=>⟨(hM.mono hx2.size).ext h2 hnb,(hx2.trans hy).fresh h2 fun y hm=>.inl (zl9 hx hx1 y hm)⟩
 refine ⟨_,_,_,_,_,_,_,_,_,_,he,zaz hy hs1,_,hro,fun g2 w2 h2=>.inr ⟨hW,m',?_,hfin w2 h2⟩,fun g2 w2 h2=>.inr ⟨hW,m',?_,hfin w2 h2⟩⟩
 ·have:¬zhh W=true:=fun hr=>by
   rw [show decB (WldP W/\zu3 W)=true from zbp.2 ⟨wp,zbp.1 hr⟩] at g2
   cases g2
  rw [if_neg this]; rfl
 ·have hd:decB (WldP W/\zu3 W)=true:=by simpa using g2
  have:zhh W=true:=zbp.2 (zbp.1 hd).2
  rw [if_pos this]; rfl
end
structure Wk (n:Nat) (bs:List Nat) (w0 w:World) (W:Wld) (m:MW):Prop where
 s:Sc w0 bs w
 o:OW n w0.heap.size bs w W m
section
variable {n:Nat} {bs cs:List Nat} {w0 w w':World} {W W':Wld} {m m':MW} {b:Nat}
theorem Wk.step (h:Wk n bs w0 w W m) (hx:ExtX bs w w'):Wk n bs w0 w' W m:=⟨h.s.step hx,h.o.step hx⟩
theorem Wk.call0 (h:Wk n bs w0 w W m) (hx:ExtX [] w w'):Wk n bs w0 w' W m:=⟨h.s.call0 hx,h.o.call0 hx⟩
theorem Wk.rd (h:Wk n bs w0 w W m):RdW bs w W m:=h.o.rd
theorem Wk.own (h:Wk n bs w0 w W m):MWd n w0.heap.size w W m:=h.o.own
theorem Wk.nb (h:Wk n bs w0 w W m):∀x∈zbc n m,x∉bs:=h.o.nb
theorem Wk.base (h:Wk n bs w0 w W m):w0.heap.size<=w.heap.size:=h.s.ext.size
theorem Wk.deed (h:Wk n bs w0 w W m) (k:Mv n w0.heap.size [] w m w' W' m') (hs:∀x∈bs,x<w.heap.size):Wk n bs w0 w' W' m':=
 ⟨h.s.call k.ext fun x hx=>(h.o.own.lt x hx).1,⟨k.own,fun x hx hm=>by
  rcases k.sub x hx with h1 | h1
  ·exact h.o.nb x h1 hm
  ·have:=hs x hm
   omega⟩⟩
theorem Wk.kept (h:Wk n bs w0 w W m) (k:Mv n w0.heap.size [] w m w' W' m') (hs:∀x∈bs,x<w.heap.size):Kept bs w w':=fun x hm=>k.ext.block x (hs x hm) fun hm'=>h.o.nb x hm' hm
theorem Wk.sto (h:Wk n bs w0 w W m) (k:MWd n w0.heap.size w' W' m) (hx:ExtX (zbc n m) w w'):Wk n bs w0 w' W' m:=⟨h.s.call hx fun x hx=>(h.o.own.lt x hx).1,⟨k,h.o.nb⟩⟩
theorem Wk.fin (h:Wk n bs w0 w W m):MWd n w0.heap.size w W m/\ExtX [] w0 w:=⟨h.o.own,h.s.ext⟩
end
def AnsW (r:Wld×Int) (w:World) (v:Value) (w':World):Prop:=∃n m',v = .tuple #[.agg (encW r.1 m').toArray,.int .i64 r.2]/\MWd n w.heap.size w' r.1 m'/\ExtX [] w w'
theorem MWd.zero (base:Nat) (w:World):MWd 0 base w zs7 noM:=⟨.inl ⟨rfl,rfl,rfl⟩,.inl ⟨rfl,rfl,rfl⟩,⟨.inl ⟨rfl,rfl,rfl⟩,fun i a b=>by simp [psW,zs7] at b; omega,fun i j a b=>by simp [psW,zs7] at b; omega⟩,rfl⟩
section
variable {W W':Wld} {m:MW} {w:World} {bar:Int}
theorem AnsW.bad {w':World} (hW:zbi W=false) (hx:ExtX [] w w'):AnsW (ansD W bar W') w (.tuple #[.agg (encW zs7 noM).toArray,.int .i64 1]) w':=by
 rw [zaa7 hW]
 exact ⟨0,noM,rfl,MWd.zero _ _,hx⟩
theorem AnsW.no {n:Nat} {bs:List Nat} {w':World} {m':MW} (hW:zbi W=true) (hb:bar≠0) (hk:Wk n bs w w' W m') {c:Int} (hc:bar=c):AnsW (ansD W bar W') w (.tuple #[.agg (encW W m').toArray,.int .i64 c]) w':=by
 rw [z2r hW hb,hc]
 exact ⟨n,m',rfl,hk.fin⟩
theorem AnsW.ok {n:Nat} {bs:List Nat} {w':World} {m':MW} (hW:zbi W=true) (hb:bar=0) (hk:Wk n bs w w' W' m'):AnsW (ansD W bar W') w (.tuple #[.agg (encW W' m').toArray,.int .i64 0]) w':=by
 rw [zagq hW hb]
 exact ⟨n,m',rfl,hk.fin⟩
theorem Wk.begin {x x1:Nat} {wr wv:World} {m':MW} (hx:w.heap.size<=x) (hx1:w.heap.size<=x1) (hx2:ExtX [] w wr) (hs:∀y∈[x,x1],y<wr.heap.size) (hM:MWd 8 wr.heap.size wv W m') (hy:ExtX [] wr wv):Wk 8 [x,x1] w wv W m':=
 ⟨⟨hx2.trans hy,zl9 hx hx1⟩,(OW.of hM hs).mono hx2.size⟩
end
theorem zrm {α:Type} [Inhabited α] {l:List α} {i:Int} (h0:0<=i) (h1:i<(l.length:Int)):l.set i.toNat (gi l i)=l:=by
 obtain ⟨k,rfl⟩:=Int.eq_ofNat_of_zero_le h0
 rw [zkd (by omega),Int.toNat_natCast,List.set_getElem_self]
theorem zl5 {W:Wld} {k:Int} {b:Bnd} (h0:0<=k) (h1:k<(W.groups.length:Int)):gi (setBd W k b).groups k={ gi W.groups k with band:=b }:=by
 unfold setBd
 rw [zex h0 h1 h0,if_pos rfl]
theorem z6v {W:Wld} {k:Int} {b b':Bnd} (h0:0<=k) (h1:k<(W.groups.length:Int)):setBd (setBd W k b) k b'=setBd W k b':=by
 show setGr (setBd W k b) k { gi (setBd W k b).groups k with band:=b' }=_
 rw [zl5 h0 h1]
 unfold setBd setGr
 rw [List.set_set]
theorem z6w {W:Wld} {k:Int} {x y:Grp}:setGr (setGr W k x) k y=setGr W k y:=by unfold setGr; rw [List.set_set]
theorem zoe {W:Wld} {k:Int} (h0:0<=k) (h1:k<(W.groups.length:Int)):setBd W k (gi W.groups k).band=W:=by
 show setGr W k (gi W.groups k)=W
 unfold setGr
 rw [zrm h0 h1]
section
variable {base:Nat} {W:Wld} {m:MW} {w:World} {k:Int} {b:Bnd}
abbrev ptB (m:MW) (k:Int):Option Addr:=m.gO.map (·.add (Int.toNat k*14+8))
theorem z0r (h:MWd 8 base w (setBd W k b) m):W.groups.length=8:=by
 have:=h.len
 simpa [setBd,setGr] using this
theorem MWd.bdRd (h:MWd 8 base w (setBd W k b) m) (k0:0<=k) (k8:k<8):zaa [] w m.gO (Int.toNat k*14+8) (zdj b (m.ms k.toNat))/\RdI [] w (m.ms k.toNat).lO b.locals/\RdB [] w (m.ms k.toNat).dO b.dry:=by
 have hr:=(h.rd (bs:=[]) (by simp)).g
 have hl:=z0r h
 have hl2:=h.len
 have hg:=zl5 (W:=W) (b:=b) k0 (by omega)
 have h1:=hr.band k0 (by omega)
 have h2:=hr.locals k k0 (by omega)
 have h3:=hr.dry k k0 (by omega)
 rw [hg] at h1 h2 h3
 exact ⟨h1,h2,h3⟩
theorem MWd.bdC (h:MWd 8 base w (setBd W k b) m) (k0:0<=k) (k8:k<8) {j:Nat} {v:Value} (hj:(zdj b (m.ms k.toNat))[j]? = some v):zaa [] w (ptB m k) (0+j) [v]:=zf7 (h.bdRd k0 k8).1 hj
theorem MWd.bdSome (h:MWd 8 base w (setBd W k b) m) (k0:0<=k) (k8:k<8):(ptB m k).isSome=true:=zl6 (h.bdRd k0 k8).1
theorem MWd.bdWr (h:MWd 8 base w (setBd W k b) m) (k0:0<=k) (k8:k<8) {j n:Nat} (hj:j+n<=5):WrX [] w (ptB m k) (0+j) n:=by
 have:=wrG h (bs:=[]) (by simp) k0 (by omega) (j:=8+j) (k:=n) (by omega)
 refine zmb.2 ?_
 rw [Nat.zero_add,Nat.add_assoc]
 exact this
theorem MWd.bdWrL (h:MWd 8 base w (setBd W k b) m) (k0:0<=k) (k8:k<8) {c:Int} (c0:0<=c) (c1:c<(b.locals.length:Int)):WrX [] w (m.ms k.toNat).lO (Int.toNat c*1) 1:=by
 have hl:=z0r h
 have:=wrL h (bs:=[]) (by simp) k0 (by omega) (c:=c) c0 (by rw [zl5 k0 (by omega)]; exact c1) (j:=0) (k:=1) (by decide)
 exact this
theorem MWd.bdWrD (h:MWd 8 base w (setBd W k b) m) (k0:0<=k) (k8:k<8) {c:Int} (c0:0<=c) (c1:c<(b.dry.length:Int)):WrX [] w (m.ms k.toNat).dO (Int.toNat c*1) 1:=by
 have hl:=z0r h
 have:=wrD h (bs:=[]) (by simp) k0 (by omega) (c:=c) c0 (by rw [zl5 k0 (by omega)]; exact c1) (j:=0) (k:=1) (by decide)
 exact this
theorem MWd.bdSto (h:MWd 8 base w (setBd W k b) m) (k0:0<=k) (k8:k<8) {b':Bnd} (e1:b'.locals=b.locals) (e2:b'.dry=b.dry) {j:Nat} {vs:List Value} (he:zdj b' (m.ms k.toNat)=(zdj b (m.ms k.toNat)).take j++vs++(zdj b (m.ms k.toNat)).drop (j+vs.length)) (hj:j+vs.length<=5) :
  MWd 8 base (sto w (ptB m k) (0+j) vs) (setBd W k b') m:=by
 have hl:=z0r h
 have hg:=zl5 (W:=W) (b:=b) k0 (by omega)
 have this:MWd 8 base _ (setGr (setBd W k b) k { gi W.groups k with band:=b' }) m:=h.stoG0 k0 (by omega) (g:={ gi W.groups k with band:=b' }) (by rw [hg]; exact e1) (by rw [hg]; exact e2) (by rw [hg]) (j:=8+j) (vs:=vs) (by
  rw [hg]
  have e:∀x:Bnd,encG { gi W.groups k with band:=x } (m.ms k.toNat)=(encG (gi W.groups k) (m.ms k.toNat)).take 8++zdj x (m.ms k.toNat)++[.slice (m.ms k.toNat).sO (gi W.groups k).shelves.length (m.ms k.toNat).sC]:=fun x=>rfl
  rw [e b',e b,he]
  have l8:((encG (gi W.groups k) (m.ms k.toNat)).take 8).length=8:=rfl
  have l5:(zdj b (m.ms k.toNat)).length=5:=rfl
  generalize (encG (gi W.groups k) (m.ms k.toNat)).take 8=A at l8
  generalize zdj b (m.ms k.toNat)=B at l5
  have t1:(A++B++[Value.slice (m.ms k.toNat).sO (gi W.groups k).shelves.length (m.ms k.toNat).sC]).take (8+j)=A++B.take j:=by
   rw [List.append_assoc,List.take_append,List.take_of_length_le (by omega),l8,show 8+j - 8=j by omega,List.take_append,show j - B.length=0 by omega,List.take_zero,List.append_nil]
  have t2:(A++B++[Value.slice (m.ms k.toNat).sO (gi W.groups k).shelves.length (m.ms k.toNat).sC]).drop (8+j+vs.length)=B.drop (j+vs.length)++[Value.slice (m.ms k.toNat).sO (gi W.groups k).shelves.length (m.ms k.toNat).sC]:=by
   rw [List.append_assoc,List.drop_append,List.drop_eq_nil_iff.2 (by omega),List.nil_append,l8,show 8+j+vs.length - 8=j+vs.length by omega,List.drop_append,show j+vs.length - B.length=0 by omega,List.drop_zero]
  rw [t1,t2]
  simp only [List.append_assoc]) (by omega)
 rw [show setGr (setBd W k b) k { gi W.groups k with band:=b' }=setBd W k b' from z6w] at this
 rw [zj7,Nat.zero_add,Nat.add_assoc]
 exact this
theorem MWd.bdStoX {j:Nat} {vs:List Value}:ExtX (zbc 8 m) w (sto w (ptB m k) (0+j) vs):=by rw [zj7]; exact subG
theorem MWd.bdStoL (h:MWd 8 base w (setBd W k b) m) (k0:0<=k) (k8:k<8) {c:Int} (c0:0<=c) (c1:c<(b.locals.length:Int)) (x:Int) :
  MWd 8 base (sto w (m.ms k.toNat).lO (Int.toNat c*1) [.int .i64 x]) (setBd W k { b with locals:=b.locals.set c.toNat x }) m:=by
 have hl:=z0r h
 have hg:=zl5 (W:=W) (b:=b) k0 (by omega)
 have hb:(gi (setBd W k b).groups k).band=b:=by rw [hg]
 have this:MWd 8 base _ (setBd (setBd W k b) k { (gi (setBd W k b).groups k).band with locals:=(gi (setBd W k b).groups k).band.locals.set c.toNat x }) m:=h.stoL k0 (by omega) c0 (by rw [hg]; exact c1) x
 rw [z6v k0 (by omega),hb] at this
 exact this
theorem MWd.bdStoD (h:MWd 8 base w (setBd W k b) m) (k0:0<=k) (k8:k<8) {c:Int} (c0:0<=c) (c1:c<(b.dry.length:Int)) (x:Bool) :
  MWd 8 base (sto w (m.ms k.toNat).dO (Int.toNat c*1) [.bool x]) (setBd W k { b with dry:=b.dry.set c.toNat x }) m:=by
 have hl:=z0r h
 have hg:=zl5 (W:=W) (b:=b) k0 (by omega)
 have hb:(gi (setBd W k b).groups k).band=b:=by rw [hg]
 have this:MWd 8 base _ (setBd (setBd W k b) k { (gi (setBd W k b).groups k).band with dry:=(gi (setBd W k b).groups k).band.dry.set c.toNat x }) m:=h.stoD k0 (by omega) c0 (by rw [hg]; exact c1) x
 rw [z6v k0 (by omega),hb] at this
 exact this
def BdR (base:Nat) (W:Wld) (m:MW) (k:Int) (b':Bnd) (w w':World):Prop:=MWd 8 base w' (setBd W k b') m/\ExtX (zbc 8 m) w w'
theorem z05 (h:MWd 8 base w (setBd W k b) m) (k0:0<=k) (k8:k<8) (hl:b.dry.length<=1048576) :
  Calls Tryz.prog zf9 #[.pointer (ptB m k)] w fun e w'=>e = .returned (.tuple #[])/\BdR base W m k { b with dry:=List.replicate b.dry.length false } w w':=by
 refine (zwg (ptB m k) (R:=fun v w'=>v = .tuple #[]/\BdR base W m k { b with dry:=List.replicate b.dry.length false } w w') ?_).mono fun e w' ⟨v,he,hv,h3⟩=>⟨by rw [he,hv],h3⟩
 refine ⟨h.bdSome k0 k8,_,_,_,h.bdC k0 k8 (j:=4) rfl,?_⟩
 refine zik b.dry.length 0 rfl (fun j w1=>j<=b.dry.length/\MWd 8 base w1 (setBd W k { b with dry:=List.replicate j false++b.dry.drop j }) m/\ExtX (zbc 8 m) w w1) (fun w1 hx1 _=>⟨Nat.zero_le _,by simpa using h.ext0 hx1,hx1.of_nil⟩) fun j w1 hs ⟨hj,hO,hX⟩=>⟨fun hlt => ?_,fun hge => ?_⟩
 ·have hlt:=of_decide_eq_true hlt
  have hlen:(List.replicate j false++b.dry.drop j).length=b.dry.length:=by simp; omega
  have c1:(j:Int)<((List.replicate j false++b.dry.drop j).length:Int):=by rw [hlen]; exact hlt
  have e1:=hO.bdStoD k0 k8 (c:=(j:Int)) (by omega) c1 false
  have hcell:=hO.bdC k0 k8 (j:=4) rfl
  have hix:=(hO.bdRd k0 k8).2.2.ix zqm (i:=(j:Int)) (by omega) c1
  refine ⟨hO.bdSome k0 k8,_,_,_,hcell,hix,hO.bdWrD k0 k8 (by omega) c1,⟨by omega,by omega⟩,fun w2 hx2 _=>zan (by omega) ⟨by omega,?_,?_⟩⟩
  ·have e2:=e1.ext0 hx2
   simp only [Int.toNat_natCast] at e2
   rw [z9y _ _ (by omega)] at e2
   exact e2
  ·exact (hX.trans (subD (by omega))).trans hx2.of_nil
 ·have hge:=of_decide_eq_false hge
  have hk2:j=b.dry.length:=by omega
  subst hk2
  rw [List.drop_length,List.append_nil] at hO
  exact fun w2 hx2=>⟨rfl,hO.ext0 hx2,hX.trans hx2.of_nil⟩
theorem zz1 (h:MWd 8 base w (setBd W k b) m) (k0:0<=k) (k8:k<8) (hb:BndP b) {c:Int} (c0:0<=c) (c1:c<(b.locals.length:Int)) :
  Calls Tryz.prog zfz #[.pointer (ptB m k),.int .i64 c] w fun e w'=>e = .returned (.int .i64 0)/\BdR base W m k (ze1 b c) w w':=by
 refine (zpm (ptB m k) c (R:=fun v w'=>v = .int .i64 0/\BdR base W m k (ze1 b c) w w') ?_).mono fun e w' ⟨v,he,hv,h3⟩=>⟨by rw [he,hv],h3⟩
 have he':=hb.each c c0 c1
 have p1:=hb.p1
 have p2:=hb.p2
 have q2:=hb.q2
 have hs:=h.bdSome k0 k8
 have hL:=(h.bdRd k0 k8).2.1
 have hix:=hL.ix zf2 c0 c1
 have e1:=h.bdSto k0 k8 (b':={ b with pool:=b.pool+gi b.locals c }) rfl rfl (j:=1) (vs:=[.int .i64 (b.pool+gi b.locals c)]) rfl (by simp)
 have e2:=e1.bdStoL k0 k8 c0 c1 0
 have hX:=(MWd.bdStoX (m:=m) (k:=k) (w:=w) (j:=1) (vs:=[.int .i64 (b.pool+gi b.locals c)])).trans (subL (m:=m) (k:=Int.toNat c*1) (vs:=[.int .i64 0]) (i:=k.toNat) (by omega))
 refine ⟨hs,_,h.bdC k0 k8 (j:=1) rfl,hs,_,_,_,h.bdC k0 k8 (j:=3) rfl,hix,_,hL c c0 c1,⟨by omega,by omega⟩,hs,h.bdWr k0 k8 (j:=1) (by decide),hs,_,_,_,e1.bdC k0 k8 (j:=3) rfl,hix,e1.bdWrL k0 k8 c0 c1,hs,_,e2.bdC k0 k8 (j:=1) rfl,fun g wr hx _ => ?_,fun g wr hx=>⟨rfl,?_,hX.trans hx.of_nil⟩⟩
 ·have g:=of_decide_eq_true g
  refine Calls.mono (z05 (e2.ext0 hx) k0 k8 (by show b.dry.length<=_; have:=hb.dl; have:=hb.l2; omega)) ?_
  rintro e wv ⟨he,hM,hy⟩
  refine ⟨he,ze8,fun wr1 hx1=>⟨rfl,?_,((hX.trans hx.of_nil).trans hy).trans hx1.of_nil⟩⟩
  have:ze1 b c=⟨b.quota,b.pool+gi b.locals c,b.spent,b.locals.set c.toNat 0,List.replicate b.dry.length false⟩:=by unfold ze1; rw [if_pos g]
  rw [this]
  exact hM.ext0 hx1
 ·have g:=of_decide_eq_false g
  have:ze1 b c=⟨b.quota,b.pool+gi b.locals c,b.spent,b.locals.set c.toNat 0,b.dry⟩:=by unfold ze1; rw [if_neg g]
  rw [this]
  exact e2.ext0 hx
theorem zaaa (l:List Int) (k:Nat) (h:k<l.length):(List.replicate k (0:Int)++l.drop k).set k 0=List.replicate (k+1) 0++l.drop (k+1):=by
 rw [List.set_append,if_neg (by simp),List.length_replicate,Nat.sub_self,List.drop_eq_getElem_cons h,List.set_cons_zero,List.replicate_succ',List.append_assoc,List.singleton_append]
theorem zz0 (h:MWd 8 base w (setBd W k b) m) (k0:0<=k) (k8:k<8) (hb:BndP b) :
  Calls Tryz.prog zfy #[.pointer (ptB m k)] w fun e w'=>e = .returned (.int .i64 0)/\BdR base W m k (z5o b) w w':=by
 refine (zpl (ptB m k) (R:=fun v w'=>v = .int .i64 0/\BdR base W m k (z5o b) w w') ?_).mono fun e w' ⟨v,he,hv,h3⟩=>⟨by rw [he,hv],h3⟩
 have hdl:=hb.dl
 have hl2:=hb.l2
 have hs:=h.bdSome k0 k8
 have e1:=h.bdSto k0 k8 (b':={ b with pool:=b.quota }) rfl rfl (j:=1) (vs:=[.int .i64 b.quota]) rfl (by simp)
 have e2:=e1.bdSto k0 k8 (b':={ b with pool:=b.quota,spent:=0 }) rfl rfl (j:=2) (vs:=[.int .i64 0]) rfl (by simp)
 have hX2:=(MWd.bdStoX (m:=m) (k:=k) (w:=w) (j:=1) (vs:=[.int .i64 b.quota])).trans (MWd.bdStoX (m:=m) (k:=k) (j:=2) (vs:=[.int .i64 0]))
 refine ⟨hs,_,h.bdC k0 k8 (j:=0) rfl,hs,h.bdWr k0 k8 (j:=1) (by decide),hs,e1.bdWr k0 k8 (j:=2) (by decide),hs,_,_,_,e2.bdC k0 k8 (j:=3) rfl,?_⟩
 refine zik b.locals.length 0 rfl (fun j w1=>j<=b.locals.length/\MWd 8 base w1 (setBd W k { b with pool:=b.quota,spent:=0,locals:=List.replicate j 0++b.locals.drop j }) m/\ExtX (zbc 8 m) w w1) (fun w1 hx1 _=>⟨Nat.zero_le _,by simpa using e2.ext0 hx1,hX2.trans hx1.of_nil⟩) fun j w1 hs ⟨hj,hO,hX⟩=>⟨fun hlt => ?_,fun hge => ?_⟩
 ·have hlt:=of_decide_eq_true hlt
  have hlen:(List.replicate j (0:Int)++b.locals.drop j).length=b.locals.length:=by simp; omega
  have c1:(j:Int)<((List.replicate j (0:Int)++b.locals.drop j).length:Int):=by rw [hlen]; exact hlt
  have e1:=hO.bdStoL k0 k8 (c:=(j:Int)) (by omega) c1 0
  have hcell:=hO.bdC k0 k8 (j:=3) rfl
  have hix:=(hO.bdRd k0 k8).2.1.ix zf2 (i:=(j:Int)) (by omega) c1
  refine ⟨hO.bdSome k0 k8,_,_,_,hcell,hix,hO.bdWrL k0 k8 (by omega) c1,⟨by omega,by omega⟩,fun w2 hx2 _=>zan (by omega) ⟨by omega,?_,?_⟩⟩
  ·have e2:=e1.ext0 hx2
   simp only [Int.toNat_natCast] at e2
   rw [zaaa _ _ (by omega)] at e2
   exact e2
  ·exact (hX.trans (subL (by omega))).trans hx2.of_nil
 ·have hge:¬(j:Int)<(b.locals.length:Int):=of_decide_eq_false hge
  have hk2:j=b.locals.length:=by omega
  subst hk2
  rw [List.drop_length,List.append_nil] at hO
  intro wr2 hx2 _
  refine Calls.mono (z05 (hO.ext0 hx2) k0 k8 (by show b.dry.length<=_; omega)) ?_
  rintro e wv ⟨he,hM,hy⟩
  refine ⟨he,ze8,fun wr1 hx1=>⟨rfl,?_,((hX.trans hx2.of_nil).trans hy).trans hx1.of_nil⟩⟩
  unfold z5o
  rw [show List.replicate b.dry.length (0:Int)=List.replicate b.locals.length 0 by rw [hdl]]
  exact hM.ext0 hx1
theorem zaky (p:Int):(if p<20 then p else 20)=minI 20 p:=by
 unfold minI
 split <;> split <;> omega
theorem zado {l:List Bool} {c:Int} (c0:0<=c) (c1:c<(l.length:Int)) (h:gi l c=false):l.set c.toNat false=l:=by
 have:=zrm c0 c1
 rwa [h] at this
theorem zaf6 {l:List Int} {c:Int} (c0:0<=c) (c1:c<(l.length:Int)) (h:gi l c=0):l.set c.toNat 0=l:=by
 have:=zrm c0 c1
 rwa [h] at this
theorem z5x (h:MWd 8 base w (setBd W k b) m) (k0:0<=k) (k8:k<8) (hb:BndP b) {c:Int} (c0:0<=c) (c1:c<(b.locals.length:Int)) :
  Calls Tryz.prog zgw #[.pointer (ptB m k),.int .i64 c] w fun e w'=>e = .returned (.int .i64 (zdc b c).2)/\BdR base W m k (zdc b c).1 w w':=by
 refine (zr8 (ptB m k) c (R:=fun v w'=>v = .int .i64 (zdc b c).2/\BdR base W m k (zdc b c).1 w w') ?_).mono fun e w' ⟨v,he,hv,h3⟩=>⟨by rw [he,hv],h3⟩
 have he':=hb.each c c0 c1
 have hdl:=hb.dl
 have p1:=hb.p1
 have p2:=hb.p2
 have q2:=hb.q2
 have hm:=z3z p1
 have hs:=h.bdSome k0 k8
 have hL:=(h.bdRd k0 k8).2.1
 have hD:=(h.bdRd k0 k8).2.2
 have hix:=hL.ix zf2 c0 c1
 refine ⟨hs,_,_,_,h.bdC k0 k8 (j:=3) rfl,hix,_,hL c c0 c1,fun g wr hx => ?_,fun g=>⟨hs,_,h.bdC k0 k8 (j:=1) rfl,?_⟩⟩
 ·have ht:zdc b c=(b,0):=by unfold zdc; rw [if_pos (of_decide_eq_true g)]
  rw [ht]
  exact ⟨rfl,h.ext0 hx,hx.of_nil⟩
 have g:=of_decide_eq_false g
 have hz:gi b.locals c=0:=by omega
 have ht:zdc b c=(⟨b.quota,b.pool - minI 20 b.pool,b.spent,b.locals.set c.toNat (minI 20 b.pool),b.dry.set c.toNat (minI 20 b.pool==0)⟩,if minI 20 b.pool=0 then 2 else 0):=by unfold zdc; rw [if_neg g]
 rw [ht,zaky]
 refine ⟨fun g2 => ?_,fun g2 => ?_⟩
 ·have g2':minI 20 b.pool=0:=by simpa using g2
  have e1:=h.bdStoD k0 k8 c0 (by omega) true
  refine ⟨hs,_,_,_,h.bdC k0 k8 (j:=4) rfl,hD.ix zqm c0 (by omega),h.bdWrD k0 k8 c0 (by omega),fun wr hx=>⟨by rw [if_pos g2'],?_,(subD (by omega)).trans hx.of_nil⟩⟩
  dsimp only
  rw [g2',Int.sub_zero,zaf6 c0 c1 hz]
  exact e1.ext0 hx
 ·have g2':minI 20 b.pool≠0:=by simpa using g2
  have hdr:gi b.dry c=false:=by
   cases hd:gi b.dry c with
   | false=>rfl
   | true=>have:=(he'.2.2 hd).2; omega
  have e1:=h.bdSto k0 k8 (b':={ b with pool:=b.pool - minI 20 b.pool }) rfl rfl (j:=1) (vs:=[.int .i64 (b.pool - minI 20 b.pool)]) rfl (by simp)
  have e2:=e1.bdStoL k0 k8 c0 c1 (minI 20 b.pool)
  have hX:=(MWd.bdStoX (m:=m) (k:=k) (w:=w) (j:=1) (vs:=[.int .i64 (b.pool - minI 20 b.pool)])).trans (subL (m:=m) (k:=Int.toNat c*1) (vs:=[.int .i64 (minI 20 b.pool)]) (i:=k.toNat) (by omega))
  refine ⟨hs,_,h.bdC k0 k8 (j:=1) rfl,⟨by omega,by omega⟩,hs,h.bdWr k0 k8 (j:=1) (by decide),hs,_,_,_,e1.bdC k0 k8 (j:=3) rfl,hix,e1.bdWrL k0 k8 c0 c1,fun wr hx=>⟨by rw [if_neg g2'],?_,hX.trans hx.of_nil⟩⟩
  dsimp only
  rw [g2,zado c0 (by omega) hdr]
  exact e2.ext0 hx
theorem z3l (h:MWd 8 base w (setBd W k b) m) (k0:0<=k) (k8:k<8) (hb:BndP b) {c n:Int} (c0:0<=c) (c1:c<(b.locals.length:Int)) :
  Calls Tryz.prog zgk #[.pointer (ptB m k),.int .i64 c,.int .i64 n] w fun e w'=>e = .returned (.int .i64 (zfn b c n).2)/\BdR base W m k (zfn b c n).1 w w':=by
 refine (zqk (ptB m k) c n (R:=fun v w'=>v = .int .i64 (zfn b c n).2/\BdR base W m k (zfn b c n).1 w w') ?_).mono fun e w' ⟨v,he,hv,h3⟩=>⟨by rw [he,hv],h3⟩
 have he':=hb.each c c0 c1
 have q2:=hb.q2
 have s1:=hb.s1
 have s2:=hb.s2
 have hs:=h.bdSome k0 k8
 have hL:=(h.bdRd k0 k8).2.1
 have hix:=hL.ix zf2 c0 c1
 refine ⟨fun _=>hs,_,_,_,fun _=>h.bdC k0 k8 (j:=3) rfl,fun _=>hix,_,fun _=>hL c c0 c1,fun g wr hx => ?_,fun g => ?_⟩
 ·have ht:zfn b c n=(b,3):=by unfold zfn; rw [if_pos (by simpa using g)]
  rw [ht]
  exact ⟨rfl,h.ext0 hx,hx.of_nil⟩
 ·have g':¬(n<1\/n>gi b.locals c):=by simpa using g
  have ht:zfn b c n=({ b with spent:=b.spent+n,locals:=b.locals.set c.toNat (gi b.locals c - n) },0):=by unfold zfn; rw [if_neg g']
  rw [ht]
  have e1:=h.bdStoL k0 k8 c0 c1 (gi b.locals c - n)
  have e2:=e1.bdSto k0 k8 (b':={ b with spent:=b.spent+n,locals:=b.locals.set c.toNat (gi b.locals c - n) }) rfl rfl (j:=2) (vs:=[.int .i64 (b.spent+n)]) rfl (by simp)
  have hX:=(subL (m:=m) (w:=w) (k:=Int.toNat c*1) (vs:=[.int .i64 (gi b.locals c - n)]) (i:=k.toNat) (n:=8) (by omega)).trans (MWd.bdStoX (m:=m) (k:=k) (j:=2) (vs:=[.int .i64 (b.spent+n)]))
  exact ⟨hs,_,_,_,h.bdC k0 k8 (j:=3) rfl,hix,_,hL c c0 c1,⟨by omega,by omega⟩,hix,h.bdWrL k0 k8 c0 c1,hs,_,e1.bdC k0 k8 (j:=2) rfl,⟨by show _<=b.spent+n; omega,by show b.spent+n<=_; omega⟩,hs,e1.bdWr k0 k8 (j:=2) (by decide),fun wr hx=>⟨rfl,e2.ext0 hx,hX.trans hx.of_nil⟩⟩
theorem zw8 (h:MWd 8 base w (setBd W k b) m) (k0:0<=k) (k8:k<8) (hb:BndP b) {op:QOp} :
  Calls Tryz.prog zfd #[.pointer (ptB m k),.agg (encO op).toArray] w fun e w'=>e = .returned (.int .i64 (zdd b op).2)/\BdR base W m k (zdd b op).1 w w':=by
 refine (zzj (ptB m k) op.kind op.at' op.n (R:=fun v w'=>v = .int .i64 (zdd b op).2/\BdR base W m k (zdd b op).1 w w') ?_).mono fun e w' ⟨v,he,hv,h3⟩=>⟨by rw [he,hv],h3⟩
 have hl2:=hb.l2
 have hs:=h.bdSome k0 k8
 intro b1 hb1
 have one:∀{w1:World},ExtX [] w w1->∀y∈zbc 8 m,y∉[b1]:=fun _ y hy hm=>by
  have:y=b1:=by simpa using hm
  have:=(h.lt y hy).2
  omega
 have fin:∀{w1 w2 w3:World} {b':Bnd} {c:Int},ExtX [] w w1->(∀y∈[b1],y<w1.heap.size)->BdR base W m k b' w1 w2->ExtX [b1] w2 w3->zdd b op=(b',c)->Kept [b1] w1 w2/\BdR base W m k (zdd b op).1 w w3:=fun h1 h2 h3 h4 h5=>by
  refine ⟨fun y hm=>h3.2.block y (h2 y hm) fun hm'=>one h1 y hm' hm,?_⟩
  rw [h5]
  exact ⟨h3.1.ext h4 (one h1), (h1.of_nil.trans h3.2).fresh h4 fun y hm => .inl (by have:y=b1:=by simpa using hm
                                                                                    omega)⟩
 refine ⟨fun g wr hx hs1 => ?_,fun g=>⟨hs,_,_,_,h.bdC k0 k8 (j:=3) rfl,⟨by omega,by omega⟩,_,zap,fun g2 wr hx => ?_,fun g2 => ?_⟩⟩
 ·have hbd:zdd b op=(z5o b,0):=by unfold zdd; rw [if_pos (by simpa using g)]
  refine Calls.mono (zz0 (h.ext0 hx) k0 k8 hb) ?_
  rintro e wv ⟨he,hR⟩
  exact ⟨_,he,(fin hx hs1 hR (ExtX.refl _ _) hbd).1,fun wr1 hx1=>⟨by rw [hbd],(fin hx hs1 hR hx1 hbd).2⟩⟩
 all_goals have g:¬op.kind=4:=by simpa using g
 ·have hbd:zdd b op=(b,1):=by unfold zdd; rw [if_neg g,if_pos (by simpa using g2)]
  rw [hbd]
  exact ⟨rfl,h.ext0 hx,hx.of_nil⟩
 have g2:inB op.at' 0 ((b.locals.length:Int) - 1)=true:=by simpa using g2
 obtain ⟨c0,c1⟩:=za6.1 g2
 have c1:op.at'<(b.locals.length:Int):=by omega
 have hbd:zdd b op=if op.kind=1 then zdc b op.at' else if op.kind=2 then zfn b op.at' op.n else if op.kind=3 then (ze1 b op.at',0) else (b,1):=by
  unfold zdd; rw [if_neg g,if_neg (by rw [g2]; decide)]
 refine ⟨fun g3 wr hx hs1 => ?_,fun g3=>⟨fun g4 wr hx hs1 => ?_,fun g4=>⟨fun g5 wr hx hs1 => ?_,fun g5 wr hx => ?_⟩⟩⟩
 ·rw [if_pos (by simpa using g3)] at hbd
  refine Calls.mono (z5x (h.ext0 hx) k0 k8 hb c0 c1) ?_
  rintro e wv ⟨he,hR⟩
  exact ⟨_,he,(fin hx hs1 hR (ExtX.refl _ _) hbd).1,fun wr1 hx1=>⟨by rw [hbd],(fin hx hs1 hR hx1 hbd).2⟩⟩
 ·rw [if_neg (by simpa using g3),if_pos (by simpa using g4)] at hbd
  refine Calls.mono (z3l (n:=op.n) (h.ext0 hx) k0 k8 hb c0 c1) ?_
  rintro e wv ⟨he,hR⟩
  exact ⟨_,he,(fin hx hs1 hR (ExtX.refl _ _) hbd).1,fun wr1 hx1=>⟨by rw [hbd],(fin hx hs1 hR hx1 hbd).2⟩⟩
 ·rw [if_neg (by simpa using g3),if_neg (by simpa using g4),if_pos (by simpa using g5)] at hbd
  refine Calls.mono (zz1 (h.ext0 hx) k0 k8 hb c0 c1) ?_
  rintro e wv ⟨he,hR⟩
  exact ⟨_,he,(fin hx hs1 hR (ExtX.refl _ _) hbd).1,fun wr1 hx1=>⟨by rw [hbd],(fin hx hs1 hR hx1 hbd).2⟩⟩
 ·rw [if_neg (by simpa using g3),if_neg (by simpa using g4),if_neg (by simpa using g5)] at hbd
  rw [hbd]
  exact ⟨rfl,h.ext0 hx,hx.of_nil⟩
end
structure PW (base pb:Nat) (w:World) (W:Wld) (m:MW):Prop where
 own:MWd 8 base w W m
 pt:w.heap[pb]? = some (.cells (encW W m).toArray zab (0,0))
 pn:pb∉zbc 8 m
abbrev pA (pb:Nat):Option Addr:=some ⟨pb,0,none⟩
structure Mp (base pb:Nat) (bs:List Nat) (w0:World) (m0:MW) (w:World) (W:Wld) (m:MW):Prop where
 v:Mv 8 base bs w0 m0 w W m
 pt:w.heap[pb]? = some (.cells (encW W m).toArray zab (0,0))
 pn:pb∉zbc 8 m
 pb:pb∉bs
section
variable {base pb:Nat} {bs cs:List Nat} {w0 w w':World} {W W':Wld} {m0 m m':MW} {b:Nat}
theorem Mp.start (h:PW base pb w W m):Mp base pb [] w m w W m:=⟨Mv.start h.own,h.pt,h.pn,by simp⟩
theorem Mp.pw (h:Mp base pb bs w0 m0 w W m):PW base pb w W m:=⟨h.v.own,h.pt,h.pn⟩
theorem Mp.add (h:Mp base pb bs w0 m0 w W m) (hb:w.heap.size<=b):Mp base pb (bs++[b]) w0 m0 w W m:=⟨h.v.add hb,h.pt,h.pn,fun hm=>by
 rcases List.mem_append.1 hm with hm | hm
 ·exact h.pb hm
 ·have:pb=b:=by simpa using hm
  have:=zjm h.pt
  omega⟩
theorem Mp.step (h:Mp base pb bs w0 m0 w W m) (hx:ExtX bs w w'):Mp base pb bs w0 m0 w' W m:=⟨h.v.step hx,za0 h.pt hx h.pb,h.pn,h.pb⟩
theorem Mp.call0 (h:Mp base pb bs w0 m0 w W m) (hx:ExtX [] w w'):Mp base pb bs w0 m0 w' W m:=⟨h.v.call0 hx,za0 h.pt hx (by simp),h.pn,h.pb⟩
theorem Mp.call (h:Mp base pb bs w0 m0 w W m) (k:Mp base pb [] w m w' W' m') (hs:∀x∈bs,x<w.heap.size):Mp base pb bs w0 m0 w' W' m':=⟨h.v.call k.v hs,k.pt,k.pn,h.pb⟩
theorem Mp.kept (h:Mp base pb bs w0 m0 w W m) (k:Mp base pb [] w m w' W' m') (hs:∀x∈bs,x<w.heap.size):Kept bs w w':=h.v.kept k.v hs
theorem Mp.deed (h:Mp base pb bs w0 m0 w W m) (k:MWd 8 base w' W' m) (hx:ExtX (zbc 8 m) w w') (he:encW W' m=encW W m):Mp base pb bs w0 m0 w' W' m:=⟨h.v.deed k hx,by rw [he]; exact za0 h.pt hx h.pn,h.pn,h.pb⟩
theorem Mp.sub (h:Mp base pb bs w0 m0 w W m) (hs:∀x∈cs,x∈bs):Mp base pb cs w0 m0 w W m:=⟨h.v.sub' hs,h.pt,h.pn,fun hm=>h.pb (hs _ hm)⟩
theorem Mp.close (h:Mp base pb bs w0 m0 w W m):Mp base pb [] w0 m0 w W m:=h.sub (by simp)
theorem Mp.wpt (h:Mp base pb bs w0 m0 w W m):WPt bs w (pA pb) W m:=⟨zhp h.pt h.pb (k0:=0) fun j v hj=>by simpa using hj,h.v.rd⟩
theorem Mp.own (h:Mp base pb bs w0 m0 w W m):MWd 8 base w W m:=h.v.own
theorem Mp.nb (h:Mp base pb bs w0 m0 w W m):∀x∈zbc 8 m,x∉bs:=h.v.nb
end
theorem z9o {W:Wld} {k c:Int} {s:Shf} (h0:0<=k) (h1:k<(W.groups.length:Int)):gi (setSh W k c s).groups k={ gi W.groups k with shelves:=(gi W.groups k).shelves.set c.toNat s }:=by
 unfold setSh
 rw [zex h0 h1 h0,if_pos rfl]
theorem zadm {W:Wld} {k c:Int} {s s':Shf} (h0:0<=k) (h1:k<(W.groups.length:Int)):setSh (setSh W k c s) k c s'=setSh W k c s':=by
 show setGr (setSh W k c s) k { gi (setSh W k c s).groups k with shelves:=(gi (setSh W k c s).groups k).shelves.set c.toNat s' }=_
 rw [z9o h0 h1]
 dsimp only
 rw [List.set_set]
 exact z6w
theorem zaax {W:Wld} {k c:Int} (h0:0<=k) (h1:k<(W.groups.length:Int)) (c0:0<=c) (c1:c<((gi W.groups k).shelves.length:Int)):setSh W k c (shf W k c)=W:=by
 show setGr W k { gi W.groups k with shelves:=(gi W.groups k).shelves.set c.toNat (gi (gi W.groups k).shelves c) }=W
 rw [zrm c0 c1]
 unfold setGr
 rw [zrm h0 h1]
section
variable {base pb:Nat} {bs:List Nat} {w:World} {W:Wld} {m:MW} {k c:Int}
theorem MWd.shSto (h:MWd 8 base w W m) (k0:0<=k) (k8:k<8) (c0:0<=c) (c1:c<((gi W.groups k).shelves.length:Int)) {j:Nat} {vs:List Value} {s:Shf} (he:encS s=(encS (shf W k c)).take j++vs++(encS (shf W k c)).drop (j+vs.length)) (hj:j+vs.length<=5) :
  MWd 8 base (sto w (shO m k c) (0+j) vs) (setSh W k c s) m:=by
 have:=h.stoS k0 (by omega) c0 c1 he hj
 rw [<-zakf] at this
 unfold shO
 rw [zj7,Nat.zero_add]
 exact this
theorem MWd.shWr (h:MWd 8 base w W m) (hd:∀x∈zbc 8 m,x∉bs) (k0:0<=k) (k8:k<8) (c0:0<=c) (c1:c<((gi W.groups k).shelves.length:Int)) {j n:Nat} (hj:j+n<=5):WrX bs w (shO m k c) (0+j) n:=by
 unfold shO
 refine zmb.2 ?_
 rw [Nat.zero_add]
 exact wrS h hd k0 (by omega) c0 c1 hj
theorem zaa0 {vs:List Value} {j:Nat} (k0:0<=k) (k8:k<8):ExtX (zbc 8 m) w (sto w (shO m k c) (0+j) vs):=by
 unfold shO
 rw [zj7]
 exact subS (by omega)
theorem zgh (h:PW base pb w W m) (c0:0<=c) (c1:c<(W.cpus.length:Int)) :
  Calls Tryz.prog zcb #[.agg #[.pointer (pA pb),.int .i64 c]] w fun e w'=>e = .returned (.tuple #[])/\Mp base pb [] w m w' (endW W c) m:=by
 refine (zon (pA pb) c (R:=fun v w'=>v = .tuple #[]/\Mp base pb [] w m w' (endW W c) m) ?_).mono fun e w' ⟨v,he,hv,h3⟩=>⟨by rw [he,hv],h3⟩
 intro b hb
 obtain ⟨e1,e2⟩:=zac4 h.own c0 c1
 have hM:=Mp.start h
 have hp:=hM.wpt
 have hr:=h.own.rd (bs:=[]) (by simp)
 have hs:=zl6 (n:=Int.toNat c*5) (hr.c c c0 c1)
 refine ⟨_,zhx hp c0 c1,_,zhx hp c0 c1,hs,zmb.2 (wrC h.own (by simp) c0 c1 (by decide)),hs,?_⟩
 rw [zj7]
 refine ⟨zmb.2 (wrC e1 (by simp) c0 (by simpa using c1) (by decide)),?_⟩
 rw [zj7]
 exact fun wr hx=>⟨rfl,(hM.deed e2 (subC.trans subC) (by simp [encW,endW,setCp])).call0 hx⟩
theorem z3j {p:Option Addr} {g:Int} (h:WPt bs w p W m) (ht:zeb W.groups) (hu:zae W.groups g=true):zad bs Tryz.prog zgl #[.pointer p,.int .i64 g] w (.int .i64 (dep 3 W.groups g)):=
 zrc p g fun wr hx=>by
  have h:=(h.ext hx).less (cs:=[]) (by simp)
  have hdr:∀x,zae W.groups x=true->0<=dep 3 W.groups x/\dep 3 W.groups x<=3:=fun x hux=>by
   by_cases hz:x=0
   ·subst hz; rw [zcv]; omega
   ·obtain ⟨_,_,_,d,e,_,hd⟩:=zd4 ht hux hz
    omega
  refine ⟨fun vs=>∃(x s:Int),vs=[.int .i64 x,.int .i64 s]/\zae W.groups x=true/\0<=s/\s+dep 3 W.groups x=dep 3 W.groups g,fun vs=>(dep 3 W.groups (zef 0 vs)).toNat,⟨g,0,rfl,hu,by decide,by omega⟩,?_⟩
  rintro x s ⟨x',s',he,hux,hs0,hI⟩
  simp only [List.cons.injEq,Value.int.injEq,true_and,and_true] at he
  obtain ⟨rfl,rfl⟩:=he
  have hgd:=hdr g hu
  have hxd:=hdr x hux
  refine ⟨fun hz => ?_,fun hz => ?_⟩
  ·have hz:x≠0:=by simpa using hz
   obtain ⟨hp,a,b,d,e,e2,hd⟩:=zd4 ht hux hz
   refine ⟨⟨by omega,by omega⟩,h.some,_,_,_,h.groups,h.rd.g.ix a b,_,h.rd.g.parent a b,⟨_,_,rfl,hp,by omega,by omega⟩,?_⟩
   show (dep 3 W.groups (gi W.groups x).parent).toNat<(dep 3 W.groups x).toNat
   omega
  ·have hz:x=0:=by simpa using hz
   subst hz
   rw [zcv] at hI
   rw [show s=dep 3 W.groups g by omega]
set_option maxHeartbeats 1000000 in
theorem zjz {F K:Int} (h:PW base pb w W m) (hsw:SF F K W) (hk:F+lagB<=K) (hK:K<=1000000000000000000) (c0:0<=c) (c1:c<(W.cpus.length:Int)) :
  Calls Tryz.prog zck #[.agg #[.pointer (pA pb),.int .i64 c]] w fun e w'=>e = .returned (.tuple #[])/\Mp base pb [] w m w' (zat W c) m:=by
 refine (zlc (pA pb) c (R:=fun v w'=>v = .tuple #[]/\Mp base pb [] w m w' (zat W c) m) ?_).mono fun e w' ⟨v,he,hv,h3⟩=>⟨by rw [he,hv],h3⟩
 intro x hx
 have hgl:=hsw.w.a.gl
 refine ⟨fun vs w1=>∃(j:Nat),vs=[.int .i64 (3 - (j:Int))]/\j<=3/\Mp base pb [x] w m w1 (zdz W c j) m,
  fun vs _=>(zef 0 vs).toNat,fun wr hx0 _=>⟨0,rfl,by decide,((Mp.start h).add hx).call0 hx0⟩,?_⟩
 rintro d wv hs ⟨j,he,j3,hM⟩
 obtain ⟨hS,hO⟩:=zq3 hsw hk c0 c1 j j3
 have hN:zdz W c (j+1)=zcd (zdz W c j) c (3 - (j:Int)) 8:=rfl
 have hE:j=3->zdz W c j=zat W c:=fun e=>by rw [e]; rfl
 generalize zdz W c j=W1 at hM hS hO hN hE
 simp only [List.cons.injEq,Value.int.injEq,true_and,and_true] at he
 refine ⟨fun hd => ?_,fun hd => ?_⟩
 ·have hd:=of_decide_eq_true hd
  have c1':c<(W1.cpus.length:Int):=by rw [hO.c]; exact c1
  have hgl1:W1.groups.length=W.groups.length:=hO.g.len
  have hp:=hM.wpt
  refine ⟨hp.some,_,_,_,hp.groups,?_⟩
  rw [hgl1]
  refine zik W.groups.length 0 rfl (fun k w2=>k<=8/\Mp base pb [x] w m w2 (zcd W1 c d k) m) (fun w2 hx2 _=>⟨by decide,hM.step hx2⟩) fun k w2 hs2 ⟨hk8,hM2⟩ => ?_
  obtain ⟨hS2,hO2⟩:=zut hS hk (c:=c) (d:=d) (by omega) c0 c1' k hk8
  have hf2:=hO.trans hO2
  have hgl2:(zcd W1 c d k).groups.length=W.groups.length:=hf2.g.len
  have hcl2:(zcd W1 c d k).cpus.length=W.cpus.length:=by rw [hf2.c]
  have hdef:zcd W1 c d (k+1)=if (gi (zcd W1 c d k).groups (k:Int)).used=true/\dep 3 (zcd W1 c d k).groups (k:Int)=d then setSh (zcd W1 c d k) (k:Int) c (zda (zcd W1 c d k) (k:Int) c) else zcd W1 c d k:=rfl
  have hN8:k=8->zdz W c (j+1)=zcd W1 c d k:=fun e=>by rw [hN,<-he,e]
  generalize zcd W1 c d k=W2 at hM2 hS2 hO2 hf2 hgl2 hcl2 hdef hN8
  have hp2:=hM2.wpt
  have hr:=hp2.rd
  refine ⟨fun hlt => ?_,fun hge => ?_⟩
  ·have hlt:=of_decide_eq_true hlt
   have hlt2:(k:Int)<(W2.groups.length:Int):=by omega
   have hix:=hr.g.ix (i:=(k:Int)) (by omega) hlt2
   have hru:=hr.g.used (i:=(k:Int)) (by omega) hlt2
   refine ⟨hp2.some,_,_,_,hp2.groups,hix,(gi W2.groups (k:Int)).used,hru,dep 3 W2.groups (k:Int),fun g => ?_,fun g => ?_,fun g => ?_⟩
   ·exact z3j hp2 hS2.w.a.tree (zac.2 ⟨by omega,hlt2,by simpa using g⟩)
   ·refine ⟨⟨by omega,by omega⟩,fun w3 hx3 _=>zan (by omega) ⟨by omega,?_⟩⟩
    rw [hdef,if_neg]
    ·exact hM2.step hx3
    ·rintro ⟨h1,h2⟩
     rw [h1,h2] at g
     simp at g
   ·simp only [Bool.or_eq_false_iff,Bool.not_eq_false',bne_eq_false_iff_eq] at g
    have hu:zae W2.groups (k:Int)=true:=zac.2 ⟨by omega,hlt2,g.1⟩
    rw [if_pos ⟨g.1,g.2⟩] at hdef
    have hsl:=hS2.w.a.sl hu
    have hz:(k:Int)≠0:=fun e=>by
     rw [e,zcv] at g
     omega
    have hpa:=hS2.w.a.up hu hz
    obtain ⟨p0,p1,_⟩:=zac.1 hpa
    have hpl:=hS2.w.a.sl hpa
    have s1:=hS2.w.s _ c hu c0 (by omega)
    have s2:=hS2.w.s _ c hpa c0 (by omega)
    have lc:=zeh ((shf W2 (k:Int) c).v - (shf W2 (gi W2.groups (k:Int)).parent c).floor) (shf W2 (k:Int) c).w
    have lm:=zc8 (shf W2 (k:Int) c).w
    have hsh:=hp2.sh (g:=(k:Int)) (c:=c) (by omega) hlt2 c0 (by omega)
    have hshp:=hp2.sh (g:=(gi W2.groups (k:Int)).parent) (c:=c) p0 p1 c0 (by omega)
    have hact:=zlx (g:=(k:Int)) hp2 hS2.w.a c0 (by omega)
    have hdry:=z03 (g:=(k:Int)) hp2 hS2.w.a hu c0 (by omega)
    have cS:c<((gi W2.groups (k:Int)).shelves.length:Int):=by omega
    refine ⟨_,zbh hp2 (by omega) hlt2 c0 cS,za5 W2 (k:Int) c,hact,dryD W2 (k:Int) c,fun _=>hdry,fun _=>hsh.1,_,fun _=>hsh.2 (j:=1) rfl,fun g2 => ?_,fun g2 => ?_⟩
    ·have hss:zda W2 (k:Int) c=⟨(shf W2 (k:Int) c).floor,za5 W2 (k:Int) c && !dryD W2 (k:Int) c,(shf W2 (gi W2.groups (k:Int)).parent c).floor+zd6 ((shf W2 (k:Int) c).v - (shf W2 (gi W2.groups (k:Int)).parent c).floor) (shf W2 (k:Int) c).w,(shf W2 (k:Int) c).w,(shf W2 (k:Int) c).sum⟩:=by
      unfold zda
      rw [if_pos]
      simpa [shf] using g2
     have e1:=hM2.own.shSto (k:=(k:Int)) (c:=c) (by omega) (by omega) c0 cS (j:=2) (vs:=[.int .i64 ((shf W2 (gi W2.groups (k:Int)).parent c).floor+zd6 ((shf W2 (k:Int) c).v - (shf W2 (gi W2.groups (k:Int)).parent c).floor) (shf W2 (k:Int) c).w)]) (s:={ shf W2 (k:Int) c with v:=(shf W2 (gi W2.groups (k:Int)).parent c).floor+zd6 ((shf W2 (k:Int) c).v - (shf W2 (gi W2.groups (k:Int)).parent c).floor) (shf W2 (k:Int) c).w }) rfl (by simp)
     have cS1:c<((gi (setSh W2 (k:Int) c { shf W2 (k:Int) c with v:=(shf W2 (gi W2.groups (k:Int)).parent c).floor+zd6 ((shf W2 (k:Int) c).v - (shf W2 (gi W2.groups (k:Int)).parent c).floor) (shf W2 (k:Int) c).w }).groups (k:Int)).shelves.length:Int):=by rw [z6z (by omega) hlt2 (by omega)]; exact cS
     have hs1:shf (setSh W2 (k:Int) c { shf W2 (k:Int) c with v:=(shf W2 (gi W2.groups (k:Int)).parent c).floor+zd6 ((shf W2 (k:Int) c).v - (shf W2 (gi W2.groups (k:Int)).parent c).floor) (shf W2 (k:Int) c).w }) (k:Int) c={ shf W2 (k:Int) c with v:=(shf W2 (gi W2.groups (k:Int)).parent c).floor+zd6 ((shf W2 (k:Int) c).v - (shf W2 (gi W2.groups (k:Int)).parent c).floor) (shf W2 (k:Int) c).w }:=by
      rw [zhj (by omega) hlt2 c0 cS (by omega) c0,if_pos ⟨rfl,rfl⟩]
     have e2:=e1.shSto (k:=(k:Int)) (c:=c) (by omega) (by omega) c0 cS1 (j:=1) (vs:=[.bool (za5 W2 (k:Int) c && !dryD W2 (k:Int) c)]) (s:=zda W2 (k:Int) c) (by rw [hs1,hss]; rfl) (by simp)
     rw [zadm (by omega) hlt2] at e2
     have hX:=(zaa0 (m:=m) (w:=w2) (k:=(k:Int)) (c:=c) (j:=2) (vs:=[.int .i64 ((shf W2 (gi W2.groups (k:Int)).parent c).floor+zd6 ((shf W2 (k:Int) c).v - (shf W2 (gi W2.groups (k:Int)).parent c).floor) (shf W2 (k:Int) c).w)]) (by omega) (by omega)).trans (zaa0 (m:=m) (k:=(k:Int)) (c:=c) (j:=1) (vs:=[.bool (za5 W2 (k:Int) c && !dryD W2 (k:Int) c)]) (by omega) (by omega))
     have heq:encW (setSh W2 (k:Int) c (zda W2 (k:Int) c)) m=encW W2 m:=zir (zhf (by omega) hlt2).fr
     refine ⟨hp2.some,_,_,_,hp2.groups,hix,_,hr.g.parent (by omega) hlt2,_,zbh hp2 p0 p1 c0 (by omega),hshp.1,_,hshp.2 (j:=0) rfl,hsh.1,_,hsh.2 (j:=2) rfl,⟨by omega,by omega⟩,hsh.1,_,hsh.2 (j:=3) rfl,_,z3f,⟨by omega,by omega⟩,hsh.1,hM2.own.shWr hM2.nb (by omega) (by omega) c0 cS (j:=2) (by decide),hsh.1,e1.shWr hM2.nb (by omega) (by omega) c0 cS1 (j:=1) (by decide),⟨by omega,by omega⟩,fun w3 hx3 _=>zan (by omega) ⟨by omega,?_⟩⟩
     rw [hdef]
     exact (hM2.deed e2 hX heq).step hx3
    ·have hss:zda W2 (k:Int) c=⟨(shf W2 (k:Int) c).floor,za5 W2 (k:Int) c && !dryD W2 (k:Int) c,(shf W2 (k:Int) c).v,(shf W2 (k:Int) c).w,(shf W2 (k:Int) c).sum⟩:=by
      unfold zda
      rw [if_neg]
      intro h1
      rw [h1.1,show (shf W2 (k:Int) c).on=false from h1.2] at g2
      cases g2
     have e2:=hM2.own.shSto (k:=(k:Int)) (c:=c) (by omega) (by omega) c0 cS (j:=1) (vs:=[.bool (za5 W2 (k:Int) c && !dryD W2 (k:Int) c)]) (s:=zda W2 (k:Int) c) (by rw [hss]; rfl) (by simp)
     have heq:encW (setSh W2 (k:Int) c (zda W2 (k:Int) c)) m=encW W2 m:=zir (zhf (by omega) hlt2).fr
     refine ⟨hsh.1,hM2.own.shWr hM2.nb (by omega) (by omega) c0 cS (j:=1) (by decide),⟨by omega,by omega⟩,fun w3 hx3 _=>zan (by omega) ⟨by omega,?_⟩⟩
     rw [hdef]
     exact (hM2.deed e2 (zaa0 (by omega) (by omega)) heq).step hx3
  ·have hge:=of_decide_eq_false hge
   have hN8:=hN8 (by omega)
   refine ⟨⟨by omega,by omega⟩,fun w3 hx3 _=>⟨⟨j+1,?_,by omega,?_⟩,?_⟩⟩
   ·rw [show d - 1=3 - ((j+1:Nat):Int) by omega]
   ·rw [hN8]
    exact hM2.step hx3
   ·show (d - 1).toNat<d.toNat
    omega
 ·have hd:=of_decide_eq_false hd
  rw [<-hE (by omega)]
  exact fun w2 hx2=>⟨rfl,(hM.step hx2).close⟩
end
def zkl (W:Wld) (g c:Int):Nat->Int
 | 0=>100000000000000001
 | k+1=>if memP W g c k=true then (if memV W c k<zkl W g c k then memV W c k else zkl W g c k) else zkl W g c k
theorem zxm {W:Wld} {g c:Int}:∀k:Nat,(∀j,j<k->memP W g c j=true->memV W c j<=100000000000000000)->zkl W g c k=if zc4 W g c k=true then zby W g c k else 100000000000000001
 | 0,_=>by
  have:zc4 W g c 0=false:=rfl
  rw [this]; rfl
 | k+1,h=>by
  have ih:=zxm k fun j hj=>h j (by omega)
  simp only [zkl]
  cases hp:memP W g c k with
  | false=>
   have:=zv7 (W:=W) (g:=g) (c:=c) (k:=k) (by rw [hp]; rfl)
   rw [if_neg (by decide),ih,this.1,this.2]
  | true=>
   have hv:=h k (by omega) hp
   rw [if_pos rfl,ih]
   cases hb:zc4 W g c k with
   | false=>
    have:=zun (W:=W) (g:=g) (c:=c) (k:=k) (by rw [hp,hb]; rfl)
    rw [this.1,this.2,if_neg (show ¬(false=true) by decide),if_pos (show memV W c k<100000000000000001 by omega),if_pos (show true=true from rfl)]
   | true=>
    rw [if_pos rfl]
    by_cases hlt:memV W c k<zby W g c k
    ·have:=zun (W:=W) (g:=g) (c:=c) (k:=k) (by rw [hp,decide_eq_true hlt]; simp)
     rw [this.1,this.2,if_pos rfl,if_pos hlt]
    ·have:=zv7 (W:=W) (g:=g) (c:=c) (k:=k) (by rw [hp,hb,decide_eq_false hlt]; rfl)
     rw [this.1,this.2,hb,if_pos rfl,if_neg hlt]
theorem zaik {K:Int} {W:Wld} (h:SW K W) {g c:Int} (c0:0<=c) (c1:c<(W.cpus.length:Int)) {j:Nat} (hj:j<20) (hp:memP W g c j=true):memV W c j<=K:=by
 have hl:=h.a.gl
 unfold memV
 by_cases h12:j<12
 ·rw [if_pos h12]
  exact (h.tv (j:Int) (by omega) (by omega)).2
 ·rw [if_neg h12]
  unfold memP at hp
  rw [if_neg h12] at hp
  unfold actG at hp
  simp only [Bool.and_eq_true] at hp
  have hu:zae W.groups ((j - 12:Nat):Int)=true:=zac.2 ⟨by omega,by omega,hp.1.2.1⟩
  exact (h.s _ c hu c0 c1).2.2.2.1
section
variable {base pb:Nat} {w:World} {W:Wld} {m:MW} {k c:Int}
set_option maxHeartbeats 1000000 in
theorem z71 {K:Int} (h:PW base pb w W m) (hsw:SW K W) (hK0:0<=K) (hK:K<=100000000000000000) (c0:0<=c) (c1:c<(W.cpus.length:Int)) :
  Calls Tryz.prog zht #[.agg #[.pointer (pA pb),.int .i64 c]] w fun e w'=>e = .returned (.tuple #[])/\Mp base pb [] w m w' (za7 W c) m:=by
 refine (zt4 (pA pb) c (R:=fun v w'=>v = .tuple #[]/\Mp base pb [] w m w' (za7 W c) m) ?_).mono fun e w' ⟨v,he,hv,h3⟩=>⟨by rw [he,hv],h3⟩
 intro x hx
 have hgl:=hsw.a.gl
 have hp0:=(Mp.start h).wpt
 refine ⟨hp0.some,_,_,_,hp0.groups,?_⟩
 refine zik W.groups.length 0 rfl (fun k w2=>k<=8/\Mp base pb [x] w m w2 (za3 W c k) m) (fun w2 hx2 _=>⟨by decide,((Mp.start h).add hx).call0 hx2⟩) fun k w2 hs2 ⟨hk8,hM2⟩ => ?_
 obtain ⟨hS2,hO2⟩:=zjp hsw hK0 c0 c1 k hk8
 have hgl2:(za3 W c k).groups.length=W.groups.length:=hO2.g.len
 have hcl2:(za3 W c k).cpus.length=W.cpus.length:=by rw [hO2.c]
 have hdef:za3 W c (k+1)=if (gi (za3 W c k).groups (k:Int)).used=true/\zc4 (za3 W c k) (k:Int) c 20=true/\zby (za3 W c k) (k:Int) c 20>(shf (za3 W c k) (k:Int) c).floor then setSh (za3 W c k) (k:Int) c (zw1 (za3 W c k) (k:Int) c) else za3 W c k:=rfl
 have hN8:k=8->za7 W c=za3 W c k:=fun e=>by rw [e]; rfl
 generalize za3 W c k=W2 at hM2 hS2 hO2 hgl2 hcl2 hdef hN8
 have hp:=hM2.wpt
 have hr:=hp.rd
 have htl:=hS2.a.t
 refine ⟨fun hlt => ?_,fun hge => ?_⟩
 ·have hlt:=of_decide_eq_true hlt
  have hlt2:(k:Int)<(W2.groups.length:Int):=by omega
  refine ⟨hp.some,_,_,_,hp.groups,hr.g.ix (i:=(k:Int)) (by omega) hlt2,(gi W2.groups (k:Int)).used,hr.g.used (by omega) hlt2,fun g => ?_,fun g => ?_⟩
  ·refine ⟨⟨by omega,by omega⟩,fun w3 hx3 _=>zan (by omega) ⟨by omega,?_⟩⟩
   rw [hdef,if_neg (fun h1=>by rw [h1.1] at g; cases g)]
   exact hM2.step hx3
  have g:(gi W2.groups (k:Int)).used=true:=by simpa using g
  have hu:zae W2.groups (k:Int)=true:=zac.2 ⟨by omega,hlt2,g⟩
  have hsl:=hS2.a.sl hu
  have cS:c<((gi W2.groups (k:Int)).shelves.length:Int):=by omega
  have hlm:=zxm (W:=W2) (g:=(k:Int)) (c:=c) 20 fun j hj hp=>Int.le_trans (zaik hS2 c0 (by omega) hj hp) hK
  refine ⟨hp.some,_,_,_,hp.tasks,fun vs w1=>∃(t:Nat),vs=[.int .i64 (zkl W2 (k:Int) c t),.int .i64 (t:Int)]/\t<=12/\Mp base pb [x] w m w1 W2 m,zd5 W2.tasks.length 1,fun w3 hx3 _=>⟨0,rfl,by decide,hM2.step hx3⟩,?_⟩
  rintro least x1 wv1 hs3 ⟨t,he,ht,hM3⟩
  simp only [List.cons.injEq,Value.int.injEq,true_and,and_true] at he
  obtain ⟨rfl,rfl⟩:=he
  have hp3:=hM3.wpt
  refine ⟨fun hltt => ?_,fun hget => ?_⟩
  ·have hltt:=of_decide_eq_true hltt
   have hq:=zlz (g:=(k:Int)) (c:=c) hp3 (t:=(t:Int)) (by omega) hltt
   rw [Int.toNat_natCast] at hq
   refine ⟨hp3.rd.t.ix zce (by omega) hltt,_,_,_,_,_,_,_,_,_,hp3.rd.t (t:Int) (by omega) hltt,fun b1 hb1=>⟨actT W2 (k:Int) c t,hq,fun ga=>⟨⟨by omega,by omega⟩,fun w4 hx4 _=>⟨⟨t+1,?_,by omega,hM3.step hx4⟩,?_⟩⟩,fun ga=>⟨⟨by omega,by omega⟩,fun w4 hx4 _=>⟨⟨t+1,?_,by omega,hM3.step hx4⟩,?_⟩⟩⟩⟩
   ·simp only [zkl]
    rw [zim (by omega),if_pos ga,ztj (by omega)]
    rfl
   ·simp only [zd5,cntM,zef,List.getElem?_cons_zero,List.getElem?_cons_succ]; omega
   ·simp only [zkl]
    rw [zim (by omega),if_neg (by rw [ga]; decide)]
    rfl
   ·simp only [zd5,cntM,zef,List.getElem?_cons_zero,List.getElem?_cons_succ]; omega
  have hget:=of_decide_eq_false hget
  have ht12:t=12:=by omega
  subst ht12
  refine ⟨hp3.some,_,_,_,hp3.groups,fun vs w1=>∃(i:Nat),vs=[.int .i64 (zkl W2 (k:Int) c (12+i)),.int .i64 (i:Int)]/\i<=8/\Mp base pb [x] w m w1 W2 m,zd5 W2.groups.length 1,fun w4 hx4 _=>⟨0,rfl,by decide,hM3.step hx4⟩,?_⟩
  rintro least1 x9 wv2 hs4 ⟨i,he,hi,hM4⟩
  simp only [List.cons.injEq,Value.int.injEq,true_and,and_true] at he
  obtain ⟨rfl,rfl⟩:=he
  have hp4:=hM4.wpt
  refine ⟨fun hlti => ?_,fun hgei => ?_⟩
  ·have hlti:=of_decide_eq_true hlti
   have hh:=znb (g:=(k:Int)) hp4 hS2.a (k:=(i:Int)) (by omega) hlti c0 (by omega)
   rw [Int.toNat_natCast] at hh
   have hstep:zkl W2 (k:Int) c (12+(i+1))=if actG W2 (k:Int) c i=true then (if (shf W2 (i:Int) c).v<zkl W2 (k:Int) c (12+i) then (shf W2 (i:Int) c).v else zkl W2 (k:Int) c (12+i)) else zkl W2 (k:Int) c (12+i):=by
    rw [show 12+(i+1)=12+i+1 from rfl]
    simp only [zkl]
    rw [zil,zti]
   refine ⟨actG W2 (k:Int) c i,hh,fun ga => ?_,fun ga=>⟨⟨by omega,by omega⟩,fun w5 hx5 _=>⟨⟨i+1,?_,by omega,hM4.step hx5⟩,?_⟩⟩⟩
   ·have hui:zae W2.groups (i:Int)=true:=by
     unfold actG at ga
     simp only [Bool.and_eq_true] at ga
     exact zac.2 ⟨by omega,hlti,ga.1.2.1⟩
    have hsli:=hS2.a.sl hui
    have hsh:=hp4.sh (g:=(i:Int)) (c:=c) (by omega) hlti c0 (by omega)
    refine ⟨_,zbh hp4 (by omega) hlti c0 (by omega),hsh.1,_,hsh.2 (j:=2) rfl,⟨by omega,by omega⟩,fun w5 hx5 _=>⟨⟨i+1,?_,by omega,hM4.step hx5⟩,?_⟩⟩
    ·rw [hstep,if_pos ga]; rfl
    ·simp only [zd5,cntM,zef,List.getElem?_cons_zero,List.getElem?_cons_succ]; omega
   ·rw [hstep,if_neg (by rw [ga]; decide)]; rfl
   ·simp only [zd5,cntM,zef,List.getElem?_cons_zero,List.getElem?_cons_succ]; omega
  have hgei:=of_decide_eq_false hgei
  have hi8:i=8:=by omega
  subst hi8
  rw [show 12+8=20 from rfl,hlm]
  have hsh:=hp4.sh (g:=(k:Int)) (c:=c) (by omega) hlt2 c0 cS
  have br:=z0t hS2 (k:=(k:Int)) c0 (by omega) hK0
  refine ⟨fun gl => ?_,fun gl => ?_⟩
  ·have hb:zc4 W2 (k:Int) c 20=true:=Decidable.byContradiction fun hb=>by rw [if_neg hb] at gl; revert gl; decide
   rw [if_pos hb]
   have e1:=hM4.own.shSto (k:=(k:Int)) (c:=c) (by omega) (by omega) c0 cS (j:=0) (vs:=[.int .i64 (if zby W2 (k:Int) c 20>(shf W2 (k:Int) c).floor then zby W2 (k:Int) c 20 else (shf W2 (k:Int) c).floor)]) (s:={ shf W2 (k:Int) c with floor:=if zby W2 (k:Int) c 20>(shf W2 (k:Int) c).floor then zby W2 (k:Int) c 20 else (shf W2 (k:Int) c).floor }) rfl (by simp)
   have heq:setSh W2 (k:Int) c { shf W2 (k:Int) c with floor:=if zby W2 (k:Int) c 20>(shf W2 (k:Int) c).floor then zby W2 (k:Int) c 20 else (shf W2 (k:Int) c).floor }=za3 W c (k+1):=by
    rw [hdef]
    by_cases hgt:zby W2 (k:Int) c 20>(shf W2 (k:Int) c).floor
    ·rw [if_pos hgt,if_pos (show (gi W2.groups (k:Int)).used=true/\zc4 W2 (k:Int) c 20=true/\_>_ from ⟨g,hb,hgt⟩)]; rfl
    ·rw [if_neg hgt,if_neg (fun h=>hgt h.2.2)]
     exact zaax (by omega) hlt2 c0 cS
   have hfr:encW (setSh W2 (k:Int) c { shf W2 (k:Int) c with floor:=if zby W2 (k:Int) c 20>(shf W2 (k:Int) c).floor then zby W2 (k:Int) c 20 else (shf W2 (k:Int) c).floor }) m=encW W2 m:=zir (zhf (by omega) hlt2).fr
   refine ⟨_,zbh hp4 (by omega) hlt2 c0 cS,_,zbh hp4 (by omega) hlt2 c0 cS,hsh.1,_,hsh.2 (j:=0) rfl,hsh.1,hM4.own.shWr hM4.nb (by omega) (by omega) c0 cS (j:=0) (by decide),⟨by omega,by omega⟩,fun w5 hx5 _=>zan (w1:=w2) (by omega) ⟨by omega,?_⟩⟩
   rw [<-heq]
   exact (hM4.deed e1 (zaa0 (by omega) (by omega)) hfr).step hx5
  ·have hb:¬zc4 W2 (k:Int) c 20=true:=fun hb=>by
    rw [if_pos hb] at gl
    have:=of_decide_eq_false gl
    omega
   refine ⟨⟨by omega,by omega⟩,fun w5 hx5 _=>zan (w1:=w2) (by omega) ⟨by omega,?_⟩⟩
   rw [hdef,if_neg (fun h=>hb h.2.1)]
   exact hM4.step hx5
 ·have hge:=of_decide_eq_false hge
  rw [hN8 (by omega)]
  exact fun w3 hx3=>⟨rfl,(hM2.step hx3).close⟩
theorem Mp.nil {w0 w:World} {m0:MW} (h:Mp base pb [] w0 m0 w W m) {w':World} (hx:ExtX [] w w'):Mp base pb [] w0 m0 w' W m:=h.step hx
set_option maxHeartbeats 1000000 in
theorem zfu {K:Int} (h:PW base pb w W m) (hsw:SW K W) (hK0:0<=K) (hK:K+stlB<=100000000000000000) :
  Calls Tryz.prog zbg #[.pointer (pA pb)] w fun e w'=>e = .returned (.tuple #[])/\Mp base pb [] w m w' (zah W) m:=by
 refine (zpn (pA pb) (R:=fun v w'=>v = .tuple #[]/\Mp base pb [] w m w' (zah W) m) ?_).mono fun e w' ⟨v,he,hv,h3⟩=>⟨by rw [he,hv],h3⟩
 have hgl:=hsw.a.gl
 have hcl4:=hsw.a.c2
 simp only [stlB,lagB] at hK
 have hp0:=(Mp.start h).wpt
 refine ⟨hp0.some,_,_,_,hp0.cpus,?_⟩
 refine zik W.cpus.length 0 rfl (fun k w1=>k<=W.cpus.length/\Mp base pb [] w m w1 (zbq W k) m) (fun w1 hx1 _=>⟨Nat.zero_le _,(Mp.start h).call0 hx1⟩) fun k w1 hs1 ⟨hk,hM⟩ => ?_
 obtain ⟨hS,hO⟩:=zhe (F:=K) (K:=K+lagB) (hsw.sf.mono (Int.le_refl _) (by simp only [lagB]; omega)) (Int.le_refl _) k hk
 have hdef:zbq W (k+1)=zat (zbq W k) (k:Int):=rfl
 have hend:k=W.cpus.length->zbq W W.cpus.length=zbq W k:=fun e=>by rw [e]
 obtain ⟨n1,n2,n3⟩:=zqr hO.fr
 generalize zbq W k=W1 at hM hS hO hdef hend n1 n2 n3
 refine ⟨fun hlt=>⟨_,_,zgn,fun wr1 hx1 hs2 => ?_⟩,fun hge => ?_⟩
 ·have hlt:=of_decide_eq_true hlt
  have hM1:=hM.nil hx1
  refine Calls.mono (zjz hM1.pw hS (by omega) (by simp only [lagB]; omega) (c:=(k:Int)) (by omega) (by omega)) ?_
  rintro e wv2 ⟨he,hy⟩
  refine ⟨he,ze8,⟨by omega,by omega⟩,fun w3 hx3 _=>zan (by omega) ⟨by omega,?_⟩⟩
  rw [hdef]
  exact (hM1.call hy (by simp)).nil hx3
 have hge:=of_decide_eq_false hge
 have hend:=hend (by omega)
 have hset:zah W=zeo (zop W1) W.cpus.length:=by unfold zah; rw [hend]
 have hp1:=hM.wpt
 refine ⟨hp1.some,_,_,_,hp1.groups,?_⟩
 refine zik W1.groups.length 0 rfl (fun g w2=>g<=8/\Mp base pb [] w m w2 (zdm W1 g) m) (fun w2 hx2 _=>⟨by decide,hM.nil hx2⟩) fun g w2 hs2 ⟨hg8,hM2⟩ => ?_
 obtain ⟨hS2,hO2⟩:=zh9 hS g hg8
 have hdef2:zdm W1 (g+1)=if (gi (zdm W1 g).groups (g:Int)).used=true/\(gi (zdm W1 g).groups (g:Int)).band.quota≠0 then zdk (zdm W1 g) (g:Int) (zdm W1 g).cpus.length else zdm W1 g:=rfl
 have hend2:g=8->zop W1=zdm W1 g:=fun e=>by rw [e]; rfl
 have hf2:=hO.fr.trans hO2.fr
 generalize zdm W1 g=W2 at hM2 hS2 hO2 hdef2 hend2 hf2
 obtain ⟨q1,q2,q3⟩:=zqr hf2
 have hp2:=hM2.wpt
 refine ⟨fun hlt => ?_,fun hge2 => ?_⟩
 ·have hlt:=of_decide_eq_true hlt
  have hlt2:(g:Int)<(W2.groups.length:Int):=by omega
  have hrl:=hp2.rd.g.locs (i:=(g:Int)) (by omega) hlt2
  refine ⟨hp2.some,_,_,_,hp2.groups,hp2.rd.g.ix (by omega) hlt2,_,_,_,hrl,?_⟩
  by_cases hq:(gi W2.groups (g:Int)).used=true/\(gi W2.groups (g:Int)).band.quota≠0
  ·rw [if_pos hq] at hdef2
   have hu:zae W2.groups (g:Int)=true:=zac.2 ⟨by omega,hlt2,hq.1⟩
   have hbl:=((hS2.w.a.u hu).2.2.band hq.2).2.1
   refine zik (gi W2.groups (g:Int)).band.locals.length 0 rfl (fun c w3=>c<=W2.cpus.length/\Mp base pb [] w m w3 (zdk W2 (g:Int) c) m) (fun w3 hx3 _=>⟨Nat.zero_le _,hM2.nil hx3⟩) fun c w3 hs3 ⟨hc,hM3⟩ => ?_
   obtain ⟨hS3,hO3,hq3⟩:=zqs hS2 hu hq.2 c hc
   have hdef3:zdk W2 (g:Int) (c+1)=if gi (gi (zdk W2 (g:Int) c).groups (g:Int)).band.locals (c:Int)>0/\za5 (zdk W2 (g:Int) c) (g:Int) (c:Int)=false then setBd (zdk W2 (g:Int) c) (g:Int) (ze1 (gi (zdk W2 (g:Int) c).groups (g:Int)).band (c:Int)) else zdk W2 (g:Int) c:=rfl
   have hend3:c=W2.cpus.length->zdm W1 (g+1)=zdk W2 (g:Int) c:=fun e=>by rw [hdef2,e]
   have hu3:zae (zdk W2 (g:Int) c).groups (g:Int)=true:=by rw [hO3.g.usd]; exact hu
   have hf3:=hf2.trans hO3.fr
   generalize zdk W2 (g:Int) c=W3 at hM3 hS3 hO3 hq3 hdef3 hend3 hu3 hf3
   obtain ⟨r1,r2,r3⟩:=zqr hf3
   obtain ⟨u0,u1,hgu⟩:=hS3.w.a.u hu3
   obtain ⟨hb3,hbl3,_⟩:=hgu.band hq3
   have hklt:(g:Int)<(W3.groups.length:Int):=by omega
   have hp3:=hM3.wpt
   have hLo:=hp3.rd.g.locals (g:Int) (by omega) hklt
   refine ⟨fun hltc => ?_,fun hgec => ?_⟩
   ·have hltc:=of_decide_eq_true hltc
    have hixl:=hLo.ix zf2 (i:=(c:Int)) (by omega) (by omega)
    rw [hbl3,r1,<-q1,<-hbl] at hixl
    have hact:=zlx (g:=(g:Int)) (c:=(c:Int)) hp3 hS3.w.a (by omega) (by omega)
    refine ⟨hixl,_,hLo (c:Int) (by omega) (by omega),_,_,fun _=>zgn,_,fun _=>hact,fun g3 wr5 hx5 _ => ?_,fun g3 => ?_⟩
    ·simp only [Bool.and_eq_true,decide_eq_true_eq,Bool.not_eq_true'] at g3
     rw [if_pos g3] at hdef3
     have hM5:=hM3.nil hx5
     have hown:MWd 8 base wr5 (setBd W3 (g:Int) (gi W3.groups (g:Int)).band) m:=by rw [zoe (by omega) hklt]; exact hM5.own
     refine Calls.mono (zw8 (op:=⟨3,(c:Int),0⟩) hown (by omega) (by omega) hb3) ?_
     rintro e1 wv5 ⟨he1,hB,hX⟩
     have hbd:zdd (gi W3.groups (g:Int)).band ⟨3,(c:Int),0⟩=(ze1 (gi W3.groups (g:Int)).band (c:Int),0):=by
      unfold zdd
      rw [if_neg (show ¬(3:Int)=4 by decide),if_neg (by rw [za6.2 (by show 0<=(c:Int)/\(c:Int)<=_; omega)]; decide),if_neg (show ¬(3:Int)=1 by decide),if_neg (show ¬(3:Int)=2 by decide),if_pos rfl]
     rw [hbd] at he1 hB
     dsimp only at he1 hB
     refine ⟨_,he1,ze8,⟨by omega,by omega⟩,fun w6 hx6 _=>zan (by omega) ⟨by omega,?_⟩⟩
     rw [hdef3]
     exact (hM5.deed hB hX (zir (zq9 (by omega) hklt).fr)).nil hx6
    ·refine ⟨⟨by omega,by omega⟩,fun w6 hx6 _=>zan (by omega) ⟨by omega,?_⟩⟩
     rw [hdef3,if_neg]
     ·exact hM3.nil hx6
     ·rintro ⟨h1,h2⟩
      rw [h2,decide_eq_true h1] at g3
      cases g3
   ·have hgec:=of_decide_eq_false hgec
    refine ⟨⟨by omega,by omega⟩,fun w6 hx6 _=>zan (by omega) ⟨by omega,?_⟩⟩
    rw [hend3 (by omega)]
    exact hM3.nil hx6
  ·rw [if_neg hq] at hdef2
   have hz:(gi W2.groups (g:Int)).band.locals.length=0:=by
    have hgp:=hS2.w.a.grp (g:Int) (by omega) (by omega)
    cases hu:(gi W2.groups (g:Int)).used with
    | false=>exact (zq8 (hgp.1 hu).b).2.2.2.1
    | true=>
     have h0:(gi W2.groups (g:Int)).band.quota=0:=Decidable.byContradiction fun hn=>hq ⟨hu,hn⟩
     exact (zq8 ((hgp.2 hu).none h0).1).2.2.2.1
   rw [hz]
   refine zik 0 0 rfl (fun c w3=>c<=0/\Mp base pb [] w m w3 W2 m) (fun w3 hx3 _=>⟨Nat.zero_le _,hM2.nil hx3⟩) fun c w3 hs3 ⟨hc,hM3⟩=>⟨fun hltc => ?_,fun _=>⟨⟨by omega,by omega⟩,fun w6 hx6 _=>zan (by omega) ⟨by omega,?_⟩⟩⟩
   ·have:=of_decide_eq_true hltc
    omega
   ·rw [hdef2]
    exact hM3.nil hx6
 have hge2:=of_decide_eq_false hge2
 have hend2:=hend2 (by omega)
 rw [hend2] at hset
 have hS4:SW (K+lagB) W2:=hS2.w
 refine ⟨hp2.some,_,_,_,hp2.cpus,?_⟩
 refine zik W2.cpus.length 0 rfl (fun k w3=>k<=W2.cpus.length/\Mp base pb [] w m w3 (zeo W2 k) m) (fun w3 hx3 _=>⟨Nat.zero_le _,hM2.nil hx3⟩) fun k w3 hs3 ⟨hk,hM7⟩ => ?_
 obtain ⟨hS7,hf7⟩:=zl7 hS4 (by simp only [lagB]; omega) k hk
 have hdef7:zeo W2 (k+1)=zhl (zeo W2 k) (k:Int):=rfl
 have hend7:k=W2.cpus.length->zah W=zeo W2 k:=fun e=>by rw [hset,<-q1,e]
 have hfW:=hf2.trans hf7
 obtain ⟨q1,q2,q3⟩:=zqr hfW
 generalize zeo W2 k=W7 at hM7 hS7 hf7 hdef7 hend7 hfW q1 q2 q3
 refine ⟨fun hlt=>⟨_,_,zgn,fun b hb wr10 hx10 hs10 => ?_⟩,fun hge => ?_⟩
 ·have hlt:=of_decide_eq_true hlt
  have hM9:=(hM7.add hb).call0 hx10
  have hk4:(k:Int)<=4:=by omega
  have c1':(k:Int)<(W7.cpus.length:Int):=by omega
  have hSF:=hS7.sf.mono (F':=K+lagB+(k:Int)*lagB) (K':=K+lagB+(k:Int)*lagB+lagB) (Int.le_refl _) (by simp only [lagB]; omega)
  refine Calls.mono (zjz hM9.pw hSF (Int.le_refl _) (by simp only [lagB]; omega) (c:=(k:Int)) (by omega) c1') ?_
  rintro e2 wv7 ⟨he2,hy2⟩
  obtain ⟨hS8,hO8⟩:=zq2 hSF (Int.le_refl _) (c:=(k:Int)) (by omega) c1'
  have hM8:=hM9.call hy2 hs10
  refine ⟨he2,hM9.kept hy2 hs10,fun wr11 hx11 hs11 => ?_⟩
  have hM10:=hM8.step hx11
  have hstep:zhl W7 (k:Int)=if zoq (za7 (zat W7 (k:Int)) (k:Int)) (k:Int)=true then endW (za7 (zat W7 (k:Int)) (k:Int)) (k:Int) else za7 (zat W7 (k:Int)) (k:Int):=rfl
  have c2':(k:Int)<((zat W7 (k:Int)).cpus.length:Int):=by rw [hO8.c]; exact c1'
  refine Calls.mono (z71 hM10.pw hS8.w (by simp only [lagB]; omega) (by simp only [lagB]; omega) (c:=(k:Int)) (by omega) c2') ?_
  rintro e3 wv8 ⟨he3,hy3⟩
  obtain ⟨hS11,hO11⟩:=zjp hS8.w (by simp only [lagB]; omega) (c:=(k:Int)) (by omega) c2' 8 (by decide)
  have hM11:=hM10.call hy3 hs11
  have hK11:=hM10.kept hy3 hs11
  have hf11:Fr W (za7 (zat W7 (k:Int)) (k:Int)):=(hfW.trans hO8.fr).trans hO11.fr
  have hS11':SW (K+lagB+(k:Int)*lagB+lagB) (za7 (zat W7 (k:Int)) (k:Int)):=hS11
  generalize za7 (zat W7 (k:Int)) (k:Int)=W11 at hM11 hf11 hS11' hstep
  obtain ⟨r1,r2,r3⟩:=zqr hf11
  have hp:=hM11.wpt
  have c3':(k:Int)<(W11.cpus.length:Int):=by omega
  have hcur:=hS11'.cu (k:Int) (by omega) c3'
  have htl:=hS11'.a.t
  have hT:((gi W11.cpus (k:Int)).cur != -1)=true->0<=(gi W11.cpus (k:Int)).cur/\(gi W11.cpus (k:Int)).cur<(W11.tasks.length:Int):=fun g=>by
   have:(gi W11.cpus (k:Int)).cur≠-1:=by simpa using g
   exact ⟨by omega,by omega⟩
  have hcpu:=zhx (c:=(k:Int)) hp (by omega) c3'
  have hsome:=zl6 (n:=Int.toNat (k:Int)*5) (hp.rd.c (k:Int) (by omega) c3')
  have hcell:=zf7 (hp.rd.c (k:Int) (by omega) c3') (j:=1) rfl
  have hgone:zoq W11 (k:Int)=(((gi W11.cpus (k:Int)).cur != -1) && !(((tkk W11 (gi W11.cpus (k:Int)).cur).cpu==(k:Int))&&ze3 W11 (gi W11.cpus (k:Int)).cur)):=by
   unfold zoq
   have e:decide ((gi W11.cpus (k:Int)).cur>=0)=((gi W11.cpus (k:Int)).cur != -1):=by
    by_cases hc:(gi W11.cpus (k:Int)).cur = -1
    ·rw [hc]; rfl
    ·rw [bne_iff_ne.2 hc,decide_eq_true (by omega)]
   rw [e,Bool.not_and]
   rfl
  refine ⟨he3,hK11,_,hcpu,hsome,_,hcell,_,fun _=>hcpu,fun _=>hsome,_,fun _=>hcell,_,fun g=>zqu hp hS11'.a (hT g).1 (hT g).2 (by omega) c3' (fun hs=>(hS11'.li (hT g).1 (hT g).2 hs).1),fun g wr12 hx12 hs12 => ?_,fun g => ?_⟩
  ·have hM12:=hM11.step hx12
   refine Calls.mono (zgh hM12.pw (c:=(k:Int)) (by omega) c3') ?_
   rintro e4 wv9 ⟨he4,hy4⟩
   refine ⟨he4,hM12.kept hy4 hs12,⟨by omega,by omega⟩,fun w6 hx6 _=>zan (by omega) ⟨by omega,?_⟩⟩
   rw [hdef7,hstep,if_pos (by rw [hgone]; exact g)]
   exact ((hM12.call hy4 hs12).step hx6).close
  ·refine ⟨⟨by omega,by omega⟩,fun w6 hx6 _=>zan (by omega) ⟨by omega,?_⟩⟩
   rw [hdef7,hstep,if_neg (by rw [hgone,g]; decide)]
   exact (hM11.step hx6).close
 ·have hge:=of_decide_eq_false hge
  rw [hend7 (by omega)]
  exact fun w9 hx9=>⟨rfl,hM7.nil hx9⟩
end
section
variable {b:Bnd} {m:MG} {w:World}
theorem zaaf (h1:RdI [] w m.lO b.locals) (h2:RdB [] w m.dO b.dry) (l1:b.locals.length<=1048576) (l2:b.dry.length<=1048576) :
  Calls Tryz.prog zis #[.agg (zdj b m).toArray] w fun e w'=>∃p,e = .returned (.agg (zdj b p).toArray)/\zdl w.heap.size w' b p/\ExtX [] w w':=by
 refine (zwi b.quota b.pool b.spent m.lO b.locals.length m.lC m.dO b.dry.length m.dC (R:=fun v w'=>∃p,v = .agg (zdj b p).toArray/\zdl w.heap.size w' b p/\ExtX [] w w') ?_).mono fun e w' ⟨v,he,p,hv,h3⟩=>⟨p,by rw [he,hv],h3⟩
 have hm9:=zcx
 intro x hx x5 hx5 wr hx0 hs0
 have s0:Sc w [x,x5] wr:=(((Sc.start w).add hx).add hx5).call0 hx0
 refine ⟨_,_,_,_,z1h zgj zrr b.locals.length (by omega) (by omega) wr,zaz (zcp _ _) hs0,fun wr1 hx1 hs1 => ?_⟩
 have hL0:Ob encI 1 zao wr.heap.size [x,x5] _ (some ⟨wr.heap.size,0,none⟩) b.locals.length (List.replicate b.locals.length (0:Int)):=Ob.of (zoa (enc:=encI) zgj.len zao b.locals.length (0:Int) wr) hs0
 have s1:=(s0.call0 (zcp wr (.cells ((List.replicate b.locals.length (0:Int)).flatMap encI).toArray zao))).step hx1
 have hL1:=hL0.step hx1
 obtain ⟨n1,w2,hrun1,hL2,hy1⟩:=zadj zgj zrr oneI (by decide) (c2:=m.lC) hL1.own (h1.ext s1.ext) (m:=b.locals) (by simp) zao #[false,false]
 rw [List.length_replicate] at hrun1
 have s2:=s1.call hy1 fun y hy=>Nat.le_trans s0.ext.size (hL1.own.lt y hy).1
 have hL2':Ob encI 1 zao wr.heap.size [x,x5] w2 (some ⟨wr.heap.size,0,none⟩) b.locals.length b.locals:=⟨hL2,hL1.nb⟩
 refine ⟨_,_,hrun1,zn8 hy1 hs1 hL1.nb,fun wr2 hx2 hs2=>⟨_,_,_,_,z1h zh1 zyt b.dry.length (by omega) (by omega) wr2,zaz (zcp _ _) hs2,fun wr3 hx3 hs3 => ?_⟩⟩
 have s3:=((s2.step hx2).call0 (zcp wr2 (.cells ((List.replicate b.dry.length false).flatMap encB).toArray zdg))).step hx3
 have hL3:=((hL2'.step hx2).call0 (zcp wr2 (.cells ((List.replicate b.dry.length false).flatMap encB).toArray zdg))).step hx3
 have hD0:Ob encB 1 zdg wr2.heap.size [x,x5] _ (some ⟨wr2.heap.size,0,none⟩) b.dry.length (List.replicate b.dry.length false):=Ob.of (zoa (enc:=encB) zh1.len zdg b.dry.length false wr2) hs2
 have hD1:=hD0.step hx3
 obtain ⟨n2,w4,hrun2,hD2,hy2⟩:=zadj zh1 zyt oneB (by decide) (c2:=m.dC) hD1.own (h2.ext s3.ext) (m:=b.dry) (by simp) zao #[false,false]
 rw [List.length_replicate] at hrun2
 have hz2:w.heap.size<=wr2.heap.size:=(s2.step hx2).ext.size
 have s4:=s3.call hy2 fun y hy=>Nat.le_trans hz2 (hD1.own.lt y hy).1
 have hL4:=hL3.call hy2 (hL3.own.ty_ne hD1.own (by decide))
 have hD3:Ob encB 1 zdg wr2.heap.size [x,x5] w4 (some ⟨wr2.heap.size,0,none⟩) b.dry.length b.dry:=⟨hD2,hD1.nb⟩
 exact ⟨_,_,hrun2,zn8 hy2 hs3 hD1.nb,fun wr4 hx4=>⟨⟨some ⟨wr.heap.size,0,none⟩,b.locals.length,some ⟨wr2.heap.size,0,none⟩,b.dry.length,none,0⟩,rfl,⟨(hL4.step hx4).own.mono s0.ext.size,(hD3.step hx4).own.mono hz2⟩,(s4.step hx4).ext⟩⟩
end
theorem zuw {α:Type} [Inhabited α] {P:Program} {enc:α->List Value} {z:Nat} {ty t:TypeId} {bytes:Nat} {zero:α} (E:Elt P enc z ty bytes zero) (ht:P.underlying t=some (.slice ty)) (hone:∀x,zbd (enc x)=true) (hz0:0<z) {w:World} {o:Option Addr} {c:Nat} {l:List α}
  (h:Rd enc z [] w o l) (hl:l.length<=1048576) (hby:bytes<=1000) (tr:TypeId) (cs:Array Bool) :
  ∃o' c' w',(builtin .append #[t,t] tr cs #[.slice none 0 0,.slice o l.length c]).run P w = .ok (.value (.slice o' l.length c')) w'/\Own enc z ty w.heap.size w' o' c' l/\ExtX [] w w':=by
 have hO:Own enc z ty w.heap.size w none 0 ([]:List α):=.inl ⟨rfl,rfl,rfl⟩
 have hbb:(2*(([]:List α).length+l.length))*bytes<=281474976710656:=by
  rw [List.length_nil,Nat.zero_add]
  exact Nat.le_trans (Nat.mul_le_mul (show 2*l.length<=2097152 by omega) hby) (by decide)
 obtain ⟨o',c',w',h1,h2,h3,_⟩:=zadi E ht hO (zag8 E.len hone ht h (c:=c) hz0) hbb (by rw [List.length_nil]; omega) tr (Nat.le_refl _)
 rw [List.length_nil,Nat.zero_add] at h1
 exact ⟨o',c',w',z0u h1,h2,h3⟩
theorem z9f (W:Wld) (ms:Nat->MG) (n k:Nat) (hk:k<n) (p:MG):(psOf W ms n).set k (gi W.groups (k:Int),p)=psOf W (fun j=>if j=k then p else ms j) n:=by
 refine zagx (by rw [List.length_set,zd0,zd0]) fun j hj => ?_
 rw [List.length_set,zd0] at hj
 have:=za4 (psOf W ms n) (gi W.groups (k:Int),p) (i:=(k:Int)) (by omega) (by rw [zd0]; omega) (j:=(j:Int)) (by omega)
 rw [Int.toNat_natCast] at this
 rw [this,zss (by omega) (by omega),zss (by omega) (by omega)]
 by_cases e:k=j
 ·subst e; simp
 ·rw [if_neg (by omega),if_neg (by simp; omega)]
theorem zaap (W:Wld) {ms ms':Nat->MG} {n:Nat} (h:∀j,j<n->ms j=ms' j):psOf W ms n=psOf W ms' n:=by
 unfold psOf
 exact List.map_congr_left fun j hj=>by rw [h j (List.mem_range.1 hj)]
section
variable {W:Wld} {m:MW} {w:World}
set_option maxHeartbeats 1000000 in
theorem zxk (h:RdW [] w W m) (ha:WA W) :
  Calls Tryz.prog zfr #[.agg (encW W m).toArray] w fun e w'=>∃m',e = .returned (.agg (encW W m').toArray)/\MWd 8 w.heap.size w' W m'/\ExtX [] w w':=by
 refine (zt5 W.now m.cO W.cpus.length m.cC m.tO W.tasks.length m.tC m.gO W.groups.length m.gC (R:=fun v w'=>∃m',v = .agg (encW W m').toArray/\MWd 8 w.heap.size w' W m'/\ExtX [] w w') ?_).mono fun e w' ⟨v,he,m',hv,h3⟩=>⟨m',by rw [he,hv],h3⟩
 have hcl:=ha.c2
 have htl:=ha.t
 have hgl:=ha.gl
 intro x hx x1 hx1 x2 hx2 wr hx0 hs0
 have s0:Sc w [x,x1,x2] wr:=((((Sc.start w).add hx).add hx1).add hx2).call0 hx0
 obtain ⟨cO,cC,w1,hrun1,hC1,hy1⟩:=zuw zsd zma oneC (by decide) (c:=m.cC) (h.c.ext s0.ext) (by omega) (by decide) zbf #[false,false]
 refine ⟨_,_,_,_,hrun1,zaz hy1 hs0,fun wr1 hx1' hs1 => ?_⟩
 have s1:=(s0.call0 hy1).step hx1'
 have hC2:=(Ob.of hC1 hs0).step hx1'
 obtain ⟨tO,tC,w2,hrun2,hT1,hy2⟩:=zuw zlr zla oneT (by decide) (c:=m.tC) (h.t.ext s1.ext) (by omega) (by decide) za2 #[false,false]
 refine ⟨_,_,_,_,hrun2,zaz hy2 hs1,fun wr2 hx2' hs2 => ?_⟩
 have s2:=(s1.call0 hy2).step hx2'
 have hC3:=(hC2.call0 hy2).step hx2'
 have hT3:=(Ob.of hT1 hs1).step hx2'
 have hrp:Rd encP 14 [] wr2 m.gO (psOf W m.ms 8):=fun i h0 hi=>by
  rw [zd0] at hi
  rw [zss h0 hi]
  exact (h.g.ext s2.ext).cells i h0 (by omega)
 obtain ⟨gO,gC,w3,hrun3,hG1,hy3⟩:=zuw zc1 zkb (fun p=>oneG p.1 p.2) (by decide) (c:=m.gC) hrp (by rw [zd0]; decide) (by decide) zal #[false,false]
 rw [zd0] at hrun3
 have hrun3':(builtin .append #[zal,zal] zal #[false,false] #[.slice none 0 0,.slice m.gO W.groups.length m.gC]).run Tryz.prog wr2 = .ok (.value (.slice gO W.groups.length gC)) w3:=by rw [hgl]; exact hrun3
 have z1:w.heap.size<=wr1.heap.size:=s1.ext.size
 have z2:w.heap.size<=wr2.heap.size:=s2.ext.size
 have s3:=s2.call0 hy3
 have hC4:=(hC3.call0 hy3).mono s0.ext.size
 have hT4:=(hT3.call0 hy3).mono z1
 have hG4:=Ob.of hG1 hs2
 refine ⟨_,_,_,_,hrun3',zaz hy3 hs2,fun vs w4=>∃(k:Nat) (ms:Nat->MG),vs=[.int .i64 (k:Int)]/\k<=8/\Sc w [x,x1,x2] w4/\wr2.heap.size<=w4.heap.size/\Ob encC 5 zba w.heap.size [x,x1,x2] w4 cO cC W.cpus/\Ob encT 9 zau w.heap.size [x,x1,x2] w4 tO tC W.tasks/\Ob encP 14 zaw wr2.heap.size [x,x1,x2] w4 gO gC (psOf W ms 8)
   /\ (∀j,j<k->OwnM wr2.heap.size w4 (gi W.groups (j:Int),ms j)/\∀y∈zam (ms j),y∉[x,x1,x2])/\(∀i j,i<k->j<k->i≠j->∀y∈zam (ms i),y∉zam (ms j))/\(∀j,k<=j->ms j=m.ms j),
  zd5 W.groups.length 0,fun w4 hx4 _=>⟨0,m.ms,rfl,by decide,s3.step hx4,Nat.le_trans hy3.size hx4.size,hC4.step hx4,hT4.step hx4,hG4.step hx4,fun j hj=>by omega,fun i j hi=>by omega,fun j _=>rfl⟩,?_⟩
 clear s3 hC4 hT4 hG4 hG1 hrp hrun3 hrun3' hC3 hT3 hC2 hT1 hrun1 hrun2 hC1
 rintro x9 wv3 hs3 ⟨k,ms,he,hk,s3,z3,hC,hT,hG,hE,hJ,hF⟩
 simp only [List.cons.injEq,Value.int.injEq,true_and,and_true] at he
 subst he
 refine ⟨fun hlt => ?_,fun hge => ?_⟩
 ·have hlt:=of_decide_eq_true hlt
  have hrb:RdG [x,x1,x2] wv3 m.gO W.groups m.ms:=(h.g.wide (cs:=[x,x1,x2]) fun y hm=>.inr (s3.new y hm)).ext s3.ext.of_nil
  have hix:=hrb.ix (i:=(k:Int)) (by omega) hlt
  obtain ⟨bl1,bl2,bl3⟩:=zqe ha (k:=(k:Int)) (by omega) (by omega)
  refine ⟨hix,_,_,_,_,_,_,_,_,_,_,_,_,_,_,_,_,_,_,_,_,hrb.cells (k:Int) (by omega) hlt,fun b3 hb3 wr4 hx4 hs4 => ?_⟩
  have s4:=s3.put hx4 hb3
  have hC4:=hC.put hx4 hb3
  have hT4:=hT.put hx4 hb3
  have hG4:=hG.put hx4 hb3
  have hr4:=h.g.ext s4.ext
  have z4:wr2.heap.size<=wr4.heap.size:=Nat.le_trans z3 hx4.size
  refine Calls.mono (zaaf (hr4.locals (k:Int) (by omega) hlt) (hr4.dry (k:Int) (by omega) hlt) (by omega) (by omega)) ?_
  rintro e wv4 ⟨p,he,hB,hy4⟩
  have s5:=s4.call0 hy4
  have hC5:=hC4.call0 hy4
  have hT5:=hT4.call0 hy4
  have hG5:=hG4.call0 hy4
  have hgk:gi (psOf W ms 8) (k:Int)=(gi W.groups (k:Int),ms k):=by rw [zss (by omega) (by omega),Int.toNat_natCast]
  have hmk:ms k=m.ms k:=hF k (Nat.le_refl _)
  have hBn:∀y∈zfc p,wr4.heap.size<=y:=fun y hm=>(hB.lt y hm).1
  have e1:=hG5.own.sto zc1.len (i:=(k:Int)) (by omega) (by rw [zd0]; omega) (j:=8) (vs:=zdj (gi W.groups (k:Int)).band p) (x:=(gi W.groups (k:Int),putM (ms k) p)) (by rw [hgk]; rfl) (by simp [zdj])
  have hgix:=hG5.own.ix (i:=(k:Int)) (by omega) (by rw [zd0]; omega)
  have hgwr:=hG5.own.wr zc1.len hG5.nb (i:=(k:Int)) (by omega) (by rw [zd0]; omega) (j:=8) (n:=5) (by decide)
  rw [zd0] at hgix
  have hgix':Ix gO W.groups.length (k:Int):=by rw [hgl]; exact hgix
  simp only [Int.toNat_natCast] at e1 hgwr
  rw [z9f W ms 8 k (by omega)] at e1
  refine ⟨_,_,_,_,_,_,_,_,_,he,zaz hy4 hs4,rfl,hgix',hgwr,fun wr5 hx5 hs5 => ?_⟩
  have hX5:=hG5.own.stoX (k*14+8) (zdj (gi W.groups (k:Int)).band p)
  have s6:=(s5.call hX5 fun y hy=>Nat.le_trans z2 (hG5.own.lt y hy).1).step hx5
  have hC6:=(hC5.call hX5 (hC5.own.ty_ne hG5.own (by decide))).step hx5
  have hT6:=(hT5.call hX5 (hT5.own.ty_ne hG5.own (by decide))).step hx5
  have hG6:Ob encP 14 zaw wr2.heap.size ([x,x1,x2]++[b3]) wr5 gO gC (psOf W (fun j=>if j=k then putM (ms k) p else ms j) 8):=(⟨e1,hG5.nb⟩:Ob encP 14 zaw wr2.heap.size ([x,x1,x2]++[b3]) _ gO gC _).step hx5
  have hBnb:∀y∈zfc p,y∉[x,x1,x2]++[b3]:=fun y hm hm'=>by
   have:=hBn y hm
   have:=hs4 y hm'
   omega
  have hBg:∀y∈zfc p,y∉za9 gO:=fun y hm hm'=>by
   have:=hBn y hm
   have:=(hG4.own.lt y hm').2
   omega
  have hB6:=(hB.ext hX5 hBg).ext hx5 hBnb
  have z5:wr4.heap.size<=wr5.heap.size:=Nat.le_trans (Nat.le_trans hy4.size hX5.size) hx5.size
  obtain ⟨sO,sC,w6,hrun6,hS6,hy6⟩:=zuw zld zkc oneS (by decide) (c:=(m.ms k).sC) ((h.g.ext s6.ext).shelves (k:Int) (by omega) hlt) (by omega) (by decide) za8 #[true,false]
  have s7:=s6.call0 hy6
  have hC7:=hC6.call0 hy6
  have hT7:=hT6.call0 hy6
  have hG7:=hG6.call0 hy6
  have hB7:=hB6.ext0 hy6
  have hgk2:gi (psOf W (fun j=>if j=k then putM (ms k) p else ms j) 8) (k:Int)=(gi W.groups (k:Int),putM (ms k) p):=by
   rw [zss (by omega) (by omega),Int.toNat_natCast,if_pos rfl]
  have e2:=hG7.own.sto zc1.len (i:=(k:Int)) (by omega) (by rw [zd0]; omega) (j:=13) (vs:=[.slice sO (gi W.groups (k:Int)).shelves.length sC]) (x:=(gi W.groups (k:Int),⟨p.lO,p.lC,p.dO,p.dC,sO,sC⟩)) (by rw [hgk2]; rfl) (by simp)
  have hgwr2:=hG7.own.wr zc1.len hG7.nb (i:=(k:Int)) (by omega) (by rw [zd0]; omega) (j:=13) (n:=1) (by decide)
  simp only [Int.toNat_natCast] at e2 hgwr2
  rw [z9f _ _ 8 k (by omega)] at e2
  have hms2:psOf W (fun j=>if j=k then (⟨p.lO,p.lC,p.dO,p.dC,sO,sC⟩:MG) else if j=k then putM (ms k) p else ms j) 8=psOf W (fun j=>if j=k then (⟨p.lO,p.lC,p.dO,p.dC,sO,sC⟩:MG) else ms j) 8:=zaap W fun j _=>by
   by_cases e:j=k
   ·rw [if_pos e,if_pos e]
   ·rw [if_neg e,if_neg e,if_neg e]
  rw [hms2] at e2
  have hX7:=hG7.own.stoX (k*14+13) [.slice sO (gi W.groups (k:Int)).shelves.length sC]
  refine ⟨_,_,_,_,hrun6,zaz hy6 hs5,rfl,hgix',hgwr2,⟨by omega,by omega⟩,fun w9 hx9 _=>⟨⟨k+1,fun j=>if j=k then (⟨p.lO,p.lC,p.dO,p.dC,sO,sC⟩:MG) else ms j,rfl,by omega,?_,?_,?_,?_,?_,?_,?_,?_⟩,?_⟩⟩
  ·exact ((s7.call hX7 fun y hy=>Nat.le_trans z2 (hG7.own.lt y hy).1).step hx9).sub (by simp)
  ·exact Nat.le_trans (Nat.le_trans (Nat.le_trans (Nat.le_trans z4 z5) hy6.size) hX7.size) hx9.size
  ·exact ((hC7.call hX7 (hC7.own.ty_ne hG7.own (by decide))).step hx9).sub (by simp)
  ·exact ((hT7.call hX7 (hT7.own.ty_ne hG7.own (by decide))).step hx9).sub (by simp)
  ·exact ((⟨e2,hG7.nb⟩:Ob encP 14 zaw wr2.heap.size ([x,x1,x2]++[b3]) _ gO gC _).step hx9).sub (by simp)
  ·intro j hj
   have hSn:∀y∈za9 sO,wr5.heap.size<=y:=fun y hm=>(hS6.lt y hm).1
   by_cases e:j=k
   ·subst e
    simp only [if_true]
    have hSnb:∀y∈za9 sO,y∉[x,x1,x2]++[b3]:=fun y hm hm'=>by
     have:=hSn y hm
     have:=hs5 y hm'
     omega
    have hO9:OwnM wr2.heap.size w9 (gi W.groups (j:Int),⟨p.lO,p.lC,p.dO,p.dC,sO,sC⟩):=by
     have hB9:=((hB7.ext hX7 hBg).ext hx9 hBnb).mono z4
     exact ⟨hB9.loc,hB9.dry,(((hS6.ext hX7 (hS6.ty_ne hG7.own (by decide))).ext hx9 hSnb)).mono (Nat.le_trans z4 z5)⟩
    refine ⟨hO9,fun y hm hm' => ?_⟩
    have hm'':y∈[x,x1,x2]++[b3]:=List.mem_append_left _ hm'
    simp only [zam,List.mem_append] at hm
    rcases hm with (hm | hm) | hm
    ·exact hBnb y (List.mem_append_left _ hm) hm''
    ·exact hBnb y (List.mem_append_right _ hm) hm''
    ·exact hSnb y hm hm''
   ·dsimp only
    rw [if_neg e]
    obtain ⟨hm1,hm2⟩:=hE j (by omega)
    refine ⟨?_,hm2⟩
    have hnb3:∀y∈zam (ms j),y∉[x,x1,x2]++[b3]:=fun y hm hm'=>by
     rcases List.mem_append.1 hm' with h1 | h1
     ·exact hm2 y hm h1
     ·have:y=b3:=by simpa using h1
      have:=(hm1.lt y hm).2
      omega
    have hgg:∀y∈zam (ms j),y∉za9 gO:=zfm (p:=(gi W.groups (j:Int),ms j)) hG.own hm1
    exact ((((((hm1.ext hx4 hm2).ext0 hy4).ext hX5 hgg).ext hx5 hnb3).ext0 hy6).ext hX7 hgg).ext hx9 hnb3
  ·intro i j hi hj hij y hm hm'
   dsimp only at hm hm'
   have hnew:∀y∈zam (⟨p.lO,p.lC,p.dO,p.dC,sO,sC⟩:MG),wr4.heap.size<=y:=fun y hm=>by
    simp only [zam,List.mem_append] at hm
    rcases hm with (hm | hm) | hm
    ·exact hBn y (List.mem_append_left _ hm)
    ·exact hBn y (List.mem_append_right _ hm)
    ·exact Nat.le_trans z5 (hS6.lt y hm).1
   have hold:∀j,j<k->∀y∈zam (ms j),y<wr4.heap.size:=fun j hj y hm=>Nat.lt_of_lt_of_le ((hE j hj).1.lt y hm).2 hx4.size
   by_cases e1:i=k
   ·rw [if_pos e1] at hm
    by_cases e2:j=k
    ·omega
    ·rw [if_neg e2] at hm'
     have:=hnew y hm
     have:=hold j (by omega) y hm'
     omega
   ·rw [if_neg e1] at hm
    by_cases e2:j=k
    ·rw [if_pos e2] at hm'
     have:=hnew y hm'
     have:=hold i (by omega) y hm
     omega
    ·rw [if_neg e2] at hm'
     exact hJ i j (by omega) (by omega) hij y hm hm'
  ·intro j hj
   dsimp only
   rw [if_neg (by omega)]
   exact hF j (by omega)
  ·simp only [zd5,cntM,zef,List.getElem?_cons_zero]; omega
 ·have hge:=of_decide_eq_false hge
  have hk8:k=8:=by omega
  subst hk8
  refine fun w9 hx9=>⟨⟨cO,cC,tO,tC,gO,gC,ms⟩,rfl,⟨(hC.step hx9).own,(hT.step hx9).own,?_,hgl⟩,(s3.step hx9).ext⟩
  have e:psW W ⟨cO,cC,tO,tC,gO,gC,ms⟩=psOf W ms 8:=by unfold psW psOf; rw [hgl]
  rw [e]
  have hgi:∀i:Int,0<=i->i<((psOf W ms 8).length:Int)->i.toNat<8/\gi (psOf W ms 8) i=(gi W.groups ((i.toNat:Nat):Int),ms i.toNat):=fun i a b=>by
   rw [zd0] at b
   refine ⟨by omega,?_⟩
   rw [zss a b,show ((i.toNat:Nat):Int)=i by omega]
  refine ⟨(hG.step hx9).own.mono z2,fun i a b => ?_,fun i j a b a' b' hij => ?_⟩
  ·obtain ⟨c1,c2⟩:=hgi i a b
   rw [c2]
   exact ((hE _ c1).1.ext hx9 (hE _ c1).2).mono z2
  ·obtain ⟨c1,c2⟩:=hgi i a b
   obtain ⟨d1,d2⟩:=hgi j a' b'
   rw [c2,d2]
   exact hJ _ _ c1 d1 (by omega)
end
end Go.Proofs.YtclpmgfpjeaibaaGreatDoor
