/- Part 14 of what the law FnPinned needs: the engine, the functions' propositions, the contracts. -/
import Derived.Test.YtclpmgfpjeaibaaGreatFnPinnedPm
import Derived.Laws.BytesArg
namespace Go.Proofs.YtclpmgfpjeaibaaGreat
open Go.RowKit
set_option linter.unusedVariables false
set_option linter.unusedSimpArgs false
set_option maxRecDepth 10000
theorem zjw {α:Type} [Inhabited α] {l:List α} {i:Int} (h0:0<=i) (h1:i<(l.length:Int)):l.set i.toNat (gi l i)=l:=by
 obtain ⟨k,rfl⟩:=Int.eq_ofNat_of_zero_le h0;rw [JD (by omega),Int.toNat_natCast,List.set_getElem_self]
section
variable {n base:Nat} {W:Q8} {m:MW} {w w':World} {G G':Zv} {i:Int}
end
section
variable {base:Nat} {W:Q8} {m:MW} {w:World}
theorem zbo {W W':Q8} (h:Fr W W'):W'.cpus.length=W.cpus.length/\W'.tasks.length=W.tasks.length/\W'.groups.length=W.groups.length:=⟨h.c,by rw [h.t],h.g.len⟩
theorem zfo {n:Nat} {bs:List Nat} {w0 w:World} {W0 W:Q8} {m0 m:MW} (h:Mv n base bs w0 m0 w W m) (hf:Fr W0 W):Qa W m=Qa W0 m0:=h.encW_eq hf.n hf.c (by rw [hf.t]) hf.g.len
set_option maxHeartbeats 1000000 in
theorem Qq {K:Int} (h:Yf 8 base w W m) (hsw:SW K W) (hK0:0<=K) (hK:K<=100000000000000000) (hbase:base<=w.heap.size) :
  Cz Qh #[.agg (Qa W m).toArray] w fun e w'=>∃m',e = .returned (.agg (Qa (Qg W) m').toArray)/\Mv 8 base [] w m w' (Qg W) m':=by
 refine (F5 W.now m.cO W.cpus.length m.cC m.tO W.tasks.length m.tC m.gO W.groups.length m.gC (R:=fun v w'=>∃m',v = .agg (Qa (Qg W) m').toArray/\Mv 8 base [] w m w' (Qg W) m') ?_).mono fun e w' ⟨v,he,m',hv,h3⟩=>⟨m',by rw [he,hv],h3⟩
 intro x hx x1 hx1;have hgl:=hsw.a.gl;have hcl4:=hsw.a.c2;have hm9:=Zg;refine ⟨fun vs w1=>∃(k:Nat),vs = .int .i64 (k:Int)::Qa W m/\k<=W.cpus.length/\Mv 8 base [x,x1] w m w1 (Yz W k) m,Zw W.cpus.length 0,fun w1 hx0 _=>⟨0,rfl,Nat.zero_le _,(Mv.two h hx hx1).call0 hx0⟩,?_⟩;rintro c1 l l1O l1L l1C l2O l2L l2C l3O l3L l3C wv2 hs2 ⟨k,he,hk,hM⟩;obtain ⟨hS,hO⟩:=TI (F:=K) (K:=K+Qk) (hsw.sf.mono (Int.le_refl _) (by simp only [Qk]; omega)) (Int.le_refl _) k hk;have hdef:Yz W (k+1)=QJ (Yz W k) (k:Int):=rfl;have hend:k=W.cpus.length->Yz W W.cpus.length=Yz W k:=fun e=>by rw [e]
 have e0:=zfo hM hO.fr;obtain ⟨n1,n2,n3⟩:=zbo hO.fr;simp only [Qa,List.cons.injEq,Value.int.injEq,Value.slice.injEq,true_and,and_true] at he;obtain ⟨rfl,rfl,⟨rfl,rfl,rfl⟩,⟨rfl,rfl,rfl⟩,rfl,rfl,rfl⟩:=he;generalize Yz W k=W1 at hM hS hO hdef hend e0 n1 n2 n3;refine ⟨fun hlt wr3 hx3 hs3 => ?_,fun hge wr5 hx5 hs5 => ?_⟩
 ·have hlt:=of_decide_eq_true hlt;have hM3:=hM.step hx3;have hcall:=MK hM3.own hS (by omega) (by simp only [Qk]; omega) (c:=(k:Int)) (by omega) (by omega);rw [e0] at hcall;refine Calls.mono hcall ?_;rintro e wv3 ⟨he,hy⟩;refine ⟨_,_,_,_,_,_,_,_,_,_,he,hM3.kept hy hs3,⟨by omega,by omega⟩,fun wr4 hx4 _=>⟨⟨k+1,rfl,by omega,?_⟩,?_⟩⟩
  ·rw [hdef];exact (hM3.call hy hs3).step hx4
  ·simp only [Zw,XM,ZW,List.getElem?_cons_zero]; omega
 ·have hge:=of_decide_eq_false hge;have hkk:k=W.cpus.length:=by omega
  have hend:=hend hkk;have hM5:=hM.step hx5;have hb5:base<=wr5.heap.size:=by have:=hM5.ext.size; omega
  have hcall:=C5 hM5.own hS hb5;rw [e0] at hcall;refine Calls.mono hcall ?_;rintro e2 wv4 ⟨m4,he2,hy2⟩;obtain ⟨hS4,hO4⟩:=T4 hS 8 (by decide);have hM6:=hM5.call hy2 hs5;have hset:Qg W=Jp (KV W1) W.cpus.length:=by unfold Qg; rw [hend]
  have hf4:Fr W (KV W1):=hO.fr.trans hO4.fr;have hS4':SW (K+Qk) (KV W1):=hS4.w;have hlen4:=zbo hf4;generalize KV W1=W4 at hM6 hset hf4 hS4' hlen4;refine ⟨_,_,_,_,_,_,_,_,_,_,he2,hM5.kept hy2 hs5,fun vs w1=>∃(k:Nat) (m1:MW),vs = .int .i64 (k:Int)::Qa W m/\k<=W.cpus.length/\Mv 8 base [x,x1] w m w1 (Jp W4 k) m1,Zw W.cpus.length 0,fun w1 hx0 _=>⟨0,m4,rfl,Nat.zero_le _,hM6.step hx0⟩,?_⟩;rintro c3 l l1O l1L l1C l2O l2L l2C l3O l3L l3C wv7 hs7 ⟨k,m7,he,hk,hM7⟩;obtain ⟨hS7,hf7⟩:=K0 hS4' (by simp only [Qk]; omega) k (by omega);have hdef7:Jp W4 (k+1)=Va (Jp W4 k) (k:Int):=rfl;have hend7:k=W.cpus.length->Qg W=Jp W4 k:=fun e=>by rw [hset,e]
  have hfW:=hf4.trans hf7;have e7:=zfo hM7 hfW;obtain ⟨q1,q2,q3⟩:=zbo hfW;simp only [Qa,List.cons.injEq,Value.int.injEq,Value.slice.injEq,true_and,and_true] at he;obtain ⟨rfl,rfl,⟨rfl,rfl,rfl⟩,⟨rfl,rfl,rfl⟩,rfl,rfl,rfl⟩:=he;generalize Jp W4 k=W7 at hM7 hS7 hf7 hdef7 hend7 hfW e7 q1 q2 q3;refine ⟨fun hlt wr9 hx9 hs9 => ?_,fun hge => ?_⟩
  ·have hlt:=of_decide_eq_true hlt;have hM9:=hM7.step hx9;have hk4:(k:Int)<=4:=by omega
   have hKb:K+Qk+(k:Int)*Qk+Qk<=1000000000000000000:=by simp only [Qk]; omega
   have c1':(k:Int)<(W7.cpus.length:Int):=by omega
   have hSF:=hS7.sf.mono (F':=K+Qk+(k:Int)*Qk) (K':=K+Qk+(k:Int)*Qk+Qk) (Int.le_refl _) (by simp only [Qk]; omega);have hcall:=MK hM9.own hSF (Int.le_refl _) hKb (c:=(k:Int)) (by omega) c1';rw [e7] at hcall;refine Calls.mono hcall ?_;rintro e4 wv8 ⟨he4,hy4⟩;obtain ⟨hS8,hO8⟩:=Dh hSF (Int.le_refl _) (c:=(k:Int)) (by omega) c1';have hM8:=hM9.call hy4 hs9;refine ⟨_,_,_,_,_,_,_,_,_,_,he4,hM9.kept hy4 hs9,fun wr10 hx10 hs10 => ?_⟩;have hM10:=hM8.step hx10;have hstep:Va W7 (k:Int)=if PW (Zi (QJ W7 (k:Int)) (k:Int)) (k:Int)=true then endW (Zi (QJ W7 (k:Int)) (k:Int)) (k:Int) else Zi (QJ W7 (k:Int)) (k:Int):=rfl;have c2':(k:Int)<((QJ W7 (k:Int)).cpus.length:Int):=by rw [hO8.c]; exact c1'
   have hcall5:=Fk hM10.own hS8.w (by simp only [Qk]; omega) (c:=(k:Int)) (by omega) c2';rw [TA hO8.fr,e7] at hcall5;obtain ⟨hS11,hO11⟩:=Ki hS8.w (by simp only [Qk]; omega) (c:=(k:Int)) (by omega) c2' 8 (by decide);refine Calls.mono hcall5 ?_;rintro e5 wv9 ⟨he5,hy5⟩;have hM11:=hM10.call hy5 hs10;have hK11:=hM10.kept hy5 hs10;have hf11:Fr W (Zi (QJ W7 (k:Int)) (k:Int)):=(hfW.trans hO8.fr).trans hO11.fr;have hS11':SW (K+Qk+(k:Int)*Qk+Qk) (Zi (QJ W7 (k:Int)) (k:Int)):=hS11;generalize Zi (QJ W7 (k:Int)) (k:Int)=W11 at hM11 hf11 hS11' hstep;have e11:=zfo hM11 hf11;have hm11:m7.cO=m.cO/\m7.tO=m.tO:=by rw [hM7.hd]; exact ⟨rfl,rfl⟩
   obtain ⟨r1,r2,r3⟩:=zbo hf11;have hr:=hM11.rd;have c3':(k:Int)<(W11.cpus.length:Int):=by omega
   have hcur:=hS11'.cu (k:Int) (by omega) c3';have htl:=hS11'.a.t;have hixC:=hr.c.ix ZS (i:=(k:Int)) (by omega) c3';have hrC:=hr.c.f (i:=(k:Int)) (by omega) c3' (j:=1) rfl
   have hT:(decide ((gi W11.cpus (k:Int)).cur>=0))=true->0<=(gi W11.cpus (k:Int)).cur/\(gi W11.cpus (k:Int)).cur<(W11.tasks.length:Int):=fun g=>by
    have:=of_decide_eq_true g;exact ⟨this,by omega⟩
   have hline:∀g:(decide ((gi W11.cpus (k:Int)).cur>=0))=true,PX [x,x1] Yb #[.agg (Qa W m).toArray,.int .i64 (gi W11.cpus (k:Int)).cur] wv9 (.bool (Zr W11 (gi W11.cpus (k:Int)).cur)):=fun g=>by
    have:=U6 hr hS11'.a (hT g).1 (hT g).2 (fun hs=>hS11'.li (hT g).1 (hT g).2 hs)
    rwa [e11] at this
   rw [r1,hm11.1] at hixC;rw [hm11.1] at hrC;refine ⟨_,_,_,_,_,_,_,_,_,_,he5,hK11,hixC,_,hrC,fun g => ?_,(Q7 W11 (gi W11.cpus (k:Int)).cur).cpu,fun g => ?_,Zr W11 (gi W11.cpus (k:Int)).cur,fun _ g=>hline g,fun g wr11 hx11 hs11 => ?_,fun g => ?_⟩
   ·have:=hr.t.ix Qz (hT g).1 (hT g).2
    rwa [r2,hm11.2] at this
   ·have:=hr.t.f (hT g).1 (hT g).2 (j:=2) rfl
    rwa [hm11.2] at this
   ·have hM12:=hM11.step hx11;have hcall6:=Zj hM12.own (c:=(k:Int)) (by omega) c3';rw [e11] at hcall6;refine Calls.mono hcall6 ?_;rintro e6 wv10 ⟨he6,hy6⟩;have e12:=TA (m:=m7) (BW W11 (k:Int));rw [e11] at e12;rw [e12] at he6;refine ⟨_,_,_,_,_,_,_,_,_,_,he6,hM12.kept hy6 hs11,⟨by omega,by omega⟩,fun wr12 hx12 _=>⟨⟨k+1,m7,rfl,by omega,?_⟩,?_⟩⟩
    ·rw [hdef7,hstep,if_pos (by unfold PW; exact g)];exact (hM12.call hy6 hs11).step hx12
    ·simp only [Zw,XM,ZW,List.getElem?_cons_zero]; omega
   ·refine ⟨⟨by omega,by omega⟩,fun wr12 hx12 _=>⟨⟨k+1,m7,rfl,by omega,?_⟩,?_⟩⟩
    ·rw [hdef7,hstep,if_neg (by unfold PW; rw [g]; decide)];exact hM11.step hx12
    ·simp only [Zw,XM,ZW,List.getElem?_cons_zero]; omega
  ·have hge:=of_decide_eq_false hge;have hend7:=hend7 (by omega);rw [hend7];refine fun w9 hx9=>⟨m7,?_,(hM7.step hx9).close⟩
   rw [e7]; rfl
end
theorem ZV {n:Int} {w:World} {bs:List Nat}:PX bs Zc #[.int .i64 n] w (.bool (decide (n<=Qp))):=Cv n fun wr hx=>rfl
section
variable {W:Q8} {m:MW} {w:World} {bs:List Nat}
theorem Pe (h:Xf bs w W m) (hl:Xe W):PX bs J4 #[.agg (Qa W m).toArray] w (.bool (Jb (Xn W/\KQ W))):=
 DE W.now m.cO W.cpus.length m.cC m.tO W.tasks.length m.tC m.gO W.groups.length m.gC fun wr hx=>by
  have h:=(h.ext hx).less (cs:=[]) (by simp);intro x hx;refine ⟨_,YT h hl.c hl.t hl.g hl.f,_,fun _=>ZV,fun g=>Mf ?_,fun g => ?_⟩
  ·rintro ⟨wp,r⟩;rw [show QA W=true from Qi.2 wp,show decide (W.now<=Qp)=true from decide_eq_true r.n] at g;cases g
  ·simp only [Bool.or_eq_false_iff,Bool.not_eq_false'] at g;have wp:Xn W:=Qi.1 g.1;have hnow:=of_decide_eq_true g.2;have hgl:=wp.a.gl;have htl:=wp.a.t;have hcl:=wp.a.c2;refine Xa W.cpus.length 0 rfl (fun k=>k<=W.cpus.length/\∀c:Int,0<=c->c<(k:Int)->(gi W.cpus c).busy<=Qp/\(gi W.cpus c).idle<=Qp) ⟨Nat.zero_le _,fun c a b=>by omega⟩ fun k ⟨hk,hI⟩=>⟨fun hlt => ?_,fun hge => ?_⟩
   ·have hlt:=of_decide_eq_true hlt;refine ⟨h.c.ix ZS (by omega) hlt,_,h.c.f (by omega) hlt (j:=3) rfl,_,ZV,fun _=>h.c.ix ZS (by omega) hlt,_,fun _=>h.c.f (by omega) hlt (j:=4) rfl,_,fun _=>ZV,fun g2=>Mf ?_,fun g2=>⟨⟨by omega,by omega⟩,Qu (by omega) ⟨by omega,fun c a b => ?_⟩⟩⟩
    ·rintro ⟨_,r⟩;have:=r.c (k:Int) (by omega) hlt;rw [decide_eq_true this.1,decide_eq_true this.2] at g2;cases g2
    ·by_cases e:c=(k:Int)
     ·subst e;simp only [Bool.or_eq_false_iff,Bool.not_eq_false'] at g2;exact ⟨of_decide_eq_true g2.1,of_decide_eq_true g2.2⟩
     ·exact hI c a (by omega)
   have hge:=of_decide_eq_false hge;have hC:∀c:Int,0<=c->c<(W.cpus.length:Int)->(gi W.cpus c).busy<=Qp/\(gi W.cpus c).idle<=Qp:=fun c a b=>hI c a (by omega)
   clear hI;refine Xa W.tasks.length 0 rfl (fun k=>k<=W.tasks.length/\∀t:Int,0<=t->t<(k:Int)->(gi W.tasks t).v<=Qp/\(gi W.tasks t).sum<=Qp/\(gi W.tasks t).used<=Qp) ⟨Nat.zero_le _,fun c a b=>by omega⟩ fun k ⟨hk,hI⟩=>⟨fun hlt => ?_,fun hge => ?_⟩
   ·have hlt:=of_decide_eq_true hlt;have hix:=h.t.ix Qz (i:=(k:Int)) (by omega) hlt;refine ⟨hix,_,h.t.f (by omega) hlt (j:=5) rfl,_,ZV,fun _=>hix,_,fun _=>h.t.f (by omega) hlt (j:=6) rfl,_,fun _=>ZV,fun _=>hix,_,fun _=>h.t.f (by omega) hlt (j:=7) rfl,_,fun _=>ZV,fun g2=>Mf ?_,fun g2=>⟨⟨by omega,by omega⟩,Qu (by omega) ⟨by omega,fun c a b => ?_⟩⟩⟩
    ·rintro ⟨_,r⟩;have:=r.t (k:Int) (by omega) hlt;rw [decide_eq_true this.1,decide_eq_true this.2.1,decide_eq_true this.2.2] at g2;cases g2
    ·by_cases e:c=(k:Int)
     ·subst e;simp only [Bool.or_eq_false_iff,Bool.not_eq_false'] at g2;exact ⟨of_decide_eq_true g2.1.1,of_decide_eq_true g2.1.2,of_decide_eq_true g2.2⟩
     ·exact hI c a (by omega)
   have hge:=of_decide_eq_false hge;have hT:∀t:Int,0<=t->t<(W.tasks.length:Int)->(gi W.tasks t).v<=Qp/\(gi W.tasks t).sum<=Qp/\(gi W.tasks t).used<=Qp:=fun c a b=>hI c a (by omega)
   clear hI;refine Xa W.groups.length 0 rfl (fun k=>k<=W.groups.length/\∀j:Int,0<=j->j<(k:Int)->(gi W.groups j).sum<=Qp/\∀c:Int,0<=c->c<((gi W.groups j).shelves.length:Int)->(Qb W j c).floor<=Qp/\(Qb W j c).v<=Qp/\(Qb W j c).sum<=Qp) ⟨Nat.zero_le _,fun c a b=>by omega⟩ fun k ⟨hk,hI⟩=>⟨fun hlt => ?_,fun hge => ?_⟩
   ·have hlt:=of_decide_eq_true hlt;have hix:=h.g.ix (i:=(k:Int)) (by omega) hlt
    have hsl:(gi W.groups (k:Int)).shelves.length<=4:=by
     have:=wp.a.grp (k:Int) (by omega) (by omega)
     cases hu:(gi W.groups (k:Int)).used with
     | true=>have:=(this.2 hu).len; omega
     | false=>have:=(this.1 hu).l; omega
    refine ⟨hix,_,(h.g.cells (k:Int) (by omega) hlt).get 7 _ rfl,_,ZV,fun g2=>Mf ?_,fun g2 => ?_⟩
    ·rintro ⟨_,r⟩;have:=r.g (k:Int) (by omega) hlt;rw [decide_eq_true this] at g2;cases g2
    have g2:(gi W.groups (k:Int)).sum<=Qp:=by simpa using g2
    have hrs:=h.g.shelves (k:Int) (by omega) hlt;refine Xa (gi W.groups (k:Int)).shelves.length 0 rfl (fun q=>q<=(gi W.groups (k:Int)).shelves.length/\∀c:Int,0<=c->c<(q:Int)->(Qb W (k:Int) c).floor<=Qp/\(Qb W (k:Int) c).v<=Qp/\(Qb W (k:Int) c).sum<=Qp) ⟨Nat.zero_le _,fun c a b=>by omega⟩ fun q ⟨hq,hJ⟩=>⟨hix,_,_,_,h.g.shelf (by omega) hlt,fun hlt2 => ?_,fun hge2 => ?_⟩
    ·have hlt2:=of_decide_eq_true hlt2;refine ⟨hix,_,_,_,h.g.shelf (by omega) hlt,hrs.ix ZF (by omega) hlt2,_,_,_,_,_,hrs (q:Int) (by omega) hlt2,fun b1 hb1=>⟨_,ZV,_,fun _=>ZV,_,fun _=>ZV,fun g3=>Mf ?_,fun g3=>⟨⟨by omega,by omega⟩,Qu (by omega) ⟨by omega,fun c a b => ?_⟩⟩⟩⟩
     ·rintro ⟨_,r⟩;have:=r.s (k:Int) (q:Int) (by omega) hlt (by omega) hlt2;unfold Qb at this;rw [decide_eq_true this.1,decide_eq_true this.2.1,decide_eq_true this.2.2] at g3;cases g3
     ·by_cases e:c=(q:Int)
      ·subst e;simp only [Bool.or_eq_false_iff,Bool.not_eq_false'] at g3;exact ⟨of_decide_eq_true g3.1.1,of_decide_eq_true g3.1.2,of_decide_eq_true g3.2⟩
      ·exact hJ c a (by omega)
    ·have hge2:=of_decide_eq_false hge2;refine ⟨⟨by omega,by omega⟩,Qu (by omega) ⟨by omega,fun j a b => ?_⟩⟩
     by_cases e:j=(k:Int)
     ·subst e;exact ⟨g2,fun c a b=>hJ c a (by omega)⟩
     ·exact hI j a (by omega)
   ·have hge:=of_decide_eq_false hge;exact ze1 ⟨wp,⟨hnow,hC,hT,fun j a b=>(hI j a (by omega)).1,fun j c a b c0 c1=>(hI j a (by omega)).2 c c0 c1⟩⟩
theorem Xj {t:Int} (h:Xf bs w W m) (hl:W.tasks.length<=maxLen):PX bs ZY #[.agg (Qa W m).toArray,.int .i64 t] w (.bool (Zh W t)):=
 Cx W.now m.cO W.cpus.length m.cC m.tO W.tasks.length m.tC m.gO W.groups.length m.gC t fun wr hx=>by
  have h:=(h.ext hx).less (cs:=[]) (by simp);intro x hx;have:=Xt;refine ⟨⟨by omega,by omega⟩,_,Qj,fun g => ?_,_,fun g => ?_,rfl⟩
  ·have:=Qm.1 g;exact h.t.ix Qz (by omega) (by omega)
  ·have:=Qm.1 g;exact h.t.f (by omega) (by omega) (j:=0) rfl
end
structure Hs (base:Nat) (bs:List Nat) (w:World) (o:OA) (cap:Nat) (ps:List (Zv×MG)):Prop where
 own:Py base w o cap ps
 nb:∀x∈Qy o,x∉bs
 nm:∀i:Int,0<=i->i<(ps.length:Int)->∀x∈Qr (gi ps i).2,x∉bs
section
variable {base:Nat} {bs cs:List Nat} {w w':World} {o:OA} {cap:Nat} {ps:List (Zv×MG)} {b:Nat}
theorem Hs.lt (h:Hs base bs w o cap ps):(∀x∈Qy o,base<=x/\x<w.heap.size)/\∀i:Int,0<=i->i<(ps.length:Int)->∀x∈Qr (gi ps i).2,base<=x/\x<w.heap.size:=⟨h.own.row.lt,fun i a b=>(h.own.each i a b).lt⟩
theorem Hs.ext (h:Hs base bs w o cap ps) (hx:Q0 cs w w') (h1:∀x∈Qy o,x∉cs) (h2:∀i:Int,0<=i->i<(ps.length:Int)->∀x∈Qr (gi ps i).2,x∉cs):Hs base bs w' o cap ps:=
 ⟨⟨h.own.row.ext hx h1,fun i a b=>(h.own.each i a b).ext hx (h2 i a b),h.own.dj⟩,h.nb,h.nm⟩
theorem Hs.step (h:Hs base bs w o cap ps) (hx:Q0 bs w w'):Hs base bs w' o cap ps:=h.ext hx h.nb h.nm
theorem Hs.call0 (h:Hs base bs w o cap ps) (hx:Q0 [] w w'):Hs base bs w' o cap ps:=h.ext hx (by simp) (by simp)
theorem Hs.add (h:Hs base bs w o cap ps) (hb:w.heap.size<=b):Hs base (bs++[b]) w o cap ps:=
 have key:∀x,x<w.heap.size->x∉bs->x∉bs++[b]:=fun x hl hx hm=>by
  rcases List.mem_append.1 hm with hm | hm
  ·exact hx hm
  ·have:x=b:=by simpa using hm
   omega
 ⟨h.own,fun x hx=>key x (h.lt.1 x hx).2 (h.nb x hx),fun i a c x hx=>key x (h.lt.2 i a c x hx).2 (h.nm i a c x hx)⟩
theorem Hs.put (h:Hs base bs w o cap ps) (hx:Q0 bs w w') (hb:w.heap.size<=b):Hs base (bs++[b]) w' o cap ps:=⟨(h.step hx).own,(h.add hb).nb,(h.add hb).nm⟩
theorem Hs.sub (h:Hs base bs w o cap ps) (hs:∀x∈cs,x∈bs):Hs base cs w o cap ps:=⟨h.own,fun x hx hm=>h.nb x hx (hs x hm),fun i a c x hx hm=>h.nm i a c x hx (hs x hm)⟩
theorem Hs.nil (base:Nat) (bs:List Nat) (w:World):Hs base bs w none 0 []:=⟨⟨.inl ⟨rfl,rfl,rfl⟩,fun i a b=>by simp at b; omega,fun i j a b=>by simp at b; omega⟩,by simp [Qy],fun i a b=>by simp at b; omega⟩
theorem zqn {α:Type} [Inhabited α] {l:List α} {x:α} {i:Int} (h0:0<=i) (h1:i<(l.length:Int)):gi (l++[x]) i=gi l i:=by
 obtain ⟨k,rfl⟩:=Int.eq_ofNat_of_zero_le h0;rw [JD (by simp; omega),JD (by omega),List.getElem_append_left]
theorem zn4 {α:Type} [Inhabited α] {l:List α} {x:α}:gi (l++[x]) (l.length:Int)=x:=by
 rw [JD (by simp)]; simp
theorem Hs.app1 {p:Zv×MG} {t':TypeId} {fz:Nat×Nat} (h:Hs base bs w o cap ps) (hs:∀x∈bs,x<w.heap.size) (hbase:base<=w.heap.size) (hp:Pz base w p) (hpb:∀x∈Qr p.2,x∉bs) (hd:∀i:Int,0<=i->i<(ps.length:Int)->∀x∈Qr (gi ps i).2,x∉Qr p.2)
  (hb:w.heap[b]? = some (.cells (TQ p).toArray t' fz)) (h1:Zd (TQ p)=true) (hl:ps.length<=1048576) (tr:TypeId) (cs:Array Bool) :
  ∃o' cap' w',(builtin .append #[QS,QS] tr cs #[.slice o ps.length cap,.slice (some ⟨b,0,none⟩) 1 1]).run Tryz.prog w = .ok (.value (.slice o' (ps++[p]).length cap')) w'/\Q9 bs w w'/\Hs base bs w' o' cap' (ps++[p])/\Q0 (Qy o) w w':=by
 obtain ⟨o2,c2,w2,hrun,hk,hO,hx⟩:=Ob.app1 YI M6 (⟨h.own.row,h.nb⟩:Ob TQ 14 QM base bs w o cap ps) hs hbase hb h1 hl (by decide) tr cs;have hlen:(ps++[p]).length=ps.length+1:=by simp
 have hcase:∀i:Int,0<=i->i<((ps++[p]).length:Int)->(i<(ps.length:Int)/\gi (ps++[p]) i=gi ps i)\/(i=(ps.length:Int)/\gi (ps++[p]) i=p):=fun i a b=>by
  by_cases e:i<(ps.length:Int)
  ·exact .inl ⟨e,zqn a e⟩
  ·have:i=(ps.length:Int):=by omega
   subst this;exact .inr ⟨rfl,zn4⟩
 refine ⟨o2,c2,w2,hrun,hk,⟨⟨hO.own,fun i a b => ?_,fun i j a b c d e => ?_⟩,hO.nb,fun i a b => ?_⟩,hx⟩
 ·rcases hcase i a b with ⟨hi,hg⟩ | ⟨hi,hg⟩
  ·rw [hg]; exact (h.own.each i a hi).ext hx (XA h.own.row (h.own.each i a hi))
  ·rw [hg]; exact hp.ext hx (XA h.own.row hp)
 ·rcases hcase i a b with ⟨hi,hg⟩ | ⟨hi,hg⟩ <;> rcases hcase j c d with ⟨hj,hg'⟩ | ⟨hj,hg'⟩
  ·rw [hg,hg']; exact h.own.dj i j a hi c hj e
  ·rw [hg,hg']; exact hd i a hi
  ·rw [hg,hg']; exact fun x hx hm=>hd j c hj x hm hx
  ·omega
 ·rcases hcase i a b with ⟨hi,hg⟩ | ⟨hi,hg⟩
  ·rw [hg]; exact h.nm i a hi
  ·rw [hg]; exact hpb
end
theorem zs2 (g:Zv) (m:MG):Zd (Yo g m)=true:=rfl
theorem Gv {W:Q8} (ha:WA W) {k:Int} (k0:0<=k) (k1:k<8):(gi W.groups k).band.dry.length=(gi W.groups k).band.locals.length/\(gi W.groups k).band.locals.length<=4/\(gi W.groups k).shelves.length<=4:=by
 have hg:=ha.grp k k0 k1;have hc:=ha.c2
 cases hu:(gi W.groups k).used with
 | false=>
  have:=hg.1 hu;have hb:=Nt this.b;have:=this.l;omega
 | true=>
  have:=hg.2 hu;have hl:=this.len
  by_cases hq:(gi W.groups k).band.quota=0
  ·have hb:=Nt (this.none hq).1;omega
  ·have hb:=(this.band hq).1;have h1:=hb.dl;have h2:=hb.l2;omega
section
variable {W:Q8} {m:MW} {w:World} {bs:List Nat}
def zcg (W:Q8) (ms:Nat->MG) (k:Nat):List (Zv×MG):=(List.range k).map fun (j:Nat)=>(gi W.groups (j:Int),ms j)
theorem zea (W:Q8) (ms:Nat->MG) (k:Nat):(zcg W ms k).length=k:=by simp [zcg]
theorem zjt (W:Q8) (ms:Nat->MG) (k:Nat) (p:MG):zcg W (fun j=>if j=k then p else ms j) (k+1)=zcg W ms k++[(gi W.groups (k:Int),p)]:=by
 unfold zcg;rw [List.range_succ,List.map_append]
 congr 1
 ·refine List.map_congr_left fun j hj => ?_
  have:=List.mem_range.1 hj;show (_,if j=k then p else ms j)=_;rw [if_neg (by omega)]
 ·simp
set_option maxHeartbeats 1000000 in
theorem TF (h:Xf [] w W m) (ha:WA W) :
  Cz XS #[.agg (Qa W m).toArray] w fun e w'=>∃m',e = .returned (.agg (Qa W m').toArray)/\Yf 8 w.heap.size w' W m'/\Q0 [] w w':=by
 refine (zbl W.now m.cO W.cpus.length m.cC m.tO W.tasks.length m.tC m.gO W.groups.length m.gC (R:=fun v w'=>∃m',v = .agg (Qa W m').toArray/\Yf 8 w.heap.size w' W m'/\Q0 [] w w') ?_).mono fun e w' ⟨v,he,m',hv,h3⟩=>⟨m',by rw [he,hv],h3⟩
 have hcl:=ha.c2;have htl:=ha.t;have hgl:=ha.gl;intro x hx x1 hx1 x2 hx2;have s0:Sc w [x,x1,x2] w:=(((Sc.start w).add hx).add hx1).add hx2
 refine ⟨fun vs w1=>∃(i:Nat) (cO:OA) (cC:Nat),vs=[.int .i64 (i:Int),.int .i64 W.now,.slice cO (W.cpus.take i).length cC,.slice none 0 0,.slice none 0 0]/\i<=W.cpus.length/\Sc w [x,x1,x2] w1/\Ob Md 5 Zt w.heap.size [x,x1,x2] w1 cO cC (W.cpus.take i),
  Zw W.cpus.length 0,fun wr hx _=>⟨0,none,0,by simp,Nat.zero_le _,s0.call0 hx,⟨.inl ⟨rfl,rfl,rfl⟩,by simp [Qy]⟩⟩,?_⟩
 rintro c1 l l1O l1L l1C l2O l2L l2C l3O l3L l3C wv2 hs2 ⟨i,cO,cC,he,hi,s1,hC⟩;simp only [List.cons.injEq,Value.int.injEq,Value.slice.injEq,true_and,and_true] at he;obtain ⟨rfl,rfl,⟨rfl,rfl,rfl⟩,⟨rfl,rfl,rfl⟩,rfl,rfl,rfl⟩:=he;refine ⟨fun hlt => ?_,fun hge => ?_⟩
 ·have hlt:=of_decide_eq_true hlt;have hr:=h.c.scb s1;refine ⟨hr.ix ZS (by omega) hlt,_,_,_,_,_,hr i (by omega) hlt,fun b4 hb4=>⟨rfl,fun wr3 hx3 hs3 hcell => ?_⟩⟩;have s2:=s1.put hx3 hb4;have hC2:=hC.put hx3 hb4;obtain ⟨o2,c2,w2,hrun,hk2,hC3,hy2⟩:=hC2.app1 Kg L7 (x:=gi W.cpus (i:Int)) hs3 s2.ext.size hcell (zsb _) (by rw [List.length_take]; omega) (by decide) Y0 #[false,false];rw [K3 (by omega)] at hrun hC3;have s3:=s2.call hy2 fun y hm=>(hC2.own.lt y hm).1
  refine ⟨_,_,_,w2,hrun,hk2,⟨by omega,by omega⟩,fun w5 hx5 _=>⟨⟨i+1,o2,c2,rfl,by omega,(s3.step hx5).sub (by simp),(hC3.step hx5).sub (by simp)⟩,?_⟩⟩;simp only [Zw,XM,ZW,List.getElem?_cons_zero]; omega
 have hge:=of_decide_eq_false hge;rw [show W.cpus.take i=W.cpus from List.take_of_length_le (by omega)] at hC ⊢
 refine ⟨fun vs w1=>∃(i:Nat) (tO:OA) (tC:Nat),vs=[.int .i64 (i:Int),.int .i64 W.now,.slice l1O W.cpus.length l1C,.slice tO (W.tasks.take i).length tC,.slice none 0 0]/\i<=W.tasks.length/\Sc w [x,x1,x2] w1/\Ob Md 5 Zt w.heap.size [x,x1,x2] w1 l1O l1C W.cpus/\Ob YJ 9 QK w.heap.size [x,x1,x2] w1 tO tC (W.tasks.take i),
  Zw W.tasks.length 0,fun wr hx _=>⟨0,none,0,by simp,Nat.zero_le _,s1.step hx,hC.step hx,⟨.inl ⟨rfl,rfl,rfl⟩,by simp [Qy]⟩⟩,?_⟩
 clear hC s1 hi hge hs2;rintro t1 l4 l5O l5L l5C l6O l6L l6C l7O l7L l7C wv6 hs6 ⟨i,tO,tC,he,hi,s1,hC,hT⟩;simp only [List.cons.injEq,Value.int.injEq,Value.slice.injEq,true_and,and_true] at he;obtain ⟨rfl,rfl,⟨rfl,rfl,rfl⟩,⟨rfl,rfl,rfl⟩,rfl,rfl,rfl⟩:=he;refine ⟨fun hlt => ?_,fun hge => ?_⟩
 ·have hlt:=of_decide_eq_true hlt;have hr:=h.t.scb s1;refine ⟨hr.ix Qz (by omega) hlt,_,_,_,_,_,_,_,_,_,hr i (by omega) hlt,fun b4 hb4=>⟨rfl,fun wr3 hx3 hs3 hcell => ?_⟩⟩;have s2:=s1.put hx3 hb4;have hC2:=hC.put hx3 hb4;have hT2:=hT.put hx3 hb4;obtain ⟨o2,c2,w2,hrun,hk2,hT3,hy2⟩:=hT2.app1 TP K7 (x:=gi W.tasks (i:Int)) hs3 s2.ext.size hcell (zs3 _) (by rw [List.length_take]; omega) (by decide) Ze #[false,false];rw [K3 (by omega)] at hrun hT3;have s3:=s2.call hy2 fun y hm=>(hT2.own.lt y hm).1
  have hC3:=hC2.call hy2 (hC2.own.ty_ne hT2.own (by decide));refine ⟨_,_,_,w2,hrun,hk2,⟨by omega,by omega⟩,fun w5 hx5 _=>⟨⟨i+1,o2,c2,rfl,by omega,(s3.step hx5).sub (by simp),(hC3.step hx5).sub (by simp),(hT3.step hx5).sub (by simp)⟩,?_⟩⟩;simp only [Zw,XM,ZW,List.getElem?_cons_zero]; omega
 have hge:=of_decide_eq_false hge;rw [show W.tasks.take i=W.tasks from List.take_of_length_le (by omega)] at hT ⊢
 refine ⟨fun vs w1=>∃(i:Nat) (gO:OA) (gC:Nat) (ms:Nat->MG),vs=[.int .i64 (i:Int),.int .i64 W.now,.slice l5O W.cpus.length l5C,.slice l6O W.tasks.length l6C,.slice gO (zcg W ms i).length gC]/\i<=W.groups.length/\Sc w [x,x1,x2] w1/\Ob Md 5 Zt w.heap.size [x,x1,x2] w1 l5O l5C W.cpus/\Ob YJ 9 QK w.heap.size [x,x1,x2] w1 l6O l6C W.tasks/\Hs w.heap.size [x,x1,x2] w1 gO gC (zcg W ms i),
  Zw W.groups.length 0,fun wr hx _=>⟨0,none,0,fun _=>default,by simp [zcg],Nat.zero_le _,s1.step hx,hC.step hx,hT.step hx,Hs.nil _ _ _⟩,?_⟩
 clear hC hT s1 hi hge hs6;rintro k1 l22 l23O l23L l23C l24O l24L l24C l25O l25L l25C wv15 hs15 ⟨i,gO,gC,ms,he,hi,s1,hC,hT,hG⟩;simp only [List.cons.injEq,Value.int.injEq,Value.slice.injEq,true_and,and_true] at he;obtain ⟨rfl,rfl,⟨rfl,rfl,rfl⟩,⟨rfl,rfl,rfl⟩,rfl,rfl,rfl⟩:=he;refine ⟨fun hlt => ?_,fun hge => ?_⟩
 ·have hlt:=of_decide_eq_true hlt;have hr:=h.g.ext s1.ext;have hrb:M9 [x,x1,x2] wv15 m.gO W.groups m.ms:=(h.g.wide (cs:=[x,x1,x2]) fun y hm=>.inr (s1.new y hm)).ext s1.ext.of_nil;have hix:=hrb.ix (i:=(i:Int)) (by omega) hlt;obtain ⟨bl1,bl2,bl3⟩:=Gv ha (k:=(i:Int)) (by omega) (by omega);refine ⟨hix,_,_,_,_,_,_,_,_,_,_,_,_,_,_,_,_,_,_,_,_,hrb.cells (i:Int) (by omega) hlt,fun b11 hb11=>⟨hix,_,_,_,_,_,_,_,_,_,hrb.band (by omega) hlt,fun wr19 hx19 hs19 => ?_⟩⟩;have s2:=s1.put hx19 hb11;have hC2:=hC.put hx19 hb11;have hT2:=hT.put hx19 hb11;have hG2:=hG.put hx19 hb11;have hr2:=h.g.ext s2.ext;refine Calls.mono (GU (hr2.locals (i:Int) (by omega) hlt) (hr2.dry (i:Int) (by omega) hlt) bl1 (by omega)) ?_;rintro e wv16 ⟨p,he,hB,hy⟩;have s3:=s2.call0 hy;have hC3:=hC2.call0 hy;have hT3:=hT2.call0 hy;have hG3:=hG2.call0 hy;have hBn:∀y∈ZE p,wr19.heap.size<=y:=fun y hm=>(hB.lt y hm).1
  have hBb:∀y∈ZE p,y∉[x,x1,x2]++[b11]:=fun y hm hm'=>by
   have:=hBn y hm;have:=hs19 y hm';omega
  refine ⟨_,_,_,_,_,_,_,_,_,he,Qe hy hs19,fun vs w1=>∃(c:Nat) (sO:OA) (sC:Nat),vs=[.int .i64 (c:Int),.bool (gi W.groups (i:Int)).used,.int .i64 (gi W.groups (i:Int)).parent,.string (gi W.groups (i:Int)).name,.int .i64 (gi W.groups (i:Int)).weight,.int .i64 (gi W.groups (i:Int)).cpus,.int .i64 (gi W.groups (i:Int)).period,.int .i64 (gi W.groups (i:Int)).next,.int .i64 (gi W.groups (i:Int)).sum,.int .i64 (gi W.groups (i:Int)).band.quota,.int .i64 (gi W.groups (i:Int)).band.pool,.int .i64 (gi W.groups (i:Int)).band.spent,.slice p.lO (gi W.groups (i:Int)).band.locals.length p.lC,.slice p.dO (gi W.groups (i:Int)).band.dry.length p.dC,.slice sO ((gi W.groups (i:Int)).shelves.take c).length sC]/\c<=(gi W.groups (i:Int)).shelves.length/\Sc w ([x,x1,x2]++[b11]) w1/\wr19.heap.size<=w1.heap.size/\Ob Md 5 Zt w.heap.size ([x,x1,x2]++[b11]) w1 l23O l23C W.cpus/\Ob YJ 9 QK w.heap.size ([x,x1,x2]++[b11]) w1 l24O l24C W.tasks/\Hs w.heap.size ([x,x1,x2]++[b11]) w1 l25O l25C (zcg W ms i)/\QT wr19.heap.size w1 (gi W.groups (i:Int)).band p/\Ob P4 5 Ym wr19.heap.size ([x,x1,x2]++[b11]) w1 sO sC ((gi W.groups (i:Int)).shelves.take c),
   Zw (gi W.groups (i:Int)).shelves.length 0,fun wr hx _=>⟨0,none,0,by simp,Nat.zero_le _,s3.step hx,Nat.le_trans hy.size hx.size,hC3.step hx,hT3.step hx,hG3.step hx,hB.ext hx hBb,⟨.inl ⟨rfl,rfl,rfl⟩,by simp [Qy]⟩⟩,?_⟩
  have hsz:w.heap.size<=wr19.heap.size:=s2.ext.size;have hGlt:=hG2.lt;clear hB s3 hC3 hT3 hG3 hC2 hT2;rintro c4 l26 l27 l28 l29 l30 l31 l32 l33 l34 l35 l36 l37O l37L l37C l38O l38L l38C l39O l39L l39C wv17 hs17 ⟨c,sO,sC,he,hc,s4,hz4,hC4,hT4,hG4,hB4,hS4⟩;simp only [List.cons.injEq,Value.int.injEq,Value.slice.injEq,Value.bool.injEq,Value.string.injEq,true_and,and_true] at he;obtain ⟨rfl,rfl,rfl,rfl,rfl,rfl,rfl,rfl,rfl,rfl,rfl,rfl,⟨rfl,rfl,rfl⟩,⟨rfl,rfl,rfl⟩,rfl,rfl,rfl⟩:=he;have hrb4:M9 ([x,x1,x2]++[b11]) wv17 m.gO W.groups m.ms:=(h.g.wide (cs:=[x,x1,x2]++[b11]) fun y hm=>.inr (s4.new y hm)).ext s4.ext.of_nil;refine ⟨hix,_,_,_,hrb4.shelf (by omega) hlt,fun hlt2 => ?_,fun hge2 => ?_⟩
  ·have hlt2:=of_decide_eq_true hlt2;have hrs:=hrb4.shelves (i:Int) (by omega) hlt;refine ⟨hix,_,_,_,hrb4.shelf (by omega) hlt,hrs.ix ZF (by omega) hlt2,_,_,_,_,_,hrs c (by omega) hlt2,fun b12 hb12=>⟨rfl,fun wr21 hx21 hs21 hcell => ?_⟩⟩;have s5:=s4.put hx21 hb12;have hS5:=hS4.put hx21 hb12;have hsz21:wr19.heap.size<=wr21.heap.size:=Nat.le_trans hz4 hx21.size;obtain ⟨o2,c2,w2,hrun,hk2,hS6,hy2⟩:=hS5.app1 Vq M7 (x:=gi (gi W.groups (i:Int)).shelves (c:Int)) hs21 hsz21 hcell (zsd _) (by rw [List.length_take]; omega) (by decide) Zz #[false,false];rw [K3 (by omega)] at hrun hS6;have hG5:=hG4.put hx21 hb12;have hC5:=hC4.put hx21 hb12;have hT5:=hT4.put hx21 hb12;have hB5:=hB4.ext hx21 hBb;have s6:=s5.call hy2 fun y hm=>Nat.le_trans hsz (hS5.own.lt y hm).1
   have hC6:=hC5.call hy2 (hC5.own.ty_ne hS5.own (by decide));have hT6:=hT5.call hy2 (hT5.own.ty_ne hS5.own (by decide))
   have hG6:=hG5.ext hy2 (hG5.own.row.ty_ne hS5.own (by decide)) fun j a b y hm hm'=>by
    have:=(hGlt.2 j a b y hm).2;have:=(hS5.own.lt y hm').1;omega
   have hBb5:∀y∈ZE p,y∉[x,x1,x2]++[b11]++[b12]:=fun y hm hm'=>by
    rcases List.mem_append.1 hm' with h2 | h2
    ·exact hBb y hm h2
    ·have:y=b12:=by simpa using h2
     have:=(hB4.lt y hm).2;omega
   have hB6:=hB5.ext hy2 fun y hm=>by
    rcases List.mem_append.1 hm with hm | hm
    ·exact hB5.loc.ty_ne hS5.own (by decide) y hm
    ·exact hB5.dry.ty_ne hS5.own (by decide) y hm
   refine ⟨_,_,_,w2,hrun,hk2,⟨by omega,by omega⟩,fun w5 hx5 _=>⟨⟨c+1,o2,c2,rfl,by omega,(s6.step hx5).sub (by simp),?_,(hC6.step hx5).sub (by simp),(hT6.step hx5).sub (by simp),(hG6.step hx5).sub (by simp),hB6.ext hx5 hBb5,(hS6.step hx5).sub (by simp)⟩,?_⟩⟩
   ·have:=hy2.size;have:=hx5.size;omega
   ·simp only [Zw,XM,ZW,List.getElem?_cons_zero]; omega
  ·have hge2:=of_decide_eq_false hge2;rw [show (gi W.groups (i:Int)).shelves.take c=(gi W.groups (i:Int)).shelves from List.take_of_length_le (by omega)] at hS4 ⊢;intro b13 hb13 wr23 hx23 hs23 hcell;have s5:=s4.put hx23 hb13;have hG5:=hG4.put hx23 hb13;have hC5:=hC4.put hx23 hb13;have hT5:=hT4.put hx23 hb13;have hB5:=hB4.ext hx23 hBb;have hS5:=hS4.put hx23 hb13
   have hlt17:∀y∈Qr ⟨p.lO,p.lC,p.dO,p.dC,l39O,l39C⟩,wr19.heap.size<=y/\y<wv17.heap.size:=fun y hm=>by
    simp only [Qr,List.mem_append] at hm;rcases hm with (hm | hm) | hm
    ·exact hB4.loc.lt y hm
    ·exact hB4.dry.lt y hm
    ·exact hS4.own.lt y hm
   obtain ⟨o2,c2,w2,hrun,hk2,hG6,hy2⟩:=hG5.app1 (p:=(gi W.groups (i:Int),⟨p.lO,p.lC,p.dO,p.dC,l39O,l39C⟩)) hs23 s5.ext.size ⟨(hB5.mono hsz).loc,(hB5.mono hsz).dry,hS5.own.mono hsz⟩ (fun y hm hm'=>by
     have h1:=hlt17 y hm;rcases List.mem_append.1 hm' with h2 | h2
     ·have:=hs19 y h2; omega
     ·have:y=b13:=by simpa using h2
      omega) (fun j a b y hm hm'=>by
     have:=(hGlt.2 j a b y hm).2;have:=(hlt17 y hm').1;omega) hcell (zs2 _ _) (by rw [zea]; omega) QS #[false,false]
   rw [<-zjt] at hrun hG6;have s6:=s5.call hy2 fun y hm=>(hG5.own.row.lt y hm).1
   have hC6:=hC5.call hy2 (hC5.own.ty_ne hG5.own.row (by decide));have hT6:=hT5.call hy2 (hT5.own.ty_ne hG5.own.row (by decide));refine ⟨_,_,_,w2,hrun,hk2,⟨by omega,by omega⟩,fun w5 hx5 _=>⟨⟨i+1,o2,c2,_,rfl,by omega,(s6.step hx5).sub (by simp),(hC6.step hx5).sub (by simp),(hT6.step hx5).sub (by simp),(hG6.step hx5).sub (by simp)⟩,?_⟩⟩;simp only [Zw,XM,ZW,List.getElem?_cons_zero]; omega
 ·have hge:=of_decide_eq_false hge;have hi8:i=W.groups.length:=by omega
  subst hi8;refine fun w9 hx9=>⟨⟨l23O,l23C,l24O,l24C,l25O,l25C,ms⟩,?_,⟨(hC.step hx9).own,(hT.step hx9).own,(hG.step hx9).own,hgl⟩,(s1.step hx9).ext⟩
  rw [zea];rfl
theorem Z1 (h:Xf [] w W m) (hl:Xe W) :
  Cz QH #[.agg (Qa W m).toArray] w fun e w'=>(QA W=false/\e = .returned (.tuple #[.agg (Qa Pv zo4).toArray,.int .i64 1])/\Q0 [] w w')\/(QA W=true/\∃m',e = .returned (.tuple #[.agg (Qa W m').toArray,.int .i64 (if QF W=true then 0 else 10)])/\Yf 8 w.heap.size w' W m'/\Q0 [] w w'):=by
 refine (F1 W.now m.cO W.cpus.length m.cC m.tO W.tasks.length m.tC m.gO W.groups.length m.gC (R:=fun v w'=>(QA W=false/\v = .tuple #[.agg (Qa Pv zo4).toArray,.int .i64 1]/\Q0 [] w w')\/(QA W=true/\∃m',v = .tuple #[.agg (Qa W m').toArray,.int .i64 (if QF W=true then 0 else 10)]/\Yf 8 w.heap.size w' W m'/\Q0 [] w w')) ?_).mono fun e w' ⟨v,he,h3⟩=>by
  rw [he];rcases h3 with ⟨a,hv,b⟩ | ⟨a,m',hv,b⟩
  ·exact .inl ⟨a,by rw [hv],b⟩
  ·exact .inr ⟨a,m',by rw [hv],b⟩
 intro x hx x1 hx1;refine ⟨_,YT h hl.c hl.t hl.g hl.f,fun g wr hx=>.inl ⟨by simpa using g,rfl,hx⟩,fun g wr1 hx2 hs1 => ?_⟩;have hW:QA W=true:=by simpa using g
 have wp:=Qi.1 hW;refine Calls.mono (TF (h.ext hx2) wp.a) ?_;rintro e wv ⟨m',he,hM,hy⟩
 have hnb:∀y∈QL 8 m',y∉[x,x1]:=fun y hy hm=>by
  have:=(hM.lt y hy).1;have:=hs1 y hm;omega
 have hro:=Pe (hM.rd hnb) hl;have hfin:∀w2,Q0 [x,x1] wv w2->Yf 8 w.heap.size w2 W m'/\Q0 [] w w2:=fun w2 h2=>⟨(hM.mono hx2.size).ext h2 hnb,(hx2.trans hy).fresh h2 fun y hm=>.inl (Yl hx hx1 y hm)⟩
 refine ⟨_,_,_,_,_,_,_,_,_,_,he,Qe hy hs1,_,hro,fun g2 w2 h2=>.inr ⟨hW,m',?_,hfin w2 h2⟩,fun g2 w2 h2=>.inr ⟨hW,m',?_,hfin w2 h2⟩⟩
 ·have:¬QF W=true:=fun hr=>by
   rw [show Jb (Xn W/\KQ W)=true from Qi.2 ⟨wp,Qi.1 hr⟩] at g2;cases g2
  rw [if_neg this]; rfl
 ·have hd:Jb (Xn W/\KQ W)=true:=by simpa using g2
  have:QF W=true:=Qi.2 (Qi.1 hd).2;rw [if_pos this]; rfl
end
structure Wk (n:Nat) (bs:List Nat) (w0 w:World) (W:Q8) (m:MW):Prop where
 s:Sc w0 bs w
 o:OW n w0.heap.size bs w W m
section
variable {n:Nat} {bs cs:List Nat} {w0 w w':World} {W W':Q8} {m m':MW} {b:Nat}
theorem Wk.step (h:Wk n bs w0 w W m) (hx:Q0 bs w w'):Wk n bs w0 w' W m:=⟨h.s.step hx,h.o.step hx⟩
theorem Wk.call0 (h:Wk n bs w0 w W m) (hx:Q0 [] w w'):Wk n bs w0 w' W m:=⟨h.s.call0 hx,h.o.call0 hx⟩
theorem Wk.add (h:Wk n bs w0 w W m) (hb:w.heap.size<=b):Wk n (bs++[b]) w0 w W m:=⟨h.s.add hb,h.o.add hb⟩
theorem Wk.sub (h:Wk n bs w0 w W m) (hs:∀x∈cs,x∈bs):Wk n cs w0 w W m:=⟨h.s.sub hs,h.o.sub hs⟩
theorem Wk.rd (h:Wk n bs w0 w W m):Xf bs w W m:=h.o.rd
theorem Wk.own (h:Wk n bs w0 w W m):Yf n w0.heap.size w W m:=h.o.own
theorem Wk.nb (h:Wk n bs w0 w W m):∀x∈QL n m,x∉bs:=h.o.nb
theorem Wk.base (h:Wk n bs w0 w W m):w0.heap.size<=w.heap.size:=h.s.ext.size
theorem Wk.deed (h:Wk n bs w0 w W m) (k:Mv n w0.heap.size [] w m w' W' m') (hs:∀x∈bs,x<w.heap.size):Wk n bs w0 w' W' m':=
 ⟨h.s.call k.ext fun x hx=>(h.o.own.lt x hx).1,⟨k.own,fun x hx hm=>by
  rcases k.sub x hx with h1 | h1
  ·exact h.o.nb x h1 hm
  ·have:=hs x hm;omega⟩⟩
theorem Wk.kept (h:Wk n bs w0 w W m) (k:Mv n w0.heap.size [] w m w' W' m') (hs:∀x∈bs,x<w.heap.size):Q9 bs w w':=fun x hm=>k.ext.block x (hs x hm) fun hm'=>h.o.nb x hm' hm
theorem Wk.sto (h:Wk n bs w0 w W m) (k:Yf n w0.heap.size w' W' m) (hx:Q0 (QL n m) w w'):Wk n bs w0 w' W' m:=⟨h.s.call hx fun x hx=>(h.o.own.lt x hx).1,⟨k,h.o.nb⟩⟩
theorem Wk.fin (h:Wk n bs w0 w W m):Yf n w0.heap.size w W m/\Q0 [] w0 w:=⟨h.o.own,h.s.ext⟩
end
def QD (r:Q8×Int) (w:World) (v:Value) (w':World):Prop:=∃n m',v = .tuple #[.agg (Qa r.1 m').toArray,.int .i64 r.2]/\Yf n w.heap.size w' r.1 m'/\Q0 [] w w'
theorem Yf.zero (base:Nat) (w:World):Yf 0 base w Pv zo4:=⟨.inl ⟨rfl,rfl,rfl⟩,.inl ⟨rfl,rfl,rfl⟩,⟨.inl ⟨rfl,rfl,rfl⟩,fun i a b=>by simp [zju,Pv] at b; omega,fun i j a b=>by simp [zju,Pv] at b; omega⟩,rfl⟩
section
variable {W W':Q8} {m:MW} {w:World} {bar:Int}
theorem QD.bad {w':World} (hW:QA W=false) (hx:Q0 [] w w'):QD (Xh W bar W') w (.tuple #[.agg (Qa Pv zo4).toArray,.int .i64 1]) w':=by
 rw [zno hW];exact ⟨0,zo4,rfl,Yf.zero _ _,hx⟩
theorem QD.no {n:Nat} {bs:List Nat} {w':World} {m':MW} (hW:QA W=true) (hb:bar≠0) (hk:Wk n bs w w' W m') {c:Int} (hc:bar=c):QD (Xh W bar W') w (.tuple #[.agg (Qa W m').toArray,.int .i64 c]) w':=by
 rw [znp hW hb,hc];exact ⟨n,m',rfl,hk.fin⟩
theorem QD.ok {n:Nat} {bs:List Nat} {w':World} {m':MW} (hW:QA W=true) (hb:bar=0) (hk:Wk n bs w w' W' m'):QD (Xh W bar W') w (.tuple #[.agg (Qa W' m').toArray,.int .i64 0]) w':=by
 rw [zqa hW hb];exact ⟨n,m',rfl,hk.fin⟩
theorem Wk.begin {x x1:Nat} {wr wv:World} {m':MW} (hx:w.heap.size<=x) (hx1:w.heap.size<=x1) (hx2:Q0 [] w wr) (hs:∀y∈[x,x1],y<wr.heap.size) (hM:Yf 8 wr.heap.size wv W m') (hy:Q0 [] wr wv):Wk 8 [x,x1] w wv W m':=
 ⟨⟨hx2.trans hy,Yl hx hx1⟩,(OW.of hM hs).mono hx2.size⟩
theorem Da {t:Int} (h:Xf [] w W m) (hl:Xe W) :
  Cz UT #[.agg (Qa W m).toArray,.int .i64 t] w fun e w'=>∃v,e = .returned v/\QD (Xh W (Vo W t) (ze9 W t)) w v w':=by
 refine HV W.now m.cO W.cpus.length m.cC m.tO W.tasks.length m.tC m.gO W.groups.length m.gC t (R:=fun v w'=>QD (Xh W (Vo W t) (ze9 W t)) w v w') ?_;intro x hx x1 hx1 wr hx2 hs2;refine Calls.mono (Z1 (h.ext hx2) hl) ?_;rintro e wv (⟨hW,he,hy⟩ | ⟨hW,m',he,hM,hy⟩)
 ·exact ⟨_,_,_,_,_,_,_,_,_,_,_,he,Qe hy hs2,fun _ wr1 hx3=>QD.bad hW ((hx2.trans hy).fresh hx3 fun y hm=>.inl (Yl hx hx1 y hm)),fun g=>by simp at g⟩
 have hK:=Wk.begin hx hx1 hx2 hs2 hM hy;have hr:=hK.rd;refine ⟨_,_,_,_,_,_,_,_,_,_,_,he,Qe hy hs2,fun g=>by split at g <;> simp at g,fun _=>⟨_,Xj hr hl.t,fun g wr2 hx3 => ?_,fun g => ?_⟩⟩
 ·have g:Zh W t=false:=by simpa using g
  have hb:Vo W t=2:=by unfold Vo; rw [if_pos g]
  exact QD.no hW (by rw [hb]; decide) (hK.step hx3) hb
 have g:Zh W t=true:=by simpa using g
 obtain ⟨t0,t1,tn⟩:=ZL g;have hix:=hr.t.ix Qz t0 t1;refine ⟨hix,_,hr.t.f t0 t1 (j:=0) rfl,fun g2 wr3 hx3 => ?_,fun g2=>⟨fun g3 wr4 hx3 => ?_,fun g3 => ?_⟩⟩
 ·have g2:(Q7 W t).state≠1:=by simpa [Q7] using g2
  have hb:Vo W t=6:=by unfold Vo; rw [if_neg (by rw [g]; decide),if_pos g2]
  exact QD.no hW (by rw [hb]; decide) (hK.step hx3) hb
 ·have g2:¬(Q7 W t).state≠1:=by simpa [Q7] using g2
  have hr0:¬QF W=true:=fun hr=>by rw [if_pos hr] at g3; simp at g3
  have hb:Vo W t=10:=by unfold Vo; rw [if_neg (by rw [g]; decide),if_neg g2,if_pos (by simpa using hr0)]
  rw [if_neg hr0];exact QD.no hW (by rw [hb]; decide) (hK.step hx3) hb
 ·have g2:¬(Q7 W t).state≠1:=by simpa [Q7] using g2
  have hr0:QF W=true:=Decidable.byContradiction fun hr=>by rw [if_neg hr] at g3; simp at g3
  have hb:Vo W t=0:=by unfold Vo; rw [if_neg (by rw [g]; decide),if_neg g2,if_neg (by rw [hr0]; decide)]
  obtain ⟨_,_,sw,sw1⟩:=zc5 hW hb;have hset:Yf 8 w.heap.size _ (setTk W t { Q7 W t with state:=2 }) m':=hK.own.stoT t0 t1 (j:=0) (vs:=[.int .i64 2]) (x:={ Q7 W t with state:=2 }) rfl (by simp);refine ⟨hix,zc1 hK.own hK.nb t0 t1 (by decide),fun wr5 hx5 hs5 => ?_⟩;have hK5:=(hK.sto hset KO).step hx5;have hcall:=Qq hK5.own sw1 (by decide) (by decide) hK5.base;have e5:Qa (setTk W t { Q7 W t with state:=2 }) m'=Qa W m':=by simp [Qa,setTk]
  rw [e5] at hcall;refine Calls.mono hcall ?_;rintro e1 wv1 ⟨m1,he1,hy1⟩;exact ⟨_,_,_,_,_,_,_,_,_,_,he1,hK5.kept hy1 hs5,fun wr6 hx6=>QD.ok hW hb ((hK5.deed hy1 hs5).step hx6)⟩
end
theorem zel {α:Type} [Inhabited α] {l:List α} {i:Int} (h0:0<=i) (h1:i<(l.length:Int)):l.set i.toNat (gi l i)=l:=by
 obtain ⟨k,rfl⟩:=Int.eq_ofNat_of_zero_le h0;rw [JD (by omega),Int.toNat_natCast,List.set_getElem_self]
theorem zgf {W:Q8} {k:Int} (h0:0<=k) (h1:k<(W.groups.length:Int)):setBd W k (gi W.groups k).band=W:=by
 show setGr W k (gi W.groups k)=W;unfold setGr;rw [zel h0 h1]
section
variable {base:Nat} {W:Q8} {m:MW} {w:World} {k:Int} {b:Ja}
end
def hB (v:Int):Bool:=decide (v<=Qp)
section
variable {W:Q8} {m:MW} {w:World} {bs:List Nat} {p:OA}
end
structure zp7 (base pb:Nat) (ex:List Nat) (w:World) (m:MW) (w':World) (W':Q8) (m':MW):Prop where
 own:Yf 8 base w' W' m'
 pt:w'.heap[pb]? = some (.cells (Qa W' m').toArray Q3 (0,0))
 ext:Q0 (ex++(pb::QL 8 m)) w w'
 sub:∀x∈QL 8 m',x∈QL 8 m\/w.heap.size<=x
section
variable {W W':Q8} {m:MW} {w:World} {bar:Int}
end
def FM:OY:=⟨0,0,0,0,0,0,0,0,0⟩
def QO (W:Q8) (t:Int):Q8:=if (gi W.cpus (Q7 W t).cpu).cur=t then endW W (Q7 W t).cpu else W
noncomputable def Tw (W:Q8) (t:Int):Int:=if Zh W t=false then 2 else if QF W=false then 10 else 0
def BP (W:Q8) (t:Int):Q8:=Qg (setTk (QO W t) t FM)
theorem zdu {K:Int} {W:Q8} (h:SW K W) {t:Int} (t0:0<=t) (t1:t<12) (n:(Q7 W t).state≠0):SW K (QO W t):=by
 unfold QO;split
 ·exact h.endW (h.t t t0 t1 n).2.1 (h.t t t0 t1 n).2.2
 ·exact h
theorem zbn {W:Q8} {t:Int} (hW:QA W=true) (hb:Tw W t=0):Zh W t=true/\QF W=true/\SW Qp W/\SW Qp (setTk W t FM)/\SW Qp (setTk (QO W t) t FM):=by
 have wp:=Qi.1 hW;unfold Tw at hb
 split at hb
 ·cases hb
 ·rename_i h1
  split at hb
  ·cases hb
  ·rename_i h3;have h1:Zh W t=true:=by simpa using h1
   have h3:QF W=true:=by simpa using h3
   have sw:=Oo wp (Qi.1 h3);obtain ⟨t0,t1,n⟩:=ZL h1;have hl:=wp.a.t;exact ⟨h1,h3,sw,sw.setTk t0 (by omega) (fun h=>absurd rfl h) (by decide) (by decide),(zdu sw t0 (by omega) n).setTk t0 (by omega) (fun h=>absurd rfl h) (by decide) (by decide)⟩
section
variable {W:Q8} {m:MW} {w:World} {bar:Int}
set_option maxHeartbeats 1000000 in
theorem Fb {t:Int} (h:Xf [] w W m) (hl:Xe W) :
  Cz Vu #[.agg (Qa W m).toArray,.int .i64 t] w fun e w'=>∃v,e = .returned v/\QD (Xh W (Tw W t) (BP W t)) w v w':=by
 refine ES W.now m.cO W.cpus.length m.cC m.tO W.tasks.length m.tC m.gO W.groups.length m.gC t (R:=fun v w'=>QD (Xh W (Tw W t) (BP W t)) w v w') ?_;intro x hx x1 hx1 wr hx2 hs2;refine Calls.mono (Z1 (h.ext hx2) hl) ?_;rintro e wv (⟨hW,he,hy⟩ | ⟨hW,m',he,hM,hy⟩)
 ·exact ⟨_,_,_,_,_,_,_,_,_,_,_,he,Qe hy hs2,fun _ wr1 hx3=>QD.bad hW ((hx2.trans hy).fresh hx3 fun y hm=>.inl (Yl hx hx1 y hm)),fun g=>by simp at g⟩
 have hK:=Wk.begin hx hx1 hx2 hs2 hM hy;have hr:=hK.rd;refine ⟨_,_,_,_,_,_,_,_,_,_,_,he,Qe hy hs2,fun g=>by split at g <;> simp at g,fun _=>⟨_,Xj hr hl.t,fun g wr2 hx3 => ?_,fun g => ?_⟩⟩
 ·have g:Zh W t=false:=by simpa using g
  have hb:Tw W t=2:=by unfold Tw; rw [if_pos g]
  exact QD.no hW (by rw [hb]; decide) (hK.step hx3) hb
 have g:Zh W t=true:=by simpa using g
 obtain ⟨t0,t1,tn⟩:=ZL g;have hix:=hr.t.ix Qz t0 t1;refine ⟨fun g3 wr4 hx3 => ?_,fun g3 => ?_⟩
 ·have hr0:¬QF W=true:=fun hr=>by rw [if_pos hr] at g3; simp at g3
  have hb:Tw W t=10:=by unfold Tw; rw [if_neg (by rw [g]; decide),if_pos (by simpa using hr0)]
  rw [if_neg hr0];exact QD.no hW (by rw [hb]; decide) (hK.step hx3) hb
 have hr0:QF W=true:=Decidable.byContradiction fun hr=>by rw [if_neg hr] at g3; simp at g3
 have hb:Tw W t=0:=by unfold Tw; rw [if_neg (by rw [g]; decide),if_neg (by rw [hr0]; decide)]
 obtain ⟨_,_,sw,sw1,sw2⟩:=zbn hW hb;obtain ⟨_,c0,c1⟩:=sw.t t t0 (by have:=sw.a.t; omega) tn;have hset:Yf 8 w.heap.size (sto wv m'.tO (Int.toNat t*9) (YJ FM)) (setTk W t FM) m':=hK.own.stoT t0 t1 (j:=0) (vs:=YJ FM) (x:=FM) rfl (by decide);have hKs:=hK.sto hset KO;have e5:∀mm,Qa (setTk W t FM) mm=Qa W mm:=fun mm=>by simp [Qa,setTk]
 refine ⟨hix,_,hr.t.f t0 t1 (j:=2) rfl,hix,zc1 hK.own hK.nb t0 t1 (j:=0) (by decide),hr.c.ix ZS c0 c1,_,hKs.rd.c.f c0 c1 (j:=1) rfl,fun g4 wr5 hx5 hs5 => ?_,fun g4 wr5 hx5 hs5 => ?_⟩
 ·have g4:(gi (setTk W t FM).cpus (Q7 W t).cpu).cur=t:=by simpa using g4
  have hE:BP W t=Qg (endW (setTk W t FM) (Q7 W t).cpu):=by unfold BP QO; rw [if_pos (show (gi W.cpus (Q7 W t).cpu).cur=t from g4)]; rfl
  rw [hE];have hK5:=hKs.step hx5;have hcall:=Zj hK5.own c0 c1;rw [e5] at hcall;refine Calls.mono hcall ?_;rintro e1 wv1 ⟨he1,hy1⟩;refine ⟨_,_,_,_,_,_,_,_,_,_,he1,hK5.kept hy1 hs5,fun wr6 hx6 hs6 => ?_⟩;have hK6:=(hK5.deed hy1 hs5).step hx6;refine Calls.mono (Qq hK6.own (sw1.endW c0 c1) (by decide) (by decide) hK6.base) ?_;rintro e2 wv2 ⟨m1,he2,hy2⟩;exact ⟨_,_,_,_,_,_,_,_,_,_,he2,hK6.kept hy2 hs6,fun wr7 hx7=>QD.ok hW hb ((hK6.deed hy2 hs6).step hx7)⟩
 ·have g4:¬(gi (setTk W t FM).cpus (Q7 W t).cpu).cur=t:=by simpa using g4
  have hE:BP W t=Qg (setTk W t FM):=by unfold BP QO; rw [if_neg (show ¬(gi W.cpus (Q7 W t).cpu).cur=t from g4)]
  rw [hE];have hK5:=hKs.step hx5;have hcall:=Qq hK5.own sw1 (by decide) (by decide) hK5.base;rw [e5] at hcall;refine Calls.mono hcall ?_;rintro e2 wv2 ⟨m1,he2,hy2⟩;exact ⟨_,_,_,_,_,_,_,_,_,_,he2,hK5.kept hy2 hs5,fun wr7 hx7=>QD.ok hW hb ((hK5.deed hy2 hs5).step hx7)⟩
end
abbrev Pk (W:Q8) (t n:Int):Int:=(Qb W (Q7 W t).group (Q7 W t).cpu).floor+YV ((Q7 W t).v - (Qb W (Q7 W t).group (Q7 W t).cpu).floor) (Qd n)
def Xv (W:Q8) (t n:Int):OY:={ Q7 W t with nice:=n,v:=if (Q7 W t).state=1 then Pk W t n else (Q7 W t).v }
noncomputable def Oh (W:Q8) (t n:Int):Int:=if Qd n=0 then 1 else Tw W t
def L4 (W:Q8) (t n:Int):Q8:=Qg (if (Q7 W t).state=1 then QO (setTk W t (Xv W t n)) t else setTk W t (Xv W t n))
theorem zhu {W:Q8} {t n:Int} (h:(Q7 W t).state=1):Xv W t n={ Q7 W t with nice:=n,v:=Pk W t n }:=by unfold Xv; rw [if_pos h]
theorem zht {W:Q8} {t n:Int} (h:¬(Q7 W t).state=1):Xv W t n={ Q7 W t with nice:=n }:=by unfold Xv; rw [if_neg h]
theorem DW {W:Q8} {t:Int} {x:OY} (t0:0<=t) (t1:t<(W.tasks.length:Int)):Q7 (setTk W t x) t=x:=by
 show gi (W.tasks.set t.toNat x) t=x;rw [Qw _ _ t0 t1 t0,if_pos rfl]
theorem set_set {W:Q8} {t:Int} {x y:OY}:setTk (setTk W t x) t y=setTk W t y:=by simp [setTk]
abbrev K1:Int:=Qp+Qk
structure zrv (W:Q8) (t n:Int):Prop where
 th:Zh W t=true
 room:QF W=true
 sw:SW Qp W
 f:(Q7 W t).state=1->0<=(Qb W (Q7 W t).group (Q7 W t).cpu).floor/\(Qb W (Q7 W t).group (Q7 W t).cpu).floor<=Qp/\0<=Pk W t n/\Pk W t n<=K1
 s1:SW K1 (setTk W t (Xv W t n))
 s2:SW K1 (QO (setTk W t (Xv W t n)) t)
theorem zhv {W:Q8} {t n:Int} (hW:QA W=true) (hb:Oh W t n=0):zrv W t n:=by
 have hw:¬Qd n=0:=fun h=>by unfold Oh at hb; rw [if_pos h] at hb; cases hb
 have hb:Tw W t=0:=by unfold Oh at hb; rwa [if_neg hw] at hb
 obtain ⟨h1,h3,sw,_,_⟩:=zbn hW hb;obtain ⟨t0,t1,tn⟩:=ZL h1;have hl:=sw.a.t;have hg:=sw.t t t0 (by omega) tn;have hv:=sw.tv t t0 (by omega);have hf:=sw.s _ _ hg.1 hg.2.1 hg.2.2;have lc:=ZO ((Q7 W t).v - (Qb W (Q7 W t).group (Q7 W t).cpu).floor) (Qd n);have lm:=ZJ (Qd n);have f:0<=Pk W t n/\Pk W t n<=K1:=by unfold Pk; simp only [K1,Qk]; omega
 have f1:0<=(Xv W t n).v/\(Xv W t n).v<=K1:=by
  unfold Xv
  dsimp only
  split
  ·exact f
  ·simp only [K1,Qk]; omega
 have s1:SW K1 (setTk W t (Xv W t n)):=(sw.mono (by decide)).setTk t0 (by omega) (fun _=>hg) f1.1 f1.2;exact ⟨h1,h3,sw,fun _=>⟨hf.1,hf.2.1,f⟩,s1,zdu s1 t0 (by omega) (by rw [DW t0 t1]; exact tn)⟩
section
variable {W:Q8} {m:MW} {w:World} {bar:Int}
theorem L2 {bs:List Nat} {t:Int} (h:Xf bs w W m) (t0:0<=t) (t1:t<(W.tasks.length:Int)) (g0:0<=(Q7 W t).group) (g1:(Q7 W t).group<(W.groups.length:Int)) (c0:0<=(Q7 W t).cpu) (c1:(Q7 W t).cpu<((gi W.groups (Q7 W t).group).shelves.length:Int)) (hr:Qn .i64 ((Q7 W t).v - (Qb W (Q7 W t).group (Q7 W t).cpu).floor)) :
  PX bs UW #[.agg (Qa W m).toArray,.int .i64 t] w (.int .i64 (YV ((Q7 W t).v - (Qb W (Q7 W t).group (Q7 W t).cpu).floor) (Qd (Q7 W t).nice))):=
 Cr W.now m.cO W.cpus.length m.cC m.tO W.tasks.length m.tC m.gO W.groups.length m.gC t fun wr hx=>by
  have h:=(h.ext hx).less (cs:=[]) (by simp);intro b hb;exact ⟨h.t.ix Qz t0 t1,_,_,_,_,_,_,_,_,_,h.t t t0 t1,fun b1 hb1=>⟨h.g.ix g0 g1,_,_,_,h.g.shelf g0 g1,(h.g.shelves _ g0 g1).ix ZF c0 c1,_,(h.g.shelves _ g0 g1).f c0 c1 (j:=0) rfl,hr,_,Zu,_,OS,rfl⟩⟩
set_option maxHeartbeats 1000000 in
theorem Fd {t n:Int} (h:Xf [] w W m) (hl:Xe W) :
  Cz Vx #[.agg (Qa W m).toArray,.int .i64 t,.int .i64 n] w fun e w'=>∃v,e = .returned v/\QD (Xh W (Oh W t n) (L4 W t n)) w v w':=by
 refine EW W.now m.cO W.cpus.length m.cC m.tO W.tasks.length m.tC m.gO W.groups.length m.gC t n (R:=fun v w'=>QD (Xh W (Oh W t n) (L4 W t n)) w v w') ?_;intro x hx x1 hx1 wr hx2 hs2;refine Calls.mono (Z1 (h.ext hx2) hl) ?_;rintro e wv (⟨hW,he,hy⟩ | ⟨hW,m',he,hM,hy⟩)
 ·exact ⟨_,_,_,_,_,_,_,_,_,_,_,he,Qe hy hs2,0,fun g=>by simp at g,fun _ wr1 hx3=>QD.bad hW ((hx2.trans hy).fresh hx3 fun y hm=>.inl (Yl hx hx1 y hm)),fun g=>by simp at g⟩
 have hK:=Wk.begin hx hx1 hx2 hs2 hM hy;have hr:=hK.rd;have hc1:((if QF W=true then 0 else 10:Int)==1)=false:=by split <;> rfl
 refine ⟨_,_,_,_,_,_,_,_,_,_,_,he,Qe hy hs2,_,fun _=>Zu (n:=n),fun g wr1 hx3 => ?_,fun g0=>⟨_,Xj hr hl.t,fun g wr2 hx3 => ?_,fun g => ?_⟩⟩
 ·rw [hc1] at g;have g:Qd n=0:=by simpa using g
  have hb:Oh W t n=1:=by unfold Oh; rw [if_pos g]
  exact QD.no hW (by rw [hb]; decide) (hK.step hx3) hb
 ·rw [hc1] at g0;have g0:¬Qd n=0:=by simpa using g0
  have g:Zh W t=false:=by simpa using g
  have hb:Oh W t n=2:=by unfold Oh Tw; rw [if_neg g0,if_pos g]
  exact QD.no hW (by rw [hb]; decide) (hK.step hx3) hb
 rw [hc1] at g0;have gw:¬Qd n=0:=by simpa using g0
 have g:Zh W t=true:=by simpa using g
 obtain ⟨t0,t1,tn⟩:=ZL g;have hix:=hr.t.ix Qz t0 t1;refine ⟨fun g3 wr4 hx3 => ?_,fun g3 => ?_⟩
 ·have hr0:¬QF W=true:=fun hr=>by rw [if_pos hr] at g3; simp at g3
  have hb:Oh W t n=10:=by unfold Oh Tw; rw [if_neg gw,if_neg (by rw [g]; decide),if_pos (by simpa using hr0)]
  rw [if_neg hr0];exact QD.no hW (by rw [hb]; decide) (hK.step hx3) hb
 have hr0:QF W=true:=Decidable.byContradiction fun hr=>by rw [if_neg hr] at g3; simp at g3
 have hb:Oh W t n=0:=by unfold Oh Tw; rw [if_neg gw,if_neg (by rw [g]; decide),if_neg (by rw [hr0]; decide)]
 have hN:=zhv hW hb;have sw:=hN.sw;have htl:=sw.a.t;obtain ⟨hu,c0,c1⟩:=sw.t t t0 (by omega) tn;obtain ⟨q0,q1,_⟩:=Q5.1 hu;have hsl:=sw.a.sl hu;have hK2:Wk 8 [x,x1] w (sto wv m'.tO (Int.toNat t*9) (YJ { Q7 W t with nice:=n })) (setTk W t { Q7 W t with nice:=n }) m':=hK.sto (hK.own.stoT t0 t1 (j:=0) (vs:=YJ { Q7 W t with nice:=n }) (x:={ Q7 W t with nice:=n }) rfl (by show 0+9<=9; decide)) KO;have e5:∀x mm,Qa (setTk W t x) mm=Qa W mm:=fun x mm=>by simp [Qa,setTk]
 refine ⟨hix,_,_,_,_,_,_,_,_,_,hr.t t t0 t1,fun b2 hb2=>⟨hix,zc1 hK.own hK.nb t0 t1 (j:=0) (by decide),fun g4 => ?_,fun g4 wr9 hx9 hs9 => ?_⟩⟩
 ·have g4:(Q7 W t).state=1:=by simpa [Q7] using g4
  have hT:=zhu (n:=n) g4;obtain ⟨f0,f1,v0,v1⟩:=hN.f g4;have hv:=sw.tv t t0 (by omega);have hh:Qp=50000000000000000:=rfl;have hk:K1=50000034686091440:=rfl;have hr2:=hK2.rd;have etk:Q7 (setTk W t { Q7 W t with nice:=n }) t={ Q7 W t with nice:=n }:=DW t0 t1;have t1':t<((setTk W t { Q7 W t with nice:=n }).tasks.length:Int):=by simpa [setTk] using t1
  have hlag:=L2 (t:=t) hr2 t0 t1' (by rw [etk]; exact q0) (by rw [etk]; exact q1) (by rw [etk]; exact c0) (by rw [etk]; show (Q7 W t).cpu<(((gi W.groups (Q7 W t).group).shelves.length:Nat):Int); omega) (by rw [etk]; exact ⟨by show _<=(Q7 W t).v - (Qb W (Q7 W t).group (Q7 W t).cpu).floor; omega,by show (Q7 W t).v - (Qb W (Q7 W t).group (Q7 W t).cpu).floor<=_; omega⟩);rw [etk,e5] at hlag;have lc:=ZO ((Q7 W t).v - (Qb W (Q7 W t).group (Q7 W t).cpu).floor) (Qd n);have lm:=ZJ (Qd n);have hset:Yf 8 w.heap.size (sto (sto wv m'.tO (Int.toNat t*9) (YJ { Q7 W t with nice:=n })) m'.tO (Int.toNat t*9) (YJ { Q7 W t with nice:=n,v:=Pk W t n })) (setTk (setTk W t { Q7 W t with nice:=n }) t { Q7 W t with nice:=n,v:=Pk W t n }) m':=hK2.own.stoT t0 t1' (j:=0) (vs:=YJ { Q7 W t with nice:=n,v:=Pk W t n }) (x:={ Q7 W t with nice:=n,v:=Pk W t n }) (by rw [show gi (setTk W t { Q7 W t with nice:=n }).tasks t={ Q7 W t with nice:=n } from etk]; rfl) (by show 0+9<=9; decide);rw [set_set,<-hT] at hset;have hK3:Wk 8 ([x,x1]++[b2]) w _ (setTk W t (Xv W t n)) m':=(hK.add hb2).sto hset (KO.trans KO)
  have hst:∀vs0 vs:List Value,YJ { Q7 W t with nice:=n }=vs0->YJ (Xv W t n)=vs->Wk 8 ([x,x1]++[b2]) w (sto (sto wv m'.tO (Int.toNat t*9) vs0) m'.tO (Int.toNat t*9) vs) (setTk W t (Xv W t n)) m':=fun vs0 vs h0 h1=>by
   subst h0;subst h1;rw [hT] at hK3 ⊢;exact hK3
  have sub3:∀y∈[x,x1],y∈[x,x1]++[b2]:=fun y hy=>List.mem_append_left _ hy
  have hK3':Wk 8 [x,x1] w _ (setTk W t (Xv W t n)) m':=hK3.sub sub3;have hflo:Q2 [x,x1] (sto wv m'.tO (Int.toNat t*9) (YJ { Q7 W t with nice:=n })) (m'.ms (Q7 W t).group.toNat).sO (Int.toNat (Q7 W t).cpu*5+0) [.int .i64 (Qb W (Q7 W t).group (Q7 W t).cpu).floor]:=(hr2.g.shelves _ q0 q1).f c0 (by show (Q7 W t).cpu<(((gi W.groups (Q7 W t).group).shelves.length:Nat):Int); omega) (j:=0) rfl;have ecp:(Q7 (setTk W t (Xv W t n)) t).cpu=(Q7 W t).cpu:=by rw [DW t0 t1]; rfl
  refine ⟨hr.g.ix q0 q1,_,_,_,hr2.g.shelf q0 q1,(hr2.g.shelves _ q0 q1).ix ZF c0 (by show (Q7 W t).cpu<(((gi W.groups (Q7 W t).group).shelves.length:Nat):Int); omega),(Qb W (Q7 W t).group (Q7 W t).cpu).floor,hflo,YV ((Q7 W t).v - (Qb W (Q7 W t).group (Q7 W t).cpu).floor) (Qd n),hlag,⟨?_,?_⟩,hix,zc1 hK2.own hK2.nb t0 t1' (j:=0) (by decide),hr.c.ix ZS c0 c1,(gi W.cpus (Q7 W t).cpu).cur,?_,fun g5 wr4 hx4 hs4 => ?_,fun g5 wr7 hx7 hs7 => ?_⟩
  ·show _<=Pk W t n; omega
  ·show Pk W t n<=_; omega
  ·rw [hT] at hK3';exact hK3'.rd.c.f c0 c1 (j:=1) rfl
  ·have g5:(gi W.cpus (Q7 W t).cpu).cur=t:=by simpa using g5
   have hE:L4 W t n=Qg (endW (setTk W t (Xv W t n)) (Q7 W t).cpu):=by unfold L4 QO; rw [if_pos g4,ecp,if_pos (show (gi (setTk W t (Xv W t n)).cpus (Q7 W t).cpu).cur=t from g5)]
   rw [hE];have hK5:=(hst _ _ (by rfl) (by rw [hT]; rfl)).step (hx4.mono sub3);have hcall:=Zj hK5.own c0 c1;rw [e5] at hcall;refine Calls.mono hcall ?_;rintro e1 wv1 ⟨he1,hy1⟩;refine ⟨_,_,_,_,_,_,_,_,_,_,he1,hK5.kept hy1 hs4,fun wr6 hx6 hs6 => ?_⟩;have hK6:=(hK5.deed hy1 hs4).step hx6;refine Calls.mono (Qq hK6.own (hN.s1.endW c0 c1) (by decide) (by decide) hK6.base) ?_;rintro e2 wv2 ⟨m1,he2,hy2⟩;exact ⟨_,_,_,_,_,_,_,_,_,_,he2,hK6.kept hy2 hs6,fun wr7 hx7=>QD.ok hW hb ((hK6.deed hy2 hs6).step hx7)⟩
  ·have g5:¬(gi W.cpus (Q7 W t).cpu).cur=t:=by simpa using g5
   have hE:L4 W t n=Qg (setTk W t (Xv W t n)):=by unfold L4 QO; rw [if_pos g4,ecp,if_neg (show ¬(gi (setTk W t (Xv W t n)).cpus (Q7 W t).cpu).cur=t from g5)]
   rw [hE];have hK5:=(hst _ _ (by rfl) (by rw [hT]; rfl)).step (hx7.mono sub3);have hcall:=Qq hK5.own hN.s1 (by decide) (by decide) hK5.base;rw [e5] at hcall;refine Calls.mono hcall ?_;rintro e2 wv2 ⟨m1,he2,hy2⟩;exact ⟨_,_,_,_,_,_,_,_,_,_,he2,hK5.kept hy2 hs7,fun wr7 hx7=>QD.ok hW hb ((hK5.deed hy2 hs7).step hx7)⟩
 ·have g4:¬(Q7 W t).state=1:=by simpa [Q7] using g4
  have hE:L4 W t n=Qg (setTk W t (Xv W t n)):=by unfold L4; rw [if_neg g4]
  have hs1:=hN.s1;rw [hE,zht g4];rw [zht g4] at hs1;have hK3:Wk 8 ([x,x1]++[b2]) w _ (setTk W t { Q7 W t with nice:=n }) m':=(hK.add hb2).sto hK2.own KO;have hK5:=hK3.step (hx9.mono fun y hy=>List.mem_append_left _ hy);have hcall:=Qq hK5.own hs1 (by decide) (by decide) hK5.base;rw [e5] at hcall;refine Calls.mono hcall ?_;rintro e2 wv2 ⟨m1,he2,hy2⟩;exact ⟨_,_,_,_,_,_,_,_,_,_,he2,hK5.kept hy2 hs9,fun wr7 hx7=>QD.ok hW hb ((hK5.deed hy2 hs9).step hx7)⟩
end
noncomputable def OO (W:Q8) (g:Int) (ok:Bool):Int:=if ok=false\/g=0 then 1 else if Q6 W.groups g=false then 2 else if QF W=false then 10 else 0
theorem zbt {W:Q8} {g:Int} {ok:Bool} (h:OO W g ok=0):ok=true/\g≠0/\Q6 W.groups g=true/\QF W=true:=by
 unfold OO at h
 split at h
 ·cases h
 ·rename_i h1
  split at h
  ·cases h
  ·rename_i h2
   split at h
   ·cases h
   ·rename_i h3;exact ⟨by cases ok <;> simp_all,fun e=>h1 (.inr e),by simpa using h2,by simpa using h3⟩
def zps:Ja:=⟨0,0,0,[],[]⟩
def Xu (q:Int) (n:Nat):Ja:=⟨q,q,0,List.replicate n 0,List.replicate n false⟩
def L5 (q p:Int):Bool:=q==0&&p==0
def CW (q p:Int):Bool:=L5 q p||(Yn q 1 10000&&Yn p 1 1000)
def OT (W:Q8) (g q p:Int):Zv:=if L5 q p=true then { gi W.groups g with period:=0,next:=0,band:=zps } else { gi W.groups g with period:=p,next:=W.now+p,band:=Xu q W.cpus.length }
noncomputable def zfv (W:Q8) (g q p:Int):Int:=OO W g (CW q p)
def zq2 (W:Q8) (g q p:Int):Q8:=Qg (setGr W g (OT W g q p))
theorem DS (n:Nat):∀k:Nat,k<=n->JX (List.replicate n (0:Int)) k=0
 | 0,_=>rfl
 | k+1,hk=>by
  simp only [JX];rw [DS n k (by omega),Tp _ _ (by omega) (by omega)]; rfl
theorem j9 {q:Int} {n:Nat} (q1:1<=q) (q2:q<=10000) (n1:1<=n) (n2:n<=4):Vd (Xu q n):=by
 refine ⟨q1,q2,by simpa [Xu] using n1,by simpa [Xu] using n2,by simp [Xu],by simp only [Xu]; omega,Int.le_refl _,by simp [Xu],by simp only [Xu]; omega,fun c c0 c1 => ?_,?_⟩
 ·simp only [Xu,List.length_replicate] at c1 ⊢;rw [Tp _ _ c0 c1,Tp _ _ c0 c1];exact ⟨Int.le_refl _,by omega,fun h=>by cases h⟩
 ·simp only [Xu,List.length_replicate];rw [DS n n (Nat.le_refl _)]; omega
theorem zbz {W:Q8} {g q p:Int}:(OT W g q p).used=(gi W.groups g).used/\(OT W g q p).parent=(gi W.groups g).parent/\(OT W g q p).name=(gi W.groups g).name/\(OT W g q p).shelves=(gi W.groups g).shelves/\(OT W g q p).weight=(gi W.groups g).weight/\(OT W g q p).cpus=(gi W.groups g).cpus/\(OT W g q p).sum=(gi W.groups g).sum:=by
 unfold OT; split <;> exact ⟨rfl,rfl,rfl,rfl,rfl,rfl,rfl⟩
theorem SW.setGr {K:Int} {W:Q8} (h:SW K W) {g:Int} {x:Zv} (hu:Q6 W.groups g=true) (u:x.used=(gi W.groups g).used) (p:x.parent=(gi W.groups g).parent) (n:x.name=(gi W.groups g).name) (s:x.shelves=(gi W.groups g).shelves) (hx:ze4 W g x):SW K (setGr W g x):=by
 obtain ⟨u0,u1,ut⟩:=Q5.1 hu;have hl:=h.a.gl;have hT:=XW (x:=x) u0 u1 u p n
 have es:∀k c:Int,0<=k->Qb (Go.Proofs.YtclpmgfpjeaibaaGreat.setGr W g x) k c=Qb W k c:=fun k c k0=>by
  unfold Qb;rw [Yc u0 u1 k0];split
  ·rename_i e; subst e; rw [s]
  ·rfl
 refine ⟨h.a.set u0 (by omega) u p n (fun hn=>by rw [u,ut] at hn; cases hn) fun _=>hx,fun t a b n=>by rw [hT.usd]; exact h.t t a b n,h.tv,fun k c uk a b => ?_,h.cu⟩;rw [hT.usd] at uk;rw [es k c (Q5.1 uk).1];exact h.s k c uk a b
theorem zlu {W:Q8} {g q p:Int} (hW:QA W=true) (hb:zfv W g q p=0):Q6 W.groups g=true/\g≠0/\CW q p=true/\QF W=true/\SW Qp W/\SW Qp (setGr W g (OT W g q p)):=by
 obtain ⟨h1,h2,h3,h4⟩:=zbt hb;have wp:=Qi.1 hW;have sw:=Oo wp (Qi.1 h4);obtain ⟨u0,u1,hg⟩:=wp.a.u h3;have hl:=zbz (W:=W) (g:=g) (q:=q) (p:=p);have hc1:=wp.a.c1;have hc2:=wp.a.c2;refine ⟨h3,h2,h1,h4,sw,sw.setGr h3 hl.1 hl.2.1 hl.2.2.1 hl.2.2.2.1 ⟨by rw [hl.2.2.2.2.1]; exact hg.w1,by rw [hl.2.2.2.2.1]; exact hg.w2,by rw [hl.2.2.2.2.2.1]; exact hg.m,by rw [hl.2.2.2.2.2.1]; exact hg.m0,by rw [hl.2.2.2.2.2.2]; exact hg.s,by rw [hl.2.2.2.1]; exact hg.len,fun h=>absurd h h2,fun hq => ?_,fun hq => ?_⟩⟩
 ·unfold OT at hq ⊢;split
  ·exact ⟨show VL zps=true by decide,rfl,rfl⟩
  ·rename_i hn;rw [if_neg hn] at hq;unfold CW at h1;rw [show L5 q p=false by simpa using hn,Bool.false_or,Bool.and_eq_true] at h1;have:=Qm.1 h1.1;have:q=0:=hq;omega
 ·unfold OT at hq ⊢;split
  ·rename_i hn;rw [if_pos hn] at hq;exact absurd rfl hq
  ·rename_i hn;unfold CW at h1;rw [show L5 q p=false by simpa using hn,Bool.false_or,Bool.and_eq_true] at h1;have h5:=Qm.1 h1.1;have h6:=Qm.1 h1.2;exact ⟨j9 h5.1 h5.2 hc1 hc2,by simp [Xu],h6.1,h6.2,by show W.now<W.now+p; omega,by show W.now+p - W.now<=p; omega⟩
theorem zhl {W:Q8} {g q p:Int} (h:L5 q p=true):OT W g q p={ gi W.groups g with period:=0,next:=0,band:=zps }:=by unfold OT; rw [if_pos h]
theorem zdv {W:Q8} {g q p:Int} (h:L5 q p=false):OT W g q p={ gi W.groups g with period:=p,next:=W.now+p,band:=Xu q W.cpus.length }:=by unfold OT; rw [if_neg (by rw [h]; decide)]
def Fp:MG:=⟨none,0,none,0,none,0⟩
theorem zo6 (base:Nat) (w:World):QT base w zps Fp:=⟨.inl ⟨rfl,rfl,rfl⟩,.inl ⟨rfl,rfl,rfl⟩⟩
theorem zjl:∀x∈ZE Fp,False:=fun x hx=>by simp [ZE,Fp,Qy] at hx
section
variable {W W':Q8} {m:MW} {w:World} {bar:Int}
theorem zq8 {b:Nat} {bs:List Nat} {w w1 w2 w3:World} {q:Int} {n:Nat} (s:Sc w [b] w1) (h2:Q0 [b] (w1.alloc (.cells ((List.replicate n (0:Int)).flatMap XY).toArray Qc)) w2) (hs1:∀y∈[b],y<w1.heap.size) (hs2:∀y∈[b],y<w2.heap.size) (h3:Q0 [b] (w2.alloc (.cells ((List.replicate n false).flatMap Mc).toArray Yy)) w3) (_:bs=[]) :
  QT w.heap.size w3 (Xu q n) ⟨some ⟨w1.heap.size,0,none⟩,n,some ⟨w2.heap.size,0,none⟩,n,none,0⟩/\Q0 [] w w3:=by
 have hL0:Ob XY 1 Qc w1.heap.size [b] _ (some ⟨w1.heap.size,0,none⟩) n (List.replicate n (0:Int)):=Ob.of (T8 (enc:=XY) Yg.len Qc n (0:Int) w1) hs1;have s1:=(s.call0 (Z9 w1 (.cells ((List.replicate n (0:Int)).flatMap XY).toArray Qc))).step h2;have hL1:=((hL0.step h2).call0 (Z9 w2 (.cells ((List.replicate n false).flatMap Mc).toArray Yy))).step h3;have hD0:Ob Mc 1 Yy w2.heap.size [b] _ (some ⟨w2.heap.size,0,none⟩) n (List.replicate n false):=Ob.of (T8 (enc:=Mc) X5.len Yy n false w2) hs2;have hD1:=hD0.step h3;have s2:=(s1.call0 (Z9 w2 (.cells ((List.replicate n false).flatMap Mc).toArray Yy))).step h3;exact ⟨⟨hL1.own.mono s.ext.size,hD1.own.mono s1.ext.size⟩,s2.ext⟩
theorem zo3 {b:Nat} {w w1 w2 w3:World} {q:Int} {n:Nat} (s:Sc w [b] w1) (h2:Q0 [b] (w1.alloc (.cells ((List.replicate n false).flatMap Mc).toArray Yy)) w2) (hs1:∀y∈[b],y<w1.heap.size) (hs2:∀y∈[b],y<w2.heap.size) (h3:Q0 [b] (w2.alloc (.cells ((List.replicate n (0:Int)).flatMap XY).toArray Qc)) w3) :
  QT w.heap.size w3 (Xu q n) ⟨some ⟨w2.heap.size,0,none⟩,n,some ⟨w1.heap.size,0,none⟩,n,none,0⟩/\Q0 [] w w3:=by
 have hL0:Ob Mc 1 Yy w1.heap.size [b] _ (some ⟨w1.heap.size,0,none⟩) n (List.replicate n false):=Ob.of (T8 (enc:=Mc) X5.len Yy n false w1) hs1;have s1:=(s.call0 (Z9 w1 (.cells ((List.replicate n false).flatMap Mc).toArray Yy))).step h2;have hL1:=((hL0.step h2).call0 (Z9 w2 (.cells ((List.replicate n (0:Int)).flatMap XY).toArray Qc))).step h3;have hD0:Ob XY 1 Qc w2.heap.size [b] _ (some ⟨w2.heap.size,0,none⟩) n (List.replicate n (0:Int)):=Ob.of (T8 (enc:=XY) Yg.len Qc n (0:Int) w2) hs2;have hD1:=hD0.step h3;have s2:=(s1.call0 (Z9 w2 (.cells ((List.replicate n (0:Int)).flatMap XY).toArray Qc))).step h3;exact ⟨⟨hD1.own.mono s1.ext.size,hL1.own.mono s.ext.size⟩,s2.ext⟩
theorem MF {q:Int} {n:Nat} (hq:Yn q 1 10000=true) (hn:Yn (n:Int) 1 4=true) :
  Cz Qv #[.int .i64 q,.int .i64 (n:Int)] w fun e w'=>∃p:MG,e = .returned (.tuple #[.agg (Z3 (Xu q n) p).toArray,.bool true])/\QT w.heap.size w' (Xu q n) p/\Q0 [] w w':=by
 refine (BD q (n:Int) (R:=fun v w'=>∃p:MG,v = .tuple #[.agg (Z3 (Xu q n) p).toArray,.bool true]/\QT w.heap.size w' (Xu q n) p/\Q0 [] w w') ?_).mono fun e w' ⟨v,he,p,hv,h3⟩=>⟨p,by rw [he,hv],h3⟩
 have hm9:=Zg;have h4:=(Qm.1 hn).2;intro b hb;have s0:Sc w [b] w:=(Sc.start w).add hb;have k1:=Qj (n:=q) (a:=1) (b:=10000) (w:=w) (bs:=[]);have k2:=Qj (n:=(n:Int)) (a:=1) (b:=4) (w:=w) (bs:=[]);rw [hq] at k1;rw [hn] at k2;refine ⟨true,k1,true,fun _=>k2,fun g=>by simp at g,fun _=>⟨fun wr1 hx1 hs1=>⟨_,_,_,_,MZ Yg Pq n (by omega) (by omega) wr1,Qe (Z9 _ _) hs1,fun wr2 hx2 hs2=>⟨_,_,_,_,MZ X5 DY n (by omega) (by omega) wr2,Qe (Z9 _ _) hs2,fun wr3 hx3 => ?_⟩⟩,fun wr1 hx1 hs1=>⟨_,_,_,_,MZ X5 DY n (by omega) (by omega) wr1,Qe (Z9 _ _) hs1,fun wr2 hx2 hs2=>⟨_,_,_,_,MZ Yg Pq n (by omega) (by omega) wr2,Qe (Z9 _ _) hs2,fun wr3 hx3 => ?_⟩⟩⟩⟩
 ·exact ⟨_,by simp [Z3,Xu],zq8 (bs:=[]) (s0.call0 hx1) hx2 hs1 hs2 hx3 rfl⟩
 ·exact ⟨_,by simp [Z3,Xu],zo3 (s0.call0 hx1) hx2 hs1 hs2 hx3⟩
theorem zq5 {base:Nat} (h:Yf 8 base w W m) {g:Int} (u0:0<=g) (u1:g<8) {G:Zv} {p:MG} (hp:QT base w G.band p) (hb:∀x∈ZE p,x∉QL 8 m) (es:G.shelves=(gi W.groups g).shelves) {j:Nat} {vs:List Value}
  (he:Yo G (Ol (m.ms g.toNat) p)=(Yo (gi W.groups g) (m.ms g.toNat)).take j++vs++(Yo (gi W.groups g) (m.ms g.toNat)).drop (j+vs.length)) (hj:j+vs.length<=14) :
  Yf 8 base (sto w m.gO (Int.toNat g*14+j) vs) (setGr W g G) (TH m g.toNat (Ol (m.ms g.toNat) p)):=
 h.stoG u0 u1 (g:=G) (p:=Ol (m.ms g.toNat) p) ⟨hp.loc,hp.dry,by rw [es]; exact (h.each u0 u1).shl⟩ (fun x hx=>by
  rcases VN x hx with h1 | h1
  ·exact .inl (hb x h1)
  ·exact .inr h1) he hj
theorem Wk.gr {bs:List Nat} {w0:World} (h:Wk 8 bs w0 w W m) {g:Int} (u0:0<=g) (u1:g<8) {G:Zv} {p:MG} (hp:QT w0.heap.size w G.band p) (hb:∀x∈ZE p,x∉QL 8 m/\x∉bs) (es:G.shelves=(gi W.groups g).shelves) {j:Nat} {vs:List Value}
  (he:Yo G (Ol (m.ms g.toNat) p)=(Yo (gi W.groups g) (m.ms g.toNat)).take j++vs++(Yo (gi W.groups g) (m.ms g.toNat)).drop (j+vs.length)) (hj:j+vs.length<=14) :
  Wk 8 bs w0 (Go.Proofs.YtclpmgfpjeaibaaGreat.sto w m.gO (Int.toNat g*14+j) vs) (setGr W g G) (TH m g.toNat (Ol (m.ms g.toNat) p)):=
 ⟨h.s.call DR fun x hx=>(h.own.lt x hx).1,⟨zq5 h.own u0 u1 hp (fun x hx=>(hb x hx).1) es he hj,fun x hx=>by
  rcases VO x hx with h1 | h1
  ·exact h.nb x h1
  ·rcases VN x h1 with h2 | h2
   ·exact (hb x h2).2
   ·exact h.nb x (Jl (by omega) h2)⟩⟩
theorem U5 {g:Int} {ok:Bool} (h:Xf [] w W m) (hl:Xe W) :
  Cz YM #[.agg (Qa W m).toArray,.int .i64 g,.bool ok] w fun e w'=>(QA W=false/\e = .returned (.tuple #[.agg (Qa Pv zo4).toArray,.int .i64 1])/\Q0 [] w w')\/(QA W=true/\∃m',e = .returned (.tuple #[.agg (Qa W m').toArray,.int .i64 (OO W g ok)])/\Yf 8 w.heap.size w' W m'/\Q0 [] w w'):=by
 refine (F2 W.now m.cO W.cpus.length m.cC m.tO W.tasks.length m.tC m.gO W.groups.length m.gC g ok (R:=fun v w'=>(QA W=false/\v = .tuple #[.agg (Qa Pv zo4).toArray,.int .i64 1]/\Q0 [] w w')\/(QA W=true/\∃m',v = .tuple #[.agg (Qa W m').toArray,.int .i64 (OO W g ok)]/\Yf 8 w.heap.size w' W m'/\Q0 [] w w')) ?_).mono fun e w' ⟨v,he,h3⟩=>by
  rw [he];rcases h3 with ⟨a,b,c⟩ | ⟨a,m',b,c⟩
  ·exact .inl ⟨a,by rw [b],c⟩
  ·exact .inr ⟨a,m',by rw [b],c⟩
 intro x hx x1 hx1 wr hx2 hs2;refine Calls.mono (Z1 (h.ext hx2) hl) ?_;rintro e wv (⟨hW,he,hy⟩ | ⟨hW,m',he,hM,hy⟩)
 ·exact ⟨_,_,_,_,_,_,_,_,_,_,_,he,Qe hy hs2,fun _ wr1 hx3=>.inl ⟨hW,rfl,(hx2.trans hy).fresh hx3 fun y hm=>.inl (Yl hx hx1 y hm)⟩,fun g=>by simp at g⟩
 have hK:=Wk.begin hx hx1 hx2 hs2 hM hy;have hc1:((if QF W=true then 0 else 10:Int)==1)=false:=by split <;> rfl
 refine ⟨_,_,_,_,_,_,_,_,_,_,_,he,Qe hy hs2,fun g1 wr1 hx3=>.inr ⟨hW,m',?_,(hK.step hx3).fin⟩,fun g1=>⟨_,YH hK.rd.g,fun g2 wr2 hx3=>.inr ⟨hW,m',?_,(hK.step hx3).fin⟩,fun g2 wr3 hx3=>.inr ⟨hW,m',?_,(hK.step hx3).fin⟩⟩⟩
 ·have hb:OO W g ok=1:=by
   unfold OO;rw [if_pos];rw [hc1] at g1
   simpa using g1
  rw [hb]; rfl
 ·rw [hc1] at g1;have g1:¬(ok=false\/g=0):=by simpa using g1
  have hb:OO W g ok=2:=by unfold OO; rw [if_neg g1,if_pos (by simpa using g2)]
  rw [hb]; rfl
 ·rw [hc1] at g1;have g1:¬(ok=false\/g=0):=by simpa using g1
  have hb:OO W g ok=if QF W=true then 0 else 10:=by
   unfold OO; rw [if_neg g1,if_neg (by simpa using g2)]
   cases QF W <;> rfl
  rw [hb]; rfl
theorem GQ {g q p:Int} (h:Xf [] w W m) (hl:Xe W) :
  Cz Uj #[.agg (Qa W m).toArray,.int .i64 g,.int .i64 q,.int .i64 p] w fun e w'=>∃v,e = .returned v/\QD (Xh W (zfv W g q p) (zq2 W g q p)) w v w':=by
 refine Gy W.now m.cO W.cpus.length m.cC m.tO W.tasks.length m.tC m.gO W.groups.length m.gC g q p (R:=fun v w'=>QD (Xh W (zfv W g q p) (zq2 W g q p)) w v w') ?_;intro x hx x1 hx1;refine ⟨_,fun _=>Qj,_,fun _ _=>Qj,fun wr hx2 hs2 => ?_⟩;refine Calls.mono (U5 (g:=g) (ok:=CW q p) (h.ext hx2) hl) ?_;rintro e wv (⟨hW,he,hy⟩ | ⟨hW,m',he,hM,hy⟩)
 ·exact ⟨_,_,_,_,_,_,_,_,_,_,_,he,Qe hy hs2,fun _ wr1 hx3=>QD.bad hW ((hx2.trans hy).fresh hx3 fun y hm=>.inl (Yl hx hx1 y hm)),fun g=>by simp at g⟩
 have hK:=Wk.begin hx hx1 hx2 hs2 hM hy;refine ⟨_,_,_,_,_,_,_,_,_,_,_,he,Qe hy hs2,fun g1 wr1 hx3=>QD.no hW (by simpa [zfv] using g1) (hK.step hx3) rfl,fun g1 => ?_⟩;have hb:zfv W g q p=0:=by simpa [zfv] using g1
 have hr:=hK.rd;obtain ⟨hu,hz,hok,hroom,sw,s1⟩:=zlu hW hb;obtain ⟨u0,u1,_⟩:=Q5.1 hu;have hgl:=sw.a.gl;have hc1:=sw.a.c1;have hc2:=sw.a.c2;have hn1:=sw.a.n1;have hn2:=sw.a.n2;have hix:=hr.g.ix (i:=g) u0 u1;have e5:∀G mm,mm={ m' with ms:=mm.ms }->Qa (setGr W g G) mm=Qa W m':=fun G mm hm=>by rw [hm]; simp [Qa,setGr]
 have eb:Qa W m'=Qa W m':=rfl;refine ⟨hix,_,_,_,_,_,_,_,_,_,_,_,_,_,_,_,_,_,_,_,_,hr.g.cells g u0 u1,fun b2 hb2=>⟨fun g2 wr2 hx3 hs3 => ?_,fun g2 => ?_⟩⟩
 ·have g2:L5 q p=false:=by unfold L5; simpa only [Bool.not_eq_true'] using g2
  have hlm:Yn q 1 10000=true/\Yn p 1 1000=true:=by unfold CW at hok; rw [g2,Bool.false_or,Bool.and_eq_true] at hok; exact hok
  have hp:=Qm.1 hlm.2;have hK2:=(hK.add hb2).step (hx3.mono fun y hy=>List.mem_append_left _ hy);refine Calls.mono (MF (n:=W.cpus.length) hlm.1 (Qm.2 ⟨by omega,by omega⟩)) ?_;rintro e1 wv1 ⟨pb,he1,hO,hy1⟩;refine ⟨_,_,_,_,_,_,_,_,_,_,he1,Qe hy1 hs3,fun b3 hb3=>⟨⟨by omega,by omega⟩,hix,?_,fun wr3 hx4 hs4 => ?_⟩⟩
  ·exact CH (hK2.call0 hy1).own (hK2.call0 hy1).nb u0 (by omega) (j:=0) (by decide)
  have hK3:=(hK2.call0 hy1).add hb3
  have hK4:=(hK3.gr u0 (by omega) (G:=OT W g q p) (p:=pb) (j:=0) (vs:=Yo (OT W g q p) (Ol (m'.ms g.toNat) pb)) (by rw [zdv g2]; exact hO.mono hK2.base) (fun y hy => ?_) zbz.2.2.2.1 (by simp [Yo]) (by simp [Yo])).step (w':=wr3) (by
   rw [zdv g2];exact hx4.mono fun y hy=>List.mem_append_left _ hy)
  ·have hcall:=Qq hK4.own s1 (by decide) (by decide) hK4.base;rw [e5 _ _ rfl] at hcall;refine Calls.mono hcall ?_;rintro e2 wv2 ⟨m2,he2,hy2⟩;exact ⟨_,_,_,_,_,_,_,_,_,_,he2,hK4.kept hy2 hs4,fun wr4 hx5=>QD.ok hW hb ((hK4.deed hy2 hs4).step hx5)⟩
  ·have:=hO.lt y hy;refine ⟨fun hm => ?_,fun hm => ?_⟩
   ·have:=(hK2.own.lt y hm).2; omega
   ·rcases List.mem_append.1 hm with h1 | h1
    ·have:=hs3 y h1; omega
    ·have:y=b3:=by simpa using h1
     omega
 ·have g2:L5 q p=true:=by unfold L5; simpa only [Bool.not_eq_false'] using g2
  refine ⟨hix,?_,fun wr3 hx4 hs4 => ?_⟩
  ·exact CH hK.own hK.nb u0 (by omega) (j:=0) (by decide)
  have hK3:=hK.add hb2
  have hK4:=(hK3.gr u0 (by omega) (G:=OT W g q p) (p:=Fp) (j:=0) (vs:=Yo (OT W g q p) (Ol (m'.ms g.toNat) Fp)) (by rw [zhl g2]; exact zo6 _ _) (fun y hy=>(zjl y hy).elim) zbz.2.2.2.1 (by simp [Yo]) (by simp [Yo])).step (w':=wr3) (by
   rw [zhl g2];exact hx4.mono fun y hy=>List.mem_append_left _ hy)
  have hcall:=Qq hK4.own s1 (by decide) (by decide) hK4.base;rw [e5 _ _ rfl] at hcall;refine Calls.mono hcall ?_;rintro e2 wv2 ⟨m2,he2,hy2⟩;exact ⟨_,_,_,_,_,_,_,_,_,_,he2,hK4.kept hy2 hs4,fun wr4 hx5=>QD.ok hW hb ((hK4.deed hy2 hs4).step hx5)⟩
theorem zp7.post {base pb:Nat} {ex:List Nat} {w w' w1:World} {W':Q8} {m m':MW} (h:zp7 base pb ex w m w' W' m') (hx:Q0 [] w' w1):zp7 base pb ex w m w1 W' m':=
 ⟨h.own.ext0 hx,VS h.pt hx (by simp),h.ext.trans hx.of_nil,h.sub⟩
end
def Dg (W:Q8) (t:Int):Int:=YV ((Q7 W t).v - (Qb W (Q7 W t).group (Q7 W t).cpu).floor) (Qd (Q7 W t).nice)
def OV (W:Q8) (t g c:Int):OY:={ Q7 W t with group:=g,cpu:=c,v:=(Qb W g c).floor+Dg W t }
def Us (W:Q8) (t g c:Int):Q8:=if (Q7 W t).state=1 then endW (setTk W t (OV W t g c)) c else setTk W t (OV W t g c)
theorem Ng (W:Q8) (t:Int):0<=Dg W t/\Dg W t<=Qk:=by
 have lc:=ZO ((Q7 W t).v - (Qb W (Q7 W t).group (Q7 W t).cpu).floor) (Qd (Q7 W t).nice);have lm:=ZJ (Qd (Q7 W t).nice);unfold Dg;simp only [Qk];omega
theorem SF.setTk {F K:Int} {W:Q8} (h:SF F K W) {t:Int} (t0:0<=t) (t1:t<12) {x:OY} (hx:x.state≠0->Q6 W.groups x.group=true/\0<=x.cpu/\x.cpu<(W.cpus.length:Int)) (v0:0<=x.v) (v1:x.v<=K):SF F K (setTk W t x):=⟨h.w.setTk t0 t1 hx v0 v1,h.f⟩
theorem SF.endW {F K:Int} {W:Q8} (h:SF F K W) {c:Int} (c0:0<=c) (c1:c<(W.cpus.length:Int)):SF F K (endW W c):=
 ⟨h.w.endW c0 c1,fun k d u a b=>h.f k d u a (by
  have b:d<(((W.cpus.set c.toNat (Xi (gi W.cpus c))).length:Nat):Int):=b
  rwa [List.length_set] at b)⟩
theorem zh0 {F K:Int} {W:Q8} (h:SF F K W) (hk:F+Qk<=K) {t g c:Int} (hg:Q6 W.groups g=true) (c0:0<=c) (c1:c<(W.cpus.length:Int)):0<=(OV W t g c).v/\(OV W t g c).v<=K:=by
 have hf:=h.f g c hg c0 c1;have hs:=h.w.s g c hg c0 c1;have hl:=Ng W t;show 0<=(Qb W g c).floor+Dg W t/\(Qb W g c).floor+Dg W t<=K;omega
theorem FY {F K:Int} {W:Q8} (h:SF F K W) (hk:F+Qk<=K) {t g c:Int} (t0:0<=t) (t1:t<12) (hg:Q6 W.groups g=true) (c0:0<=c) (c1:c<(W.cpus.length:Int)):SF F K (setTk W t (OV W t g c))/\SF F K (Us W t g c):=by
 have hv:=zh0 h hk (t:=t) hg c0 c1;have h1:=h.setTk t0 t1 (x:=OV W t g c) (fun _=>⟨hg,c0,c1⟩) hv.1 hv.2;refine ⟨h1,?_⟩;unfold Us;split
 ·exact h1.endW c0 c1
 ·exact h1
theorem zml (W:Q8) (t g c:Int):(Us W t g c).now=W.now/\(Us W t g c).cpus.length=W.cpus.length/\(Us W t g c).tasks.length=W.tasks.length/\(Us W t g c).groups=W.groups:=by
 unfold Us;split
 ·exact ⟨rfl,by simp [endW,setCp,setTk],by simp [endW,setCp,setTk],rfl⟩
 ·exact ⟨rfl,rfl,by simp [setTk],rfl⟩
def KI (m:Int):Int:=if Z4 m 0=true then 0 else if Z4 m 1=true then 1 else if Z4 m 2=true then 2 else if Z4 m 3=true then 3 else -1
theorem zn3:∀a:Fin 16,a.val≠0->Z4 (a.val:Int) (KI (a.val:Int))=true:=by decide +kernel
theorem H0 {m:Int} (h:Tt m=true) (h0:m≠0):Z4 m (KI m)=true:=by
 obtain ⟨f,rfl⟩:=OB h;exact zn3 f fun e=>h0 (by rw [e]; rfl)
theorem zrc (gs:List Zv) (g u:Int):Tt (XI gs g u)=true:=by
 unfold XI;rw [List.foldl_append];exact Kl _ _
theorem Pu {W:Q8} (ha:WA W) (g mask:Int):Tt (Qo W g mask)=true/\Qo W g mask≠0:=by
 unfold Qo;split
 ·rename_i h; exact ⟨Kl _ _,h⟩
 ·split
  ·rename_i h;refine ⟨?_,h⟩;exact zrc _ _ _
  ·exact ⟨zif ha.c2,ha.ups⟩
theorem Ky {W:Q8} (ha:WA W) (g mask:Int):0<=KI (Qo W g mask)/\KI (Qo W g mask)<(W.cpus.length:Int):=by
 have h:=Pu ha g mask;exact Ms ha (H0 h.1 h.2)
def MO (W:Q8) (t:Int):Bool:=((Q7 W t).state != 0) && !Z4 (Qo W (Q7 W t).group (Q7 W t).mask) (Q7 W t).cpu
def Jo (W:Q8):Nat->Q8
 | 0=>W
 | t+1=>if MO (Jo W t) (t:Int)=true then Us (Jo W t) (t:Int) (Q7 (Jo W t) (t:Int)).group (KI (Qo (Jo W t) (Q7 (Jo W t) (t:Int)).group (Q7 (Jo W t) (t:Int)).mask)) else Jo W t
def KN (W:Q8):Q8:=Jo W 12
structure Ee (W W':Q8):Prop where
 n:W'.now=W.now
 c:W'.cpus.length=W.cpus.length
 t:W'.tasks.length=W.tasks.length
 g:W'.groups=W.groups
theorem Ee.refl (W:Q8):Ee W W:=⟨rfl,rfl,rfl,rfl⟩
theorem Ee.trans {A B C:Q8} (h:Ee A B) (k:Ee B C):Ee A C:=⟨k.n.trans h.n,k.c.trans h.c,k.t.trans h.t,k.g.trans h.g⟩
theorem Ee.put (W:Q8) (t g c:Int):Ee W (Us W t g c):=by
 obtain ⟨h1,h2,h3,h4⟩:=zml W t g c;exact ⟨h1,h2,h3,h4⟩
theorem zck {F K:Int} {W:Q8} (h:SF F K W) (hk:F+Qk<=K):∀t:Nat,t<=12->SF F K (Jo W t)/\Ee W (Jo W t)
 | 0,_=>⟨h,Ee.refl _⟩
 | t+1,ht=>by
  obtain ⟨a,b⟩:=zck h hk t (by omega);simp only [Jo];split
  ·rename_i hm;unfold MO at hm;simp only [Bool.and_eq_true,bne_iff_ne,ne_eq] at hm;have hg:=a.w.t (t:Int) (by omega) (by omega) hm.1;have hf:=Ky a.w.a (Q7 (Jo W t) (t:Int)).group (Q7 (Jo W t) (t:Int)).mask;exact ⟨(FY a hk (by omega) (by omega) hg.1 hf.1 hf.2).2,b.trans (Ee.put _ _ _ _)⟩
  ·exact ⟨a,b⟩
theorem Ks {F K:Int} {W:Q8} (h:SF F K W) (hk:F+Qk<=K):SF F K (KN W)/\Ee W (KN W):=zck h hk 12 (Nat.le_refl _)
theorem zoy {m:Int} {k:Nat} (h4:k<4) (hno:∀j:Nat,j<k->Z4 m (j:Int)=false) (h:Z4 m (k:Int)=true):KI m=(k:Int):=by
 have h0:=hno 0;have h1:=hno 1;have h2:=hno 2;have:k=0\/k=1\/k=2\/k=3:=by omega
 unfold KI;rcases this with rfl | rfl | rfl | rfl
 ·rw [if_pos (show Z4 m 0=true from h)]; rfl
 ·rw [if_neg (by rw [show Z4 m 0=false from h0 (by decide)]; decide),if_pos (show Z4 m 1=true from h)]; rfl
 ·rw [if_neg (by rw [show Z4 m 0=false from h0 (by decide)]; decide),if_neg (by rw [show Z4 m 1=false from h1 (by decide)]; decide),if_pos (show Z4 m 2=true from h)]; rfl
 ·rw [if_neg (by rw [show Z4 m 0=false from h0 (by decide)]; decide),if_neg (by rw [show Z4 m 1=false from h1 (by decide)]; decide),if_neg (by rw [show Z4 m 2=false from h2 (by decide)]; decide),if_pos (show Z4 m 3=true from h)]; rfl
theorem zoz {m:Int} (hno:∀j:Nat,j<4->Z4 m (j:Int)=false):KI m = -1:=by
 unfold KI;rw [if_neg (by rw [show Z4 m 0=false from hno 0 (by decide)]; decide),if_neg (by rw [show Z4 m 1=false from hno 1 (by decide)]; decide),if_neg (by rw [show Z4 m 2=false from hno 2 (by decide)]; decide),if_neg (by rw [show Z4 m 3=false from hno 3 (by decide)]; decide)]
section
variable {base:Nat} {W W':Q8} {m:MW} {w:World} {bar:Int}
theorem Pc {x:Int} {bs:List Nat}:PX bs J3 #[.int .i64 x] w (.int .i64 (KI x)):=
 DB x fun wr hx=>by
  refine Xa 4 0 rfl (fun k=>k<=4/\∀j:Nat,j<k->Z4 x (j:Int)=false) ⟨by decide,fun j hj=>absurd hj (Nat.not_lt_zero j)⟩ fun k ⟨hk,hno⟩=>⟨fun hlt => ?_,fun hge => ?_⟩
  ·have hlt:=of_decide_eq_true hlt;refine ⟨_,ZI,fun g => ?_,fun g=>⟨⟨by omega,by omega⟩,Qu (by omega) ⟨by omega,fun j hj => ?_⟩⟩⟩
   ·rw [zoy (by omega) hno g]
   ·by_cases e:j=k
    ·rw [e]; exact g
    ·exact hno j (by omega)
  ·have hge:=of_decide_eq_false hge;have:k=4:=by omega
   subst this;rw [zoz hno]
theorem GJ (W:Q8) (t:Int) (x:OY) (m:MW):Qa (setTk W t x) m=Qa W m:=by simp [Qa,setTk]
theorem JS {F K:Int} (h:Yf 8 base w W m) (hsw:SF F K W) (hk:F+Qk<=K) (hK:K<=1000000000000000000) {t g c:Int} (t0:0<=t) (t1:t<12) (hs:(Q7 W t).state≠0) (hg:Q6 W.groups g=true) (c0:0<=c) (c1:c<(W.cpus.length:Int)) :
  Cz YQ #[.agg (Qa W m).toArray,.int .i64 t,.int .i64 g,.int .i64 c] w fun e w'=>e = .returned (.agg (Qa W m).toArray)/\Mv 8 base [] w m w' (Us W t g c) m:=by
 refine (AN W.now m.cO W.cpus.length m.cC m.tO W.tasks.length m.tC m.gO W.groups.length m.gC t g c (R:=fun v w'=>v = .agg (Qa W m).toArray/\Mv 8 base [] w m w' (Us W t g c) m) ?_).mono fun e w' ⟨v,he,hv,h3⟩=>⟨by rw [he,hv],h3⟩
 intro y hy y1 hy1;obtain ⟨g0,g1,_⟩:=Q5.1 hg;have htl:=hsw.w.a.t;have hgl:=hsw.w.a.gl;have hsl:=hsw.w.a.sl hg;have hl1:t<(W.tasks.length:Int):=by omega
 obtain ⟨hu,d0,d1⟩:=hsw.w.t t t0 t1 hs;obtain ⟨q0,q1,_⟩:=Q5.1 hu;have hql:=hsw.w.a.sl hu;have s1:=hsw.w.s g c hg c0 c1;have s2:=hsw.w.s _ _ hu d0 d1;have hv:=hsw.w.tv t t0 t1;have hlr:=Ng W t;simp only [Qk] at hlr;have hM:=Mv.two h hy hy1;have hr:=(Mv.start h).rd;have hix:=hr.t.ix Qz t0 hl1;have hset:=h.stoT t0 hl1 (j:=0) (vs:=YJ (OV W t g c)) (x:=OV W t g c) (by simp [YJ]) (by simp [YJ]);have e5:Qa (setTk W t (OV W t g c)) m=Qa W m:=GJ _ _ _ _;have e6:Qa (endW (setTk W t (OV W t g c)) c) m=Qa W m:=(TA (BW _ _)).trans e5;refine ⟨Dg W t,L2 hr t0 hl1 q0 q1 d0 (by omega) ⟨by show _<=(Q7 W t).v - (Qb W (Q7 W t).group (Q7 W t).cpu).floor; omega,by show (Q7 W t).v - (Qb W (Q7 W t).group (Q7 W t).cpu).floor<=_; omega⟩,hix,_,_,_,_,_,_,_,_,_,hr.t t t0 hl1,fun b2 hb2=>⟨hr.g.ix g0 g1,_,_,_,hr.g.shelf g0 g1,(hr.g.shelves g g0 g1).ix ZF c0 (by omega),(Qb W g c).floor,ze3.f (hr.g.shelves g g0 g1) c0 (by omega) (j:=0) rfl,⟨by omega,by omega⟩,hix,zc1 h (by simp) t0 hl1 (j:=0) (by decide),fun g4 wr hx hs4 => ?_,fun g4 wr hx=>⟨rfl,?_⟩⟩⟩
 ·have g4:(Q7 W t).state=1:=eq_of_beq g4;have hM2:=((hM.add hb2).deed hset KO).step (hx.of_nil);have hcall:=Zj hM2.own (W:=setTk W t (OV W t g c)) c0 c1;rw [e5,e6] at hcall;refine Calls.mono hcall ?_;rintro e wv ⟨he1,hy2⟩;refine ⟨_,_,_,_,_,_,_,_,_,_,he1,hM2.kept hy2 hs4,fun wr2 hx4=>⟨rfl,?_⟩⟩;unfold Us;rw [if_pos g4];exact ((hM2.call hy2 hs4).step hx4).close
 ·have g4:¬(Q7 W t).state=1:=ne_of_beq_false g4;unfold Us;rw [if_neg g4];exact ((Mv.start h).deed hset KO).call0 hx
theorem XG {F K:Int} (h:Yf 8 base w W m) (hsw:SF F K W) (hk:F+Qk<=K) (hK:K<=1000000000000000000) :
  Cz Y1 #[.agg (Qa W m).toArray] w fun e w'=>e = .returned (.agg (Qa W m).toArray)/\Mv 8 base [] w m w' (KN W) m:=by
 refine (Ls W.now m.cO W.cpus.length m.cC m.tO W.tasks.length m.tC m.gO W.groups.length m.gC (R:=fun v w'=>v = .agg (Qa W m).toArray/\Mv 8 base [] w m w' (KN W) m) ?_).mono fun e w' ⟨v,he,hv,h3⟩=>⟨by rw [he,hv],h3⟩
 intro y hy y1 hy1;have htl:=hsw.w.a.t;refine ⟨fun vs w1=>∃(k:Nat),vs = .int .i64 (k:Int)::Qa W m/\k<=12/\Mv 8 base [y,y1] w m w1 (Jo W k) m,Zw 12 0,fun w1 hx0 _=>⟨0,rfl,by decide,(Mv.two h hy hy1).call0 hx0⟩,?_⟩;rintro c1 l l1O l1L l1C l2O l2L l2C l3O l3L l3C wv2 hs2 ⟨k,he,hk12,hM⟩;obtain ⟨hS,hF⟩:=zck hsw hk k hk12;have hdef:Jo W (k+1)=if MO (Jo W k) (k:Int)=true then Us (Jo W k) (k:Int) (Q7 (Jo W k) (k:Int)).group (KI (Qo (Jo W k) (Q7 (Jo W k) (k:Int)).group (Q7 (Jo W k) (k:Int)).mask)) else Jo W k:=rfl;have hend:k=12->KN W=Jo W k:=fun e=>by rw [e]; rfl
 have e0:Qa (Jo W k) m=Qa W m:=by simp only [Qa,hF.n,hF.c,hF.t,hF.g]
 have eC:=hF.c;have eT:=hF.t;simp only [Qa,List.cons.injEq,Value.int.injEq,Value.slice.injEq,true_and,and_true] at he;obtain ⟨rfl,rfl,⟨rfl,rfl,rfl⟩,⟨rfl,rfl,rfl⟩,rfl,rfl,rfl⟩:=he;generalize Jo W k=V at hM hS hF hdef hend e0 eC eT;have hr:=hM.rd;refine ⟨fun hlt => ?_,fun hge w3 hx3=>⟨rfl,?_⟩⟩
 ·have hlt:=of_decide_eq_true hlt;have t1:(k:Int)<(V.tasks.length:Int):=by omega
  have hix:Ix m.tO W.tasks.length (k:Int):=by have:=hr.t.ix Qz (i:=(k:Int)) (by omega) t1; rwa [eT] at this
  have next:∀{w9 w8:World},Q0 [y,y1] wv2 w9->MO V (k:Int)=false->(∃(k':Nat),[Value.int .i64 ((k:Int)+1),.int .i64 W.now,.slice m.cO W.cpus.length m.cC,.slice m.tO W.tasks.length m.tC,.slice m.gO W.groups.length m.gC] = .int .i64 (k':Int)::Qa W m/\k'<=12/\Mv 8 base [y,y1] w m w9 (Jo W k') m)/\Zw 12 0 [.int .i64 ((k:Int)+1),.int .i64 W.now,.slice m.cO W.cpus.length m.cC,.slice m.tO W.tasks.length m.tC,.slice m.gO W.groups.length m.gC] w9<Zw 12 0 [.int .i64 (k:Int),.int .i64 W.now,.slice m.cO W.cpus.length m.cC,.slice m.tO W.tasks.length m.tC,.slice m.gO W.groups.length m.gC] w8:=fun {w9 w8} hx hm=>by
   refine ⟨⟨k+1,rfl,by omega,?_⟩,?_⟩
   ·rw [hdef,if_neg (by rw [hm]; decide)];exact hM.step hx
   ·simp only [Zw,XM,ZW,List.getElem?_cons_zero]; omega
  refine ⟨hix,_,zng.f hr.t (by omega) t1 (j:=0) rfl,fun g=>⟨⟨by omega,by omega⟩,fun wr4 hx4 _=>next hx4 (by unfold MO; rw [show (Q7 V (k:Int)).state=0 from eq_of_beq g]; rfl)⟩,fun g => ?_⟩;have hst:(Q7 V (k:Int)).state≠0:=ne_of_beq_false g;obtain ⟨hu,d0,d1⟩:=hS.w.t (k:Int) (by omega) (by omega) hst;have hwh:=YU (g:=(Q7 V (k:Int)).group) (mask:=(Q7 V (k:Int)).mask) hr hS.w.a.c2 hS.w.a.tree hu;rw [e0] at hwh;have hf:=Ky hS.w.a (Q7 V (k:Int)).group (Q7 V (k:Int)).mask;refine ⟨hix,_,zng.f hr.t (by omega) t1 (j:=1) rfl,hix,_,zng.f hr.t (by omega) t1 (j:=4) rfl,_,hwh,hix,_,zng.f hr.t (by omega) t1 (j:=2) rfl,_,ZI,fun g2=>⟨hix,_,zng.f hr.t (by omega) t1 (j:=1) rfl,_,Pc,fun wr5 hx5 hs5 => ?_⟩,fun g2=>⟨⟨by omega,by omega⟩,fun wr4 hx4 _=>next hx4 (by unfold MO; rw [show Z4 (Qo V (Q7 V (k:Int)).group (Q7 V (k:Int)).mask) (Q7 V (k:Int)).cpu=true from (by have h:=g2; rw [Bool.not_eq_false'] at h; exact h)]; simp)⟩⟩;have hM5:=hM.step hx5;have hcall:=JS hM5.own hS hk hK (t:=(k:Int)) (g:=(Q7 V (k:Int)).group) (c:=KI (Qo V (Q7 V (k:Int)).group (Q7 V (k:Int)).mask)) (by omega) (by omega) hst hu hf.1 hf.2;rw [e0] at hcall;refine Calls.mono hcall ?_;rintro e1 wv3 ⟨he1,hy3⟩;refine ⟨_,_,_,_,_,_,_,_,_,_,he1,hM5.kept hy3 hs5,⟨by omega,by omega⟩,fun wr6 hx6 _=>⟨⟨k+1,rfl,by omega,?_⟩,?_⟩⟩
  ·have hm:MO V (k:Int)=true:=by
    unfold MO;rw [Bool.and_eq_true];exact ⟨by simpa using hst,g2⟩
   rw [hdef,if_pos hm];exact (hM5.call hy3 hs5).step hx6
  ·simp only [Zw,XM,ZW,List.getElem?_cons_zero]; omega
 ·have hge:=of_decide_eq_false hge;rw [hend (by omega)];exact (hM.step hx3).close
section
variable {pb:Nat}
end
end
theorem Pp {W:Q8} (sw:SW Qp W):SF Qp (Qp+Qk) W:=sw.sf.mono (Int.le_refl _) (by simp only [Qk]; decide)
noncomputable def Hc (W:Q8) (t x:Int):Int:=if Tt x=false\/x=0 then 1 else if Zh W t=false then 2 else if QF W=false then 10 else 0
def zf6 (W:Q8) (t x:Int):OY:={ Q7 W t with mask:=x }
def zpc (W:Q8) (t x:Int):Q8:=Qg (KN (setTk W t (zf6 W t x)))
theorem zmk {W:Q8} {t x:Int} (hW:QA W=true) (hb:Hc W t x=0):Zh W t=true/\SF Qp (Qp+Qk) W/\SF Qp (Qp+Qk) (setTk W t (zf6 W t x)):=by
 have wp:=Qi.1 hW;unfold Hc at hb
 split at hb
 ·cases hb
 ·split at hb
  ·cases hb
  ·rename_i h2
   split at hb
   ·cases hb
   ·rename_i h3;have h1:Zh W t=true:=by simpa using h2
    have h3:QF W=true:=by simpa using h3
    have sw:=Oo wp (Qi.1 h3);obtain ⟨t0,t1,n⟩:=ZL h1;have hl:=wp.a.t;have hv:=sw.tv t t0 (by omega);exact ⟨h1,Pp sw,Pp (sw.setTk t0 (by omega) (fun _=>sw.t t t0 (by omega) n) hv.1 hv.2)⟩
theorem GI {W:Q8} {m:MW} {F K:Int} (sf:SF F K W) (hk:F+Qk<=K):Qa (KN W) m=Qa W m:=by
 have hF:=(Ks sf hk).2;simp only [Qa,hF.n,hF.c,hF.t,hF.g]
section
variable {base pb:Nat} {W W':Q8} {m:MW} {w:World} {bar:Int}
theorem Nb {t x:Int} (h:Xf [] w W m) (hl:Xe W) :
  Cz Tj #[.agg (Qa W m).toArray,.int .i64 t,.int .i64 x] w fun e w'=>∃v,e = .returned v/\QD (Xh W (Hc W t x) (zpc W t x)) w v w':=by
 refine BE W.now m.cO W.cpus.length m.cC m.tO W.tasks.length m.tC m.gO W.groups.length m.gC t x (R:=fun v w'=>QD (Xh W (Hc W t x) (zpc W t x)) w v w') ?_;intro y hy y1 hy1 wr hx2 hs2;refine Calls.mono (Z1 (h.ext hx2) hl) ?_;rintro e wv (⟨hW,he,hy2⟩ | ⟨hW,m',he,hM,hy2⟩)
 ·exact ⟨_,_,_,_,_,_,_,_,_,_,_,he,Qe hy2 hs2,false,fun g=>by simp at g,fun _ wr1 hx3=>QD.bad hW ((hx2.trans hy2).fresh hx3 fun z hm=>.inl (Yl hy hy1 z hm)),fun g=>by simp at g⟩
 have hK:=Wk.begin hy hy1 hx2 hs2 hM hy2;have hr:=hK.rd;have hc1:((if QF W=true then 0 else 10:Int)==1)=false:=by split <;> rfl
 refine ⟨_,_,_,_,_,_,_,_,_,_,_,he,Qe hy2 hs2,_,fun _=>YG,fun g wr1 hx3 => ?_,fun g0=>⟨_,Xj hr hl.t,fun g wr2 hx3 => ?_,fun g=>⟨fun g3 wr4 hx3 => ?_,fun g3 => ?_⟩⟩⟩
 ·rw [hc1] at g;have g:Tt x=false\/x=0:=by simpa using g
  have hb:Hc W t x=1:=by unfold Hc; rw [if_pos g]
  exact QD.no hW (by rw [hb]; decide) (hK.step hx3) hb
 ·rw [hc1] at g0;have g0:¬(Tt x=false\/x=0):=by simpa using g0
  have g:Zh W t=false:=by simpa using g
  have hb:Hc W t x=2:=by unfold Hc; rw [if_neg g0,if_pos g]
  exact QD.no hW (by rw [hb]; decide) (hK.step hx3) hb
 ·rw [hc1] at g0;have g0:¬(Tt x=false\/x=0):=by simpa using g0
  have g:Zh W t=true:=by simpa using g
  have hr0:¬QF W=true:=fun hr=>by rw [if_pos hr] at g3; simp at g3
  have hb:Hc W t x=10:=by unfold Hc; rw [if_neg g0,if_neg (by rw [g]; decide),if_pos (by simpa using hr0)]
  rw [if_neg hr0];exact QD.no hW (by rw [hb]; decide) (hK.step hx3) hb
 rw [hc1] at g0;have g0:¬(Tt x=false\/x=0):=by simpa using g0
 have g:Zh W t=true:=by simpa using g
 have hr0:QF W=true:=Decidable.byContradiction fun hr=>by rw [if_neg hr] at g3; simp at g3
 have hb:Hc W t x=0:=by unfold Hc; rw [if_neg g0,if_neg (by rw [g]; decide),if_neg (by rw [hr0]; decide)]
 obtain ⟨_,sf0,sf⟩:=zmk hW hb;obtain ⟨t0,t1,tn⟩:=ZL g;have hset:Wk 8 [y,y1] w (sto wv m'.tO (Int.toNat t*9+4) [.int .i64 x]) (setTk W t (zf6 W t x)) m':=hK.sto (hK.own.stoT t0 t1 (j:=4) (vs:=[.int .i64 x]) (x:=zf6 W t x) rfl (by simp)) KO;refine ⟨hr.t.ix Qz t0 t1,zc1 hK.own hK.nb t0 t1 (j:=4) (by decide),fun wr4 hx4 hs4 => ?_⟩;have e5:Qa (setTk W t (zf6 W t x)) m'=Qa W m':=GJ _ _ _ _;have hE:zpc W t x=Qg (KN (setTk W t (zf6 W t x))):=rfl;rw [hE];generalize setTk W t (zf6 W t x)=V at hset sf e5;have hK4:=hset.step hx4;have hcall:=XG hK4.own sf (Int.le_refl _) (by simp only [Qk]; decide);rw [e5] at hcall;refine Calls.mono hcall ?_;rintro e1 wv1 ⟨he1,hy3⟩;refine ⟨_,_,_,_,_,_,_,_,_,_,he1,hK4.kept hy3 hs4,fun wr5 hx5 hs5 => ?_⟩;have hK5:=(hK4.deed hy3 hs4).step hx5;have hcall2:=Qq hK5.own (Ks sf (Int.le_refl _)).1.w (by simp only [Qk]; decide) (by simp only [Qk]; decide) hK5.base;rw [GI sf (Int.le_refl _),e5] at hcall2;refine Calls.mono hcall2 ?_;rintro e2 wv2 ⟨m2,he2,hy4⟩;exact ⟨_,_,_,_,_,_,_,_,_,_,he2,hK5.kept hy4 hs5,fun wr6 hx6=>QD.ok hW hb ((hK5.deed hy4 hs5).step hx6)⟩
def zbs (W:Q8) (g x:Int):Zv:={ gi W.groups g with cpus:=x }
noncomputable def zfn (W:Q8) (g x:Int):Int:=OO W g (Tt x&&(x != 0))
def zn6 (W:Q8) (g x:Int):Q8:=Qg (KN (setGr W g (zbs W g x)))
theorem zld {W:Q8} {g x:Int} (hW:QA W=true) (hb:zfn W g x=0):Q6 W.groups g=true/\QF W=true/\SF Qp (Qp+Qk) W/\SF Qp (Qp+Qk) (setGr W g (zbs W g x))/\QP W.groups (setGr W g (zbs W g x)).groups:=by
 obtain ⟨h1,h2,h3,h4⟩:=zbt hb;have wp:=Qi.1 hW;have sw:=Oo wp (Qi.1 h4);obtain ⟨u0,u1,hg⟩:=wp.a.u h3;have hl:=wp.a.gl;simp only [Bool.and_eq_true,bne_iff_ne,ne_eq] at h1;exact ⟨h3,h4,Pp sw,Pp (sw.setGr (x:=zbs W g x) h3 rfl rfl rfl rfl ⟨hg.w1,hg.w2,h1.1,h1.2,hg.s,hg.len,fun h=>absurd h h2,hg.none,hg.band⟩),XW u0 (by omega) rfl rfl rfl⟩
theorem Fa {g x:Int} (h:Xf [] w W m) (hl:Xe W) :
  Cz Vt #[.agg (Qa W m).toArray,.int .i64 g,.int .i64 x] w fun e w'=>∃v,e = .returned v/\QD (Xh W (zfn W g x) (zn6 W g x)) w v w':=by
 refine ER W.now m.cO W.cpus.length m.cC m.tO W.tasks.length m.tC m.gO W.groups.length m.gC g x (R:=fun v w'=>QD (Xh W (zfn W g x) (zn6 W g x)) w v w') ?_;intro y hy y1 hy1;refine ⟨_,YG,fun wr hx2 hs2 => ?_⟩;refine Calls.mono (U5 (g:=g) (ok:=Tt x&&(x != 0)) (h.ext hx2) hl) ?_;rintro e wv (⟨hW,he,hy2⟩ | ⟨hW,m',he,hM,hy2⟩)
 ·exact ⟨_,_,_,_,_,_,_,_,_,_,_,he,Qe hy2 hs2,fun _ wr1 hx3=>QD.bad hW ((hx2.trans hy2).fresh hx3 fun z hm=>.inl (Yl hy hy1 z hm)),fun g=>by simp at g⟩
 have hK:=Wk.begin hy hy1 hx2 hs2 hM hy2;refine ⟨_,_,_,_,_,_,_,_,_,_,_,he,Qe hy2 hs2,fun g1 wr1 hx3=>QD.no hW (by simpa [zfn] using g1) (hK.step hx3) rfl,fun g1 => ?_⟩;have hb:zfn W g x=0:=by simpa [zfn] using g1
 have hr:=hK.rd;obtain ⟨hu,hroom,sf0,sf,hT⟩:=zld hW hb;obtain ⟨u0,u1,_⟩:=Q5.1 hu;have hgl:=sf0.w.a.gl;have hset:Wk 8 [y,y1] w (sto wv m'.gO (Int.toNat g*14+4) [.int .i64 x]) (setGr W g (zbs W g x)) m':=hK.sto (hK.own.stoG0 u0 (by omega) (g:=zbs W g x) rfl rfl rfl (j:=4) (vs:=[.int .i64 x]) rfl (by simp)) DR;refine ⟨hr.g.ix (i:=g) u0 u1,CH hK.own hK.nb (i:=g) u0 (by omega) (j:=4) (k:=1) (by decide),fun wr4 hx4 hs4 => ?_⟩;have e5:Qa (setGr W g (zbs W g x)) m'=Qa W m':=by simp [Qa,setGr]
 have hE:zn6 W g x=Qg (KN (setGr W g (zbs W g x))):=rfl;rw [hE];generalize setGr W g (zbs W g x)=V at hset sf e5;have hK4:=hset.step hx4;have hcall:=XG hK4.own sf (Int.le_refl _) (by simp only [Qk]; decide);rw [e5] at hcall;refine Calls.mono hcall ?_;rintro e1 wv1 ⟨he1,hy3⟩;refine ⟨_,_,_,_,_,_,_,_,_,_,he1,hK4.kept hy3 hs4,fun wr5 hx5 hs5 => ?_⟩;have hK5:=(hK4.deed hy3 hs4).step hx5;have hcall2:=Qq hK5.own (Ks sf (Int.le_refl _)).1.w (by simp only [Qk]; decide) (by simp only [Qk]; decide) hK5.base;rw [GI sf (Int.le_refl _),e5] at hcall2;refine Calls.mono hcall2 ?_;rintro e2 wv2 ⟨m2,he2,hy4⟩;exact ⟨_,_,_,_,_,_,_,_,_,_,he2,hK5.kept hy4 hs5,fun wr6 hx6=>QD.ok hW hb ((hK5.deed hy4 hs5).step hx6)⟩
end
def zrq (W:Q8) (c:Int) (j:Nat):Bool:=((Q7 W (j:Int)).state==1)&&((Q7 W (j:Int)).cpu==c)
def zcj (W:Q8) (c:Int) (j:Nat):Int:=if zrq W c j=true then 1 else 0
def zbx (W:Q8) (c:Int) (j:Nat):Int:=if zrq W c j=true then (Q7 W (j:Int)).load else 0
def zeb (W:Q8) (c:Int):Int:=Xz (zcj W c) W.tasks.length
def zby (W:Q8) (c:Int):Int:=Xz (zbx W c) W.tasks.length
def zow (W:Q8) (a b:Int):Bool:=decide (zby W a<zby W b)||((zby W a==zby W b)&&decide (zeb W a<zeb W b))
def Ok (W:Q8) (m:Int):Nat->Int
 | 0 => -1
 | k+1=>if (Z4 m (k:Int)&&(decide (Ok W m k<0)||zow W (k:Int) (Ok W m k)))=true then (k:Int) else Ok W m k
def Ov (W:Q8) (m:Int):Int:=Ok W m W.cpus.length
theorem zd9 {W:Q8} {m:Int} {k:Nat} (h:(Z4 m (k:Int)&&(decide (Ok W m k<0)||zow W (k:Int) (Ok W m k)))=true):Ok W m (k+1)=(k:Int):=if_pos h
theorem zhz {W:Q8} {m:Int} {k:Nat} (h:(Z4 m (k:Int)&&(decide (Ok W m k<0)||zow W (k:Int) (Ok W m k)))=false):Ok W m (k+1)=Ok W m k:=if_neg (by rw [h]; decide)
theorem NP (W:Q8) (m:Int):∀k:Nat,-1<=Ok W m k/\Ok W m k<(k:Int)/\(0<=Ok W m k->Z4 m (Ok W m k)=true)
 | 0=>⟨Int.le_refl _,by show (-1:Int)<0; decide,fun h=>by have:(0:Int)<=-1:=h; omega⟩
 | k+1=>by
  have ih:=NP W m k;simp only [Ok];split
  ·rename_i h;simp only [Bool.and_eq_true] at h;exact ⟨by omega,by omega,fun _=>h.1⟩
  ·exact ⟨ih.1,by omega,ih.2.2⟩
theorem y9 {W:Q8} {m:Int} {j:Nat} (h:Z4 m (j:Int)=true):∀k:Nat,j<k->0<=Ok W m k
 | 0,hk=>absurd hk (Nat.not_lt_zero j)
 | k+1,hk=>by
  by_cases e:j=k
  ·subst e
   by_cases hn:Ok W m j<0
   ·rw [zd9 (by rw [h,decide_eq_true hn]; rfl)]; omega
   ·simp only [Ok]; split <;> omega
  ·have:=y9 (W:=W) h k (by omega);simp only [Ok]
   split <;> omega
theorem zre {W:Q8} (ha:WA W) {m:Int} (hm:Tt m=true) (h0:m≠0) (hs:∀c:Int,Z4 m c=true->0<=c/\c<(W.cpus.length:Int)):0<=Ov W m/\Ov W m<(W.cpus.length:Int)/\Z4 m (Ov W m)=true:=by
 have hf:=H0 hm h0;have hr:=hs _ hf;have e:((KI m).toNat:Int)=KI m:=by omega
 have h1:=y9 (W:=W) (m:=m) (j:=(KI m).toNat) (by rw [e]; exact hf) W.cpus.length (by omega);have h2:=NP W m W.cpus.length;exact ⟨h1,h2.2.1,h2.2.2 h1⟩
theorem Kr {W:Q8} (ha:WA W) (g mask:Int):0<=Ov W (Qo W g mask)/\Ov W (Qo W g mask)<(W.cpus.length:Int)/\Z4 (Qo W g mask) (Ov W (Qo W g mask))=true:=
 zre ha (Pu ha g mask).1 (Pu ha g mask).2 fun _ h=>Ms ha h
def LG (m:Int):Nat->Int
 | 0=>0
 | k+1=>if Z4 m (k:Int)=true then LG m k+1 else LG m k
theorem Nm (m:Int):∀k:Nat,0<=LG m k/\LG m k<=(k:Int)
 | 0=>by simp [LG]
 | k+1=>by
  have:=Nm m k;simp only [LG]
  split <;> omega
def zsp (W:Q8):Prop:=∀t:Int,0<=t->t<12->0<=(Q7 W t).load/\(Q7 W t).load<=8000000
theorem zlt {W:Q8} (wp:Xn W):zsp W:=fun t t0 t1=>by
 rcases wp.t t t0 t1 with h | ⟨_,h⟩
 ·rw [h.2]; decide
 ·exact ⟨h.l1,h.l2⟩
theorem zgb (W:Q8) (c:Int) (j:Nat):0<=zcj W c j/\zcj W c j<=1:=by unfold zcj; split <;> omega
theorem zgc {W:Q8} (c:Int) (k:Nat):0<=Xz (zcj W c) k/\Xz (zcj W c) k<=(k:Int)*1:=Uw (zgb W c) k
theorem Nh {W:Q8} (hl:zsp W) (c:Int):∀k:Nat,k<=12->0<=Xz (zbx W c) k/\Xz (zbx W c) k<=(k:Int)*8000000
 | 0,_=>by simp [Xz]
 | k+1,hk=>by
  have ih:=Nh hl c k (by omega);have h1:=hl (k:Int) (by omega) (by omega);simp only [Xz];have h2:0<=zbx W c k/\zbx W c k<=8000000:=by unfold zbx; split <;> omega
  omega
section
variable {W:Q8} {m:MW} {w:World} {bs:List Nat} {p:OA}
theorem Tr {c:Int} (h:Xf bs w W m) (htl:W.tasks.length=12):PX bs Xq #[.agg (Qa W m).toArray,.int .i64 c] w (.int .i64 (zeb W c)):=
 Fz W.now m.cO W.cpus.length m.cC m.tO W.tasks.length m.tC m.gO W.groups.length m.gC c fun wr hx=>by
  have h:=(h.ext hx).less (cs:=[]) (by simp);intro _ _;refine T6 W.tasks.length 0 rfl (fun x k=>k<=W.tasks.length/\x=Xz (zcj W c) k) ⟨Nat.zero_le _,rfl⟩ fun x k ⟨hk,hx2⟩=>⟨fun hlt => ?_,fun hge => ?_⟩
  ·have hlt:=of_decide_eq_true hlt;have hr:=zgc (W:=W) c k;refine ⟨h.t.ix Qz (by omega) hlt,_,h.t.f (by omega) hlt (j:=0) rfl,fun _=>h.t.ix Qz (by omega) hlt,_,fun _=>h.t.f (by omega) hlt (j:=2) rfl,fun g2=>⟨⟨by omega,by omega⟩,⟨by omega,by omega⟩,Qx (by omega) ⟨by omega,?_⟩⟩,fun g2=>⟨⟨by omega,by omega⟩,Qx (by omega) ⟨by omega,?_⟩⟩⟩
   ·have g2:zrq W c k=true:=g2;simp only [Xz,zcj]; rw [if_pos g2,hx2]
   ·have g2:zrq W c k=false:=g2;simp only [Xz,zcj]; rw [if_neg (by rw [g2]; decide),hx2,Int.add_zero]
  ·have hge:=of_decide_eq_false hge;have:k=W.tasks.length:=by omega
   subst this;rw [hx2]; rfl
theorem U4 {c:Int} (h:Xf bs w W m) (htl:W.tasks.length=12) (hl:zsp W):PX bs YL #[.agg (Qa W m).toArray,.int .i64 c] w (.int .i64 (zby W c)):=
 Fx W.now m.cO W.cpus.length m.cC m.tO W.tasks.length m.tC m.gO W.groups.length m.gC c fun wr hx=>by
  have h:=(h.ext hx).less (cs:=[]) (by simp);intro _ _;refine T6 W.tasks.length 0 rfl (fun x k=>k<=W.tasks.length/\x=Xz (zbx W c) k) ⟨Nat.zero_le _,rfl⟩ fun x k ⟨hk,hx2⟩=>⟨fun hlt => ?_,fun hge => ?_⟩
  ·have hlt:=of_decide_eq_true hlt;have hr:=Nh hl c k (by omega);have hl1:=hl (k:Int) (by omega) (by omega);refine ⟨h.t.ix Qz (by omega) hlt,_,h.t.f (by omega) hlt (j:=0) rfl,fun _=>h.t.ix Qz (by omega) hlt,_,fun _=>h.t.f (by omega) hlt (j:=2) rfl,fun g2=>⟨h.t.ix Qz (by omega) hlt,(Q7 W (k:Int)).load,h.t.f (by omega) hlt (j:=8) rfl,⟨by omega,by omega⟩,⟨by omega,by omega⟩,Qx (by omega) ⟨by omega,?_⟩⟩,fun g2=>⟨⟨by omega,by omega⟩,Qx (by omega) ⟨by omega,?_⟩⟩⟩
   ·have g2:zrq W c k=true:=g2;simp only [Xz,zbx]; rw [if_pos g2,hx2]
   ·have g2:zrq W c k=false:=g2;simp only [Xz,zbx]; rw [if_neg (by rw [g2]; decide),hx2,Int.add_zero]
  ·have hge:=of_decide_eq_false hge;have:k=W.tasks.length:=by omega
   subst this;rw [hx2]; rfl
theorem M2 {x:Int} (h:Xf bs w W m) (ha:WA W) (hl:zsp W):PX bs Jw #[.agg (Qa W m).toArray,.int .i64 x] w (.int .i64 (Ov W x)):=
 Fy W.now m.cO W.cpus.length m.cC m.tO W.tasks.length m.tC m.gO W.groups.length m.gC x fun wr hx=>by
  have h:=(h.ext hx).less (cs:=[]) (by simp);have hcl:=ha.c2;have htl:=ha.t;intro _ _;refine T6 W.cpus.length 0 rfl (fun b k=>k<=W.cpus.length/\b=Ok W x k) ⟨Nat.zero_le _,rfl⟩ fun b k ⟨hk,hb⟩=>⟨fun hlt => ?_,fun hge => ?_⟩
  ·have hlt:=of_decide_eq_true hlt;have key:(((decide (b<0))||(decide (zby W (k:Int)<zby W b)))||((zby W (k:Int)==zby W b)&&(decide (zeb W (k:Int)<zeb W b))))=(decide (Ok W x k<0)||zow W (k:Int) (Ok W x k)):=by rw [hb,Bool.or_assoc]; rfl
   refine ⟨_,ZI,fun g=>⟨⟨by omega,by omega⟩,Qx (by omega) ⟨by omega,?_⟩⟩,fun g=>⟨_,fun _=>U4 h htl hl,_,fun _=>U4 h htl hl,_,fun _=>U4 h htl hl,_,fun _=>U4 h htl hl,_,fun _ _=>Tr h htl,_,fun _ _=>Tr h htl,fun g2=>⟨⟨by omega,by omega⟩,Qx (by omega) ⟨by omega,?_⟩⟩,fun g2=>⟨⟨by omega,by omega⟩,Qx (by omega) ⟨by omega,?_⟩⟩⟩⟩
   ·have g:Z4 x (k:Int)=false:=by simpa using g
    rw [hb,zhz (by rw [g]; rfl)]
   ·have g:Z4 x (k:Int)=true:=by simpa using g
    rw [zd9 (by rw [g,<-key,g2]; rfl)]
   ·have g:Z4 x (k:Int)=true:=by simpa using g
    rw [hb,zhz (by rw [g,<-key,g2]; rfl)]
  ·have hge:=of_decide_eq_false hge;have:k=W.cpus.length:=by omega
   subst this;rw [hb]; rfl
theorem D9 {x:Int}:PX bs UR #[.int .i64 x] w (.int .i64 (LG x 4)):=
 DA x fun wr hx=>by
  refine T6 4 0 rfl (fun n k=>k<=4/\n=LG x k) ⟨by decide,rfl⟩ fun n k ⟨hk,hn⟩=>⟨fun hlt => ?_,fun hge => ?_⟩
  ·have hlt:=of_decide_eq_true hlt;have hr:=Nm x k;refine ⟨_,ZI,fun g=>⟨⟨by omega,by omega⟩,⟨by omega,by omega⟩,Qx (by omega) ⟨by omega,?_⟩⟩,fun g=>⟨⟨by omega,by omega⟩,Qx (by omega) ⟨by omega,?_⟩⟩⟩
   ·simp only [LG]; rw [if_pos g,hn]
   ·simp only [LG]; rw [if_neg (by rw [g]; decide),hn]
  ·have hge:=of_decide_eq_false hge;have:k=4:=by omega
   subst this;rw [hn]
end
def FV (n:Int):Int:=if Yn n 1 4=true then (if n=1 then 0 else if n=2 then 1 else 2) else 0
theorem zjf {n:Int} (h:Yn n 1 4=true):(n=1/\FV n=0)\/(n=2/\FV n=1)\/(n=3/\FV n=2)\/(n=4/\FV n=2):=by
 have:=Qm.1 h;have:n=1\/n=2\/n=3\/n=4:=by omega
 rcases this with rfl | rfl | rfl | rfl
 ·exact .inl ⟨rfl,by decide⟩
 ·exact .inr (.inl ⟨rfl,by decide⟩)
 ·exact .inr (.inr (.inl ⟨rfl,by decide⟩))
 ·exact .inr (.inr (.inr ⟨rfl,by decide⟩))
def zl5 (c lv j:Int):Bool:=Int.fdiv j (2 ^ (min (Int.toNat (lv+1)) 64))==Int.fdiv c (2 ^ (min (Int.toNat (lv+1)) 64))
def zmu (c lv:Int):Nat->Int
 | 0=>0
 | k+1=>if zl5 c lv (k:Int)=true then zmu c lv k+XX k else zmu c lv k
theorem zmv (c lv:Int):∀k:Nat,k<=4->0<=zmu c lv k/\zmu c lv k<XX k
 | 0,_=>by simp [zmu,XX]
 | k+1,h=>by
  have ih:=zmv c lv k (by omega)
  have hb:XX (k+1)=2*XX k/\0<=XX k:=by
   have:k=0\/k=1\/k=2\/k=3:=by omega
   rcases this with rfl | rfl | rfl | rfl <;> decide
  simp only [zmu]
  split <;> omega
def DN (n c lv:Int):Bool:=(Yn n 1 4&&Yn c 0 (n - 1))&&Yn lv 0 (FV n - 1)
def zsi (n c lv:Int):Int:=if DN n c lv=true then zmu c lv n.toNat else 0
section
variable {w:World} {bs:List Nat} {n c lv:Int}
theorem zox {n:Int} {k:Nat} (h:Yn n 1 4=true) (hk:(k:Int)<=FV n):(decide ((1*2 ^ (min (Int.toNat (k:Int)) 64):Int)<n)=true->(k:Int)+1<=FV n)/\(decide ((1*2 ^ (min (Int.toNat (k:Int)) 64):Int)<n)=false->(k:Int)=FV n):=by
 rcases zjf h with ⟨rfl,e⟩ | ⟨rfl,e⟩ | ⟨rfl,e⟩ | ⟨rfl,e⟩ <;> rw [e] at hk ⊢
 ·have:k=0:=by omega
  subst this; decide
 ·have:k=0\/k=1:=by omega
  rcases this with rfl | rfl <;> decide
 ·have:k=0\/k=1\/k=2:=by omega
  rcases this with rfl | rfl | rfl <;> decide
 ·have:k=0\/k=1\/k=2:=by omega
  rcases this with rfl | rfl | rfl <;> decide
theorem zhn (n:Int):0<=FV n/\FV n<=2:=by
 unfold FV;split
 ·split
  ·omega
  ·split <;> omega
 ·omega
theorem Tx:PX bs X7 #[.int .i64 n] w (.int .i64 (FV n)):=
 KM n fun wr hx=>by
  refine ⟨_,Qj,fun q => ?_,fun q => ?_⟩
  ·have q:Yn n 1 4=false:=by simpa using q
   have:FV n=0:=if_neg (by rw [q]; decide);rw [this]
  ·have q:Yn n 1 4=true:=by simpa using q
   have hl:=zhn n;refine ⟨fun vs=>∃k:Nat,vs=[.int .i64 (k:Int)]/\(k:Int)<=FV n,fun vs=>(2 - ZW 0 vs).toNat,⟨0,rfl,hl.1⟩,?_⟩;rintro k' ⟨k,he,hk⟩;simp only [List.cons.injEq,Value.int.injEq,true_and,and_true] at he;subst he;have hb:=Lo (k:=k) (by omega);have hbd:(1*2 ^ (min (Int.toNat (k:Int)) 64):Int)=XX k:=rfl;obtain ⟨s1,s2⟩:=zox q hk;refine ⟨⟨by omega,by omega⟩,⟨by omega,by rw [hbd]; exact ⟨by omega,by omega⟩⟩,fun g=>⟨⟨by omega,by omega⟩,⟨k+1,by simp,by have:=s1 g; omega⟩,?_⟩,fun g=>by rw [<-s2 g]⟩;have:=s1 g;show (2 - ((k:Int)+1)).toNat<(2 - (k:Int)).toNat;omega
theorem zj0 (h:DN n c lv=true):Yn n 1 4=true/\0<=c/\c<n/\0<=lv/\lv<=1:=by
 unfold DN at h;simp only [Bool.and_eq_true] at h;have h1:=Qm.1 h.1.2;have h2:=Qm.1 h.2;have:=zhn n;exact ⟨h.1.1,h1.1,by omega,h2.1,by omega⟩
theorem GP:PX bs Ui #[.int .i64 n,.int .i64 c,.int .i64 lv] w (.int .i64 (zsi n c lv)):=
 H9 n c lv fun wr hx=>by
  have hl:=zhn n
  have e:(((!Yn n 1 4)||(!Yn c 0 (n - 1)))||(!Yn lv 0 (FV n - 1))) = !DN n c lv:=by
   unfold DN; rw [Bool.not_and,Bool.not_and]
  refine ⟨_,Qj,fun q => ?_,_,fun _=>Qj,_,fun _=>Tx,fun _=>⟨by omega,by omega⟩,_,fun _=>Qj,fun q => ?_,fun q => ?_⟩
  ·have q:=Qm.1 (by simpa using q:Yn n 1 4=true);exact ⟨by omega,by omega⟩
  ·rw [e] at q;have:zsi n c lv=0:=if_neg (by simpa using q);rw [this]
  ·rw [e] at q;have q:DN n c lv=true:=by simpa using q
   obtain ⟨h1,c0,c1,l0,l1⟩:=zj0 q;have hn:=Qm.1 h1;obtain ⟨N,rfl⟩:∃N:Nat,n=(N:Int):=⟨n.toNat,by omega⟩;have hD:zsi (N:Int) c lv=zmu c lv N:=by unfold zsi; rw [if_pos q,Int.toNat_natCast]
   rw [hD];refine T6 N 0 rfl (fun x k=>k<=N/\x=zmu c lv k) ⟨Nat.zero_le _,rfl⟩ fun x k ⟨hk,hx2⟩=>⟨fun hlt => ?_,fun hge => ?_⟩
   ·have hlt:=of_decide_eq_true hlt;have hb:=Lo (k:=k) (by omega);have hs:=zmv c lv k (by omega);have hbd:(1*2 ^ (min (Int.toNat (k:Int)) 64):Int)=XX k:=rfl;refine ⟨⟨by omega,by omega⟩,⟨by omega,by omega⟩,by omega,⟨by omega,by omega⟩,⟨by omega,by omega⟩,by omega,fun hu => ?_,fun hu => ?_⟩
    ·rw [hbd,hx2];refine ⟨⟨by omega,by omega⟩,⟨by omega,by omega,by omega⟩,⟨by omega,by omega⟩,⟨by omega,by omega⟩,Qx (by omega) ⟨by omega,?_⟩⟩;simp only [zmu]; rw [if_pos (show zl5 c lv (k:Int)=true from hu)]
    ·refine ⟨⟨by omega,by omega⟩,Qx (by omega) ⟨by omega,?_⟩⟩;rw [hx2]; simp only [zmu]; rw [if_neg (by rw [show zl5 c lv (k:Int)=false from hu]; decide)]
   ·have hge:=of_decide_eq_false hge;have:k=N:=by omega
    subst this;rw [hx2]
end
def FL (W:Q8) (g:Int):List Int:=QQ W.groups g++[0]
def zk2 (W:Q8) (g c:Int):Bool:=(FL W g).any fun x=>UE W x c
theorem zez (W:Q8):FL W 0=[0]:=by unfold FL; rw [show QQ W.groups 0=[] from Z2 W.groups 3]; rfl
theorem ze0 {W:Q8} (ht:ZP W.groups) {g:Int} (hu:Q6 W.groups g=true) (hz:g≠0):FL W g=g::FL W (gi W.groups g).parent:=by
 unfold FL;rw [Y2 ht hu hz,List.cons_append]
theorem znb {W:Q8} (ht:ZP W.groups) {g:Int} (hu:Q6 W.groups g=true):∀x∈FL W g,Q6 W.groups x=true:=by
 have hr:Q6 W.groups 0=true:=Q5.2 ⟨by decide,by have:=ht.len; omega,ht.ru⟩;refine Oi ht (Q:=fun h=>∀x∈FL W h,Q6 W.groups x=true) ?_ (fun h hu hz ih => ?_) g hu
 ·rw [zez];intro x hx;have:x=0:=by simpa using hx
  rw [this]; exact hr
 ·rw [ze0 ht hu hz];intro x hx;rcases List.mem_cons.1 hx with rfl | hx
  ·exact hu
  ·exact ih x hx
theorem NM (gs:List Zv):∀(f:Nat) (g:Int),(JE f gs g).length<=f
 | 0,_=>Nat.le_refl _
 | f+1,g=>by
  simp only [JE];split
  ·simp
  ·have:=NM gs f (gi gs g).parent;simp; omega
theorem zie (W:Q8) (g:Int):(FL W g).length<=4:=by
 unfold FL;have:=NM W.groups 3 g;simp; omega
def JH (W:Q8) (t c:Int):Bool:=
 (!(((((((Q7 W t).state != 1)||((Q7 W t).cpu==c))||((gi W.cpus (Q7 W t).cpu).cur==t))||(!Zr W t))||(!Z4 (Qo W (Q7 W t).group (Q7 W t).mask) c)))) && !zk2 W (Q7 W t).group c
def zim (W:Q8) (b c:Int):Bool:=Vg (fun t=>((Q7 W (t:Int)).cpu==b)&&JH W (t:Int) c) 12
theorem E5 {W:Q8} {t c:Int} (h:JH W t c=true):(Q7 W t).state=1/\(Q7 W t).cpu≠c:=by
 unfold JH at h;simp only [Bool.and_eq_true,Bool.not_eq_true',Bool.or_eq_false_iff,bne_eq_false_iff_eq,beq_eq_false_iff_ne] at h;exact ⟨h.1.1.1.1.1,h.1.1.1.1.2⟩
section
variable {W:Q8} {m:MW} {w:World} {bs:List Nat} {p:OA}
def zed (W:Q8) (g:Int):List Int:=if g=0 then [] else FL W (gi W.groups g).parent
theorem z4 {W:Q8} (ht:ZP W.groups) {g:Int} (hu:Q6 W.groups g=true):g::zed W g=FL W g:=by
 unfold zed
 by_cases hz:g=0
 ·subst hz; rw [if_pos rfl,zez]
 ·rw [if_neg hz,ze0 ht hu hz]
theorem M5 {t:Int} (h:Xf [] w W m) (ht:ZP W.groups) (t0:0<=t) (t1:t<(W.tasks.length:Int)) (hu:Q6 W.groups (Q7 W t).group=true) :
  Cz Jz #[.agg (Qa W m).toArray,.int .i64 t] w fun e w'=>∃o c',e = .returned (.slice o (FL W (Q7 W t).group).length c')/\Jr XY 1 Qc w.heap.size w' o c' (FL W (Q7 W t).group)/\Q0 [] w w':=by
 refine (F7 W.now m.cO W.cpus.length m.cC m.tO W.tasks.length m.tC m.gO W.groups.length m.gC t (R:=fun v w'=>∃o c',v = .slice o (FL W (Q7 W t).group).length c'/\Jr XY 1 Qc w.heap.size w' o c' (FL W (Q7 W t).group)/\Q0 [] w w') ?_).mono fun e w' ⟨v,he,o,c',hv,h1⟩=>⟨o,c',by rw [he,hv],h1⟩
 intro b hb;refine ⟨h.t.ix Qz t0 t1,_,h.t.f t0 t1 (j:=1) rfl,fun b1 wb hx1 hb1 hcell hn => ?_⟩;have hlen:=zie W (Q7 W t).group;have hO0:Jr XY 1 Qc w.heap.size wb (some ⟨b1,0,none⟩) 1 [(Q7 W t).group]:=.inr ⟨b1,[],rfl,hb1,hcell,by simp [XY],by simp⟩;have hbn:∀x∈[b],w.heap.size<=x:=by simpa using hb
 refine ⟨fun vs w1=>∃(g:Int) (l:List Int) (o:OA) (c':Nat),vs=[.int .i64 g,.slice o l.length c']/\Q6 W.groups g=true/\l++zed W g=FL W (Q7 W t).group/\Sc w [b] w1/\Ob XY 1 Qc w.heap.size [b] w1 o c' l,fun vs _=>(dep 3 W.groups (ZW 0 vs)).toNat,
  fun wr hx _=>⟨_,[(Q7 W t).group],_,1,rfl,hu,z4 ht hu,(Sc.mk hx1 hbn).step hx,⟨hO0.ext hx (by simp [Qy]; exact fun e=>hn (by simp [e])),by simp [Qy]; exact fun e=>hn (by simp [e])⟩⟩,?_⟩
 rintro g oO oL oC w1 hs1 ⟨g',l,o',c',he,hug,hI,s1,hO⟩;simp only [List.cons.injEq,Value.int.injEq,Value.slice.injEq,true_and,and_true] at he;obtain ⟨rfl,rfl,rfl,rfl⟩:=he;have hg:=((h.wide (cs:=[b]) fun x hm=>.inr (hbn x hm)).ext s1.ext.of_nil).g
 have hll:l.length<=4:=by
  have:=congrArg List.length hI;simp at this;omega
 refine ⟨fun hz => ?_,fun hz wr hx => ?_⟩
 ·have hz:g≠0:=by simpa using hz
  obtain ⟨hp,a,b',d,e,e2,hd⟩:=ZQ ht hug hz;refine ⟨hg.ix a b',_,hg.parent a b',fun b2 hb2 wr1 hx2 hs2 hcell2 => ?_⟩;have s2:=s1.put hx2 hb2;have hO2:=hO.put hx2 hb2;obtain ⟨o2,c2,w2,hrun,hk2,hO3,hx3⟩:=hO2.app1 Yg Pq (x:=(gi W.groups g).parent) hs2 s2.ext.size hcell2 (zsc _) (by omega) (by decide) Y3 #[false,false];have s3:=s2.call hx3 fun x hm=>(hO2.own.lt x hm).1
  refine ⟨_,_,_,w2,hrun,hk2,fun wr2 hx4 _=>⟨⟨_,l++[(gi W.groups g).parent],o2,c2,rfl,hp,?_,(s3.step hx4).sub (by simp),(hO3.step hx4).sub (by simp)⟩,?_⟩⟩
  ·rw [List.append_assoc,List.singleton_append,z4 ht hp,<-hI];unfold zed;rw [if_neg hz]
  ·show (dep 3 W.groups (gi W.groups g).parent).toNat<(dep 3 W.groups g).toNat;omega
 ·have hz:g=0:=by simpa using hz
  subst hz
  have hl:l=FL W (Q7 W t).group:=by
   rw [<-hI];unfold zed;rw [if_pos rfl,List.append_nil]
  subst hl;exact ⟨oO,oC,rfl,(hO.step hx).own,(s1.step hx).ext⟩
theorem M3 {t c:Int} (h:Xf bs w W m) (wp:Xn W) (t0:0<=t) (t1:t<(W.tasks.length:Int)) (c0:0<=c) (c1:c<(W.cpus.length:Int)):PX bs Jx #[.agg (Qa W m).toArray,.int .i64 t,.int .i64 c] w (.bool (JH W t c)):=by
 refine MX fun wr0 hx0=>F3 W.now m.cO W.cpus.length m.cC m.tO W.tasks.length m.tC m.gO W.groups.length m.gC t c (R:=fun v w'=>v = .bool (JH W t c)/\Q0 [] wr0 w') ?_
 have h:=(h.ext hx0).less (cs:=[]) (by simp);have li:((Q7 W t).state != 1)=false->Q6 W.groups (Q7 W t).group=true/\0<=(Q7 W t).cpu/\(Q7 W t).cpu<(W.cpus.length:Int):=fun hs=>wp.li t0 t1 (by simpa using hs)
 intro b hb;refine ⟨h.t.ix Qz t0 t1,_,_,_,_,_,_,_,_,_,h.t t t0 t1,fun b1 hb1 => ?_⟩;refine ⟨fun g => ?_,(gi W.cpus (Q7 W t).cpu).cur,fun g => ?_,Zr W t,fun g => ?_,Qo W (Q7 W t).group (Q7 W t).mask,fun g => ?_,_,fun g=>ZI,fun g wr hx => ?_,fun g wr1 hx1 hs1 => ?_⟩
 ·have g:(((Q7 W t).state != 1)||((Q7 W t).cpu==c))=false:=g;simp only [Bool.or_eq_false_iff] at g;have:=li g.1;exact h.c.ix ZS this.2.1 this.2.2
 ·have g:(((Q7 W t).state != 1)||((Q7 W t).cpu==c))=false:=g;simp only [Bool.or_eq_false_iff] at g;have:=li g.1;exact (h.c _ this.2.1 this.2.2).get 1 _ rfl
 ·exact U6 h wp.a t0 t1 fun hs=>wp.li t0 t1 hs
 ·have g:(((((Q7 W t).state != 1)||((Q7 W t).cpu==c))||((gi W.cpus (Q7 W t).cpu).cur==t))||(!Zr W t))=false:=g;simp only [Bool.or_eq_false_iff] at g;exact YU h wp.a.c2 wp.a.tree (li g.1.1.1).1
 ·have:JH W t c=false:=by
   unfold JH;rw [show ((((((Q7 W t).state != 1)||((Q7 W t).cpu==c))||((gi W.cpus (Q7 W t).cpu).cur==t))||(!Zr W t))||(!Z4 (Qo W (Q7 W t).group (Q7 W t).mask) c))=true from g];rfl
  rw [this]; exact ⟨rfl,hx⟩
 have g:((((((Q7 W t).state != 1)||((Q7 W t).cpu==c))||((gi W.cpus (Q7 W t).cpu).cur==t))||(!Zr W t))||(!Z4 (Qo W (Q7 W t).group (Q7 W t).mask) c))=false:=g;have eC:JH W t c = !zk2 W (Q7 W t).group c:=by unfold JH; rw [g]; rfl
 simp only [Bool.or_eq_false_iff] at g;obtain ⟨hu,_,_⟩:=li g.1.1.1.1;rw [eC]
 have hbn:∀x∈[b,b1],wr0.heap.size<=x:=by
  intro x hm;simp only [List.mem_cons,List.not_mem_nil,or_false] at hm;rcases hm with rfl | rfl
  ·exact hb
  ·exact hb1
 refine (M5 (h.ext hx1) wp.a.tree t0 t1 hu).mono fun e w2 ⟨o,c',he,hO,hx2⟩=>⟨_,_,_,he,Qe hx2 hs1,?_⟩
 have hplen:=zie W (Q7 W t).group;have s2:Sc wr0 [b,b1] w2:=⟨hx1.trans hx2,hbn⟩;have hO2:Ob XY 1 Qc wr1.heap.size [b,b1] w2 o c' (FL W (Q7 W t).group):=Ob.of hO hs1
 refine Of (FL W (Q7 W t).group).length 0 rfl (fun k w3=>k<=(FL W (Q7 W t).group).length/\Sc wr0 [b,b1] w3/\Ob XY 1 Qc wr1.heap.size [b,b1] w3 o c' (FL W (Q7 W t).group)/\∀j:Nat,j<k->UE W (gi (FL W (Q7 W t).group) (j:Int)) c=false)
  (fun w3 hx3 _=>⟨Nat.zero_le _,s2.step hx3,hO2.step hx3,fun j hj=>absurd hj (Nat.not_lt_zero j)⟩) fun k w3 _ ⟨hk,s3,hO3,hI⟩=>⟨fun hlt => ?_,fun hge wr hx => ?_⟩
 ·have hlt:=of_decide_eq_true hlt;have hR:=hO3.rd Yg.len;have hgm:=zfm (l:=FL W (Q7 W t).group) (i:=(k:Int)) (by omega) hlt;have hW3:=(h.wide (cs:=[b,b1]) fun x hm=>.inr (hbn x hm)).ext s3.ext.of_nil;refine ⟨hR.ix Vr (by omega) hlt,_,hR (k:Int) (by omega) hlt,_,PG hW3 wp.a (znb wp.a.tree hu _ hgm) c0 c1,fun gd wr hx=>⟨?_,(s3.step hx).ext⟩,fun gd=>⟨⟨by omega,by omega⟩,fun wr hx _=>QX (by omega) ⟨by omega,s3.step hx,hO3.step hx,fun j hj => ?_⟩⟩⟩
  ·have:zk2 W (Q7 W t).group c=true:=List.any_eq_true.2 ⟨_,hgm,gd⟩;rw [this]; rfl
  ·by_cases hjk:j<k
   ·exact hI j hjk
   ·have:j=k:=by omega
    subst this; exact gd
 ·have hge:=of_decide_eq_false hge;have hkn:k=(FL W (Q7 W t).group).length:=by omega
  have:zk2 W (Q7 W t).group c=false:=by
   cases hd:zk2 W (Q7 W t).group c with
   | false=>rfl
   | true=>
    obtain ⟨x,hx,hdx⟩:=List.any_eq_true.1 hd;obtain ⟨j,hj,hjx⟩:=List.getElem_of_mem hx;have:=hI j (by omega);rw [JD hj,hjx,hdx] at this;cases this
  rw [this]; exact ⟨rfl,(s3.step hx).ext⟩
end
end Go.Proofs.YtclpmgfpjeaibaaGreat
