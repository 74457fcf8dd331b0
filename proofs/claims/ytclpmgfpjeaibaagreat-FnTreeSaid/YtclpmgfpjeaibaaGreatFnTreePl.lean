/- Part 12 of what the law FnTree needs: the engine, the functions' propositions, the contracts. -/
import Derived.Test.YtclpmgfpjeaibaaGreatFnTreePk
import Derived.Laws.BytesArg
namespace Go.Proofs.YtclpmgfpjeaibaaGreat
open Go.RowKit
set_option linter.unusedVariables false
set_option linter.unusedSimpArgs false
set_option maxRecDepth 10000
theorem zgp {α:Type} [Inhabited α] {l:List α} {i:Int} (h0:0<=i) (h1:i<(l.length:Int)):l.set i.toNat (gi l i)=l:=by
 obtain ⟨k,rfl⟩:=Int.eq_ofNat_of_zero_le h0;rw [Ju (by omega),Int.toNat_natCast,List.set_getElem_self]
section
variable {n base:Nat} {W:Q7} {m:MW} {w w':World} {G G':Z0} {i:Int}
end
section
variable {base:Nat} {W:Q7} {m:MW} {w:World}
theorem C2 {W W':Q7} (h:Fr W W'):W'.cpus.length=W.cpus.length/\W'.tasks.length=W.tasks.length/\W'.groups.length=W.groups.length:=⟨h.c,by rw [h.t],h.g.len⟩
theorem zcb {n:Nat} {bs:List Nat} {w0 w:World} {W0 W:Q7} {m0 m:MW} (h:Mv n base bs w0 m0 w W m) (hf:Fr W0 W):Qa W m=Qa W0 m0:=h.encW_eq hf.n hf.c (by rw [hf.t]) hf.g.len
set_option maxHeartbeats 1000000 in
theorem Qm {K:Int} (h:Y8 8 base w W m) (hsw:SW K W) (hK0:0<=K) (hK:K<=100000000000000000) (hbase:base<=w.heap.size) :
  Cz Qh #[.agg (Qa W m).toArray] w fun e w'=>∃m',e = .returned (.agg (Qa (Qg W) m').toArray)/\Mv 8 base [] w m w' (Qg W) m':=by
 refine (Ds W.now m.cO W.cpus.length m.cC m.tO W.tasks.length m.tC m.gO W.groups.length m.gC (R:=fun v w'=>∃m',v = .agg (Qa (Qg W) m').toArray/\Mv 8 base [] w m w' (Qg W) m') ?_).mono fun e w' ⟨v,he,m',hv,h3⟩=>⟨m',by rw [he,hv],h3⟩
 intro x hx x1 hx1;have hgl:=hsw.a.gl;have hcl4:=hsw.a.c2;have hm9:=Zp;refine ⟨fun vs w1=>∃(k:Nat),vs = .int .i64 (k:Int)::Qa W m/\k<=W.cpus.length/\Mv 8 base [x,x1] w m w1 (Ys W k) m,Zm W.cpus.length 0,fun w1 hx0 _=>⟨0,rfl,Nat.zero_le _,(Mv.two h hx hx1).call0 hx0⟩,?_⟩;rintro c1 l l1O l1L l1C l2O l2L l2C l3O l3L l3C wv2 hs2 ⟨k,he,hk,hM⟩;obtain ⟨hS,hO⟩:=T5 (F:=K) (K:=K+Qj) (hsw.sf.mono (Int.le_refl _) (by simp only [Qj]; omega)) (Int.le_refl _) k hk;have hdef:Ys W (k+1)=QE (Ys W k) (k:Int):=rfl;have hend:k=W.cpus.length->Ys W W.cpus.length=Ys W k:=fun e=>by rw [e]
 have e0:=zcb hM hO.fr;obtain ⟨n1,n2,n3⟩:=C2 hO.fr;simp only [Qa,List.cons.injEq,Value.int.injEq,Value.slice.injEq,true_and,and_true] at he;obtain ⟨rfl,rfl,⟨rfl,rfl,rfl⟩,⟨rfl,rfl,rfl⟩,rfl,rfl,rfl⟩:=he;generalize Ys W k=W1 at hM hS hO hdef hend e0 n1 n2 n3;refine ⟨fun hlt wr3 hx3 hs3 => ?_,fun hge wr5 hx5 hs5 => ?_⟩
 ·have hlt:=of_decide_eq_true hlt;have hM3:=hM.step hx3;have hcall:=PE hM3.own hS (by omega) (by simp only [Qj]; omega) (c:=(k:Int)) (by omega) (by omega);rw [e0] at hcall;refine Calls.mono hcall ?_;rintro e wv3 ⟨he,hy⟩;refine ⟨_,_,_,_,_,_,_,_,_,_,he,hM3.kept hy hs3,⟨by omega,by omega⟩,fun wr4 hx4 _=>⟨⟨k+1,rfl,by omega,?_⟩,?_⟩⟩
  ·rw [hdef];exact (hM3.call hy hs3).step hx4
  ·simp only [Zm,Jq,Yf,List.getElem?_cons_zero]; omega
 ·have hge:=of_decide_eq_false hge;have hkk:k=W.cpus.length:=by omega
  have hend:=hend hkk;have hM5:=hM.step hx5;have hb5:base<=wr5.heap.size:=by have:=hM5.ext.size; omega
  have hcall:=N5 hM5.own hS hb5;rw [e0] at hcall;refine Calls.mono hcall ?_;rintro e2 wv4 ⟨m4,he2,hy2⟩;obtain ⟨hS4,hO4⟩:=Vy hS 8 (by decide);have hM6:=hM5.call hy2 hs5;have hset:Qg W=J5 (MN W1) W.cpus.length:=by unfold Qg; rw [hend]
  have hf4:Fr W (MN W1):=hO.fr.trans hO4.fr;have hS4':SW (K+Qj) (MN W1):=hS4.w;have hlen4:=C2 hf4;generalize MN W1=W4 at hM6 hset hf4 hS4' hlen4;refine ⟨_,_,_,_,_,_,_,_,_,_,he2,hM5.kept hy2 hs5,fun vs w1=>∃(k:Nat) (m1:MW),vs = .int .i64 (k:Int)::Qa W m/\k<=W.cpus.length/\Mv 8 base [x,x1] w m w1 (J5 W4 k) m1,Zm W.cpus.length 0,fun w1 hx0 _=>⟨0,m4,rfl,Nat.zero_le _,hM6.step hx0⟩,?_⟩;rintro c3 l l1O l1L l1C l2O l2L l2C l3O l3L l3C wv7 hs7 ⟨k,m7,he,hk,hM7⟩;obtain ⟨hS7,hf7⟩:=PP hS4' (by simp only [Qj]; omega) k (by omega);have hdef7:J5 W4 (k+1)=UA (J5 W4 k) (k:Int):=rfl;have hend7:k=W.cpus.length->Qg W=J5 W4 k:=fun e=>by rw [hset,e]
  have hfW:=hf4.trans hf7;have e7:=zcb hM7 hfW;obtain ⟨q1,q2,q3⟩:=C2 hfW;simp only [Qa,List.cons.injEq,Value.int.injEq,Value.slice.injEq,true_and,and_true] at he;obtain ⟨rfl,rfl,⟨rfl,rfl,rfl⟩,⟨rfl,rfl,rfl⟩,rfl,rfl,rfl⟩:=he;generalize J5 W4 k=W7 at hM7 hS7 hf7 hdef7 hend7 hfW e7 q1 q2 q3;refine ⟨fun hlt wr9 hx9 hs9 => ?_,fun hge => ?_⟩
  ·have hlt:=of_decide_eq_true hlt;have hM9:=hM7.step hx9;have hk4:(k:Int)<=4:=by omega
   have hKb:K+Qj+(k:Int)*Qj+Qj<=1000000000000000000:=by simp only [Qj]; omega
   have c1':(k:Int)<(W7.cpus.length:Int):=by omega
   have hSF:=hS7.sf.mono (F':=K+Qj+(k:Int)*Qj) (K':=K+Qj+(k:Int)*Qj+Qj) (Int.le_refl _) (by simp only [Qj]; omega);have hcall:=PE hM9.own hSF (Int.le_refl _) hKb (c:=(k:Int)) (by omega) c1';rw [e7] at hcall;refine Calls.mono hcall ?_;rintro e4 wv8 ⟨he4,hy4⟩;obtain ⟨hS8,hO8⟩:=GG hSF (Int.le_refl _) (c:=(k:Int)) (by omega) c1';have hM8:=hM9.call hy4 hs9;refine ⟨_,_,_,_,_,_,_,_,_,_,he4,hM9.kept hy4 hs9,fun wr10 hx10 hs10 => ?_⟩;have hM10:=hM8.step hx10;have hstep:UA W7 (k:Int)=if P6 (Zf (QE W7 (k:Int)) (k:Int)) (k:Int)=true then endW (Zf (QE W7 (k:Int)) (k:Int)) (k:Int) else Zf (QE W7 (k:Int)) (k:Int):=rfl;have c2':(k:Int)<((QE W7 (k:Int)).cpus.length:Int):=by rw [hO8.c]; exact c1'
   have hcall5:=DJ hM10.own hS8.w (by simp only [Qj]; omega) (c:=(k:Int)) (by omega) c2';rw [VV hO8.fr,e7] at hcall5;obtain ⟨hS11,hO11⟩:=Mc hS8.w (by simp only [Qj]; omega) (c:=(k:Int)) (by omega) c2' 8 (by decide);refine Calls.mono hcall5 ?_;rintro e5 wv9 ⟨he5,hy5⟩;have hM11:=hM10.call hy5 hs10;have hK11:=hM10.kept hy5 hs10;have hf11:Fr W (Zf (QE W7 (k:Int)) (k:Int)):=(hfW.trans hO8.fr).trans hO11.fr;have hS11':SW (K+Qj+(k:Int)*Qj+Qj) (Zf (QE W7 (k:Int)) (k:Int)):=hS11;generalize Zf (QE W7 (k:Int)) (k:Int)=W11 at hM11 hf11 hS11' hstep;have e11:=zcb hM11 hf11;have hm11:m7.cO=m.cO/\m7.tO=m.tO:=by rw [hM7.hd]; exact ⟨rfl,rfl⟩
   obtain ⟨r1,r2,r3⟩:=C2 hf11;have hr:=hM11.rd;have c3':(k:Int)<(W11.cpus.length:Int):=by omega
   have hcur:=hS11'.cu (k:Int) (by omega) c3';have htl:=hS11'.a.t;have hixC:=hr.c.ix ZZ (i:=(k:Int)) (by omega) c3';have hrC:=hr.c.f (i:=(k:Int)) (by omega) c3' (j:=1) rfl
   have hT:(decide ((gi W11.cpus (k:Int)).cur>=0))=true->0<=(gi W11.cpus (k:Int)).cur/\(gi W11.cpus (k:Int)).cur<(W11.tasks.length:Int):=fun g=>by
    have:=of_decide_eq_true g;exact ⟨this,by omega⟩
   have hline:∀g:(decide ((gi W11.cpus (k:Int)).cur>=0))=true,PX [x,x1] Y3 #[.agg (Qa W m).toArray,.int .i64 (gi W11.cpus (k:Int)).cur] wv9 (.bool (ZH W11 (gi W11.cpus (k:Int)).cur)):=fun g=>by
    have:=JJ hr hS11'.a (hT g).1 (hT g).2 (fun hs=>hS11'.li (hT g).1 (hT g).2 hs)
    rwa [e11] at this
   rw [r1,hm11.1] at hixC;rw [hm11.1] at hrC;refine ⟨_,_,_,_,_,_,_,_,_,_,he5,hK11,hixC,_,hrC,fun g => ?_,(Q8 W11 (gi W11.cpus (k:Int)).cur).cpu,fun g => ?_,ZH W11 (gi W11.cpus (k:Int)).cur,fun _ g=>hline g,fun g wr11 hx11 hs11 => ?_,fun g => ?_⟩
   ·have:=hr.t.ix QJ (hT g).1 (hT g).2
    rwa [r2,hm11.2] at this
   ·have:=hr.t.f (hT g).1 (hT g).2 (j:=2) rfl
    rwa [hm11.2] at this
   ·have hM12:=hM11.step hx11;have hcall6:=Zg hM12.own (c:=(k:Int)) (by omega) c3';rw [e11] at hcall6;refine Calls.mono hcall6 ?_;rintro e6 wv10 ⟨he6,hy6⟩;have e12:=VV (m:=m7) (Fa W11 (k:Int));rw [e11] at e12;rw [e12] at he6;refine ⟨_,_,_,_,_,_,_,_,_,_,he6,hM12.kept hy6 hs11,⟨by omega,by omega⟩,fun wr12 hx12 _=>⟨⟨k+1,m7,rfl,by omega,?_⟩,?_⟩⟩
    ·rw [hdef7,hstep,if_pos (by unfold P6; exact g)];exact (hM12.call hy6 hs11).step hx12
    ·simp only [Zm,Jq,Yf,List.getElem?_cons_zero]; omega
   ·refine ⟨⟨by omega,by omega⟩,fun wr12 hx12 _=>⟨⟨k+1,m7,rfl,by omega,?_⟩,?_⟩⟩
    ·rw [hdef7,hstep,if_neg (by unfold P6; rw [g]; decide)];exact hM11.step hx12
    ·simp only [Zm,Jq,Yf,List.getElem?_cons_zero]; omega
  ·have hge:=of_decide_eq_false hge;have hend7:=hend7 (by omega);rw [hend7];refine fun w9 hx9=>⟨m7,?_,(hM7.step hx9).close⟩
   rw [e7]; rfl
end
theorem ZM {n:Int} {w:World} {bs:List Nat}:PX bs Zb #[.int .i64 n] w (.bool (decide (n<=Ql))):=Np n fun wr hx=>rfl
section
variable {W:Q7} {m:MW} {w:World} {bs:List Nat}
theorem Ox (h:Xo bs w W m) (hl:X4 W):PX bs XM #[.agg (Qa W m).toArray] w (.bool (Vu (XG W/\MF W))):=
 H0 W.now m.cO W.cpus.length m.cC m.tO W.tasks.length m.tC m.gO W.groups.length m.gC fun wr hx=>by
  have h:=(h.ext hx).less (cs:=[]) (by simp);intro x hx;refine ⟨_,XY h hl.c hl.t hl.g hl.f,_,fun _=>ZM,fun g=>NW ?_,fun g => ?_⟩
  ·rintro ⟨wp,r⟩;rw [show QG W=true from Qn.2 wp,show decide (W.now<=Ql)=true from decide_eq_true r.n] at g;cases g
  ·simp only [Bool.or_eq_false_iff,Bool.not_eq_false'] at g;have wp:XG W:=Qn.1 g.1;have hnow:=of_decide_eq_true g.2;have hgl:=wp.a.gl;have htl:=wp.a.t;have hcl:=wp.a.c2;refine Uv W.cpus.length 0 rfl (fun k=>k<=W.cpus.length/\∀c:Int,0<=c->c<(k:Int)->(gi W.cpus c).busy<=Ql/\(gi W.cpus c).idle<=Ql) ⟨Nat.zero_le _,fun c a b=>by omega⟩ fun k ⟨hk,hI⟩=>⟨fun hlt => ?_,fun hge => ?_⟩
   ·have hlt:=of_decide_eq_true hlt;refine ⟨h.c.ix ZZ (by omega) hlt,_,h.c.f (by omega) hlt (j:=3) rfl,_,ZM,fun _=>h.c.ix ZZ (by omega) hlt,_,fun _=>h.c.f (by omega) hlt (j:=4) rfl,_,fun _=>ZM,fun g2=>NW ?_,fun g2=>⟨⟨by omega,by omega⟩,QY (by omega) ⟨by omega,fun c a b => ?_⟩⟩⟩
    ·rintro ⟨_,r⟩;have:=r.c (k:Int) (by omega) hlt;rw [decide_eq_true this.1,decide_eq_true this.2] at g2;cases g2
    ·by_cases e:c=(k:Int)
     ·subst e;simp only [Bool.or_eq_false_iff,Bool.not_eq_false'] at g2;exact ⟨of_decide_eq_true g2.1,of_decide_eq_true g2.2⟩
     ·exact hI c a (by omega)
   have hge:=of_decide_eq_false hge;have hC:∀c:Int,0<=c->c<(W.cpus.length:Int)->(gi W.cpus c).busy<=Ql/\(gi W.cpus c).idle<=Ql:=fun c a b=>hI c a (by omega)
   clear hI;refine Uv W.tasks.length 0 rfl (fun k=>k<=W.tasks.length/\∀t:Int,0<=t->t<(k:Int)->(gi W.tasks t).v<=Ql/\(gi W.tasks t).sum<=Ql/\(gi W.tasks t).used<=Ql) ⟨Nat.zero_le _,fun c a b=>by omega⟩ fun k ⟨hk,hI⟩=>⟨fun hlt => ?_,fun hge => ?_⟩
   ·have hlt:=of_decide_eq_true hlt;have hix:=h.t.ix QJ (i:=(k:Int)) (by omega) hlt;refine ⟨hix,_,h.t.f (by omega) hlt (j:=5) rfl,_,ZM,fun _=>hix,_,fun _=>h.t.f (by omega) hlt (j:=6) rfl,_,fun _=>ZM,fun _=>hix,_,fun _=>h.t.f (by omega) hlt (j:=7) rfl,_,fun _=>ZM,fun g2=>NW ?_,fun g2=>⟨⟨by omega,by omega⟩,QY (by omega) ⟨by omega,fun c a b => ?_⟩⟩⟩
    ·rintro ⟨_,r⟩;have:=r.t (k:Int) (by omega) hlt;rw [decide_eq_true this.1,decide_eq_true this.2.1,decide_eq_true this.2.2] at g2;cases g2
    ·by_cases e:c=(k:Int)
     ·subst e;simp only [Bool.or_eq_false_iff,Bool.not_eq_false'] at g2;exact ⟨of_decide_eq_true g2.1.1,of_decide_eq_true g2.1.2,of_decide_eq_true g2.2⟩
     ·exact hI c a (by omega)
   have hge:=of_decide_eq_false hge;have hT:∀t:Int,0<=t->t<(W.tasks.length:Int)->(gi W.tasks t).v<=Ql/\(gi W.tasks t).sum<=Ql/\(gi W.tasks t).used<=Ql:=fun c a b=>hI c a (by omega)
   clear hI;refine Uv W.groups.length 0 rfl (fun k=>k<=W.groups.length/\∀j:Int,0<=j->j<(k:Int)->(gi W.groups j).sum<=Ql/\∀c:Int,0<=c->c<((gi W.groups j).shelves.length:Int)->(Qc W j c).floor<=Ql/\(Qc W j c).v<=Ql/\(Qc W j c).sum<=Ql) ⟨Nat.zero_le _,fun c a b=>by omega⟩ fun k ⟨hk,hI⟩=>⟨fun hlt => ?_,fun hge => ?_⟩
   ·have hlt:=of_decide_eq_true hlt;have hix:=h.g.ix (i:=(k:Int)) (by omega) hlt
    have hsl:(gi W.groups (k:Int)).shelves.length<=4:=by
     have:=wp.a.grp (k:Int) (by omega) (by omega)
     cases hu:(gi W.groups (k:Int)).used with
     | true=>have:=(this.2 hu).len; omega
     | false=>have:=(this.1 hu).l; omega
    refine ⟨hix,_,(h.g.cells (k:Int) (by omega) hlt).get 7 _ rfl,_,ZM,fun g2=>NW ?_,fun g2 => ?_⟩
    ·rintro ⟨_,r⟩;have:=r.g (k:Int) (by omega) hlt;rw [decide_eq_true this] at g2;cases g2
    have g2:(gi W.groups (k:Int)).sum<=Ql:=by simpa using g2
    have hrs:=h.g.shelves (k:Int) (by omega) hlt;refine Uv (gi W.groups (k:Int)).shelves.length 0 rfl (fun q=>q<=(gi W.groups (k:Int)).shelves.length/\∀c:Int,0<=c->c<(q:Int)->(Qc W (k:Int) c).floor<=Ql/\(Qc W (k:Int) c).v<=Ql/\(Qc W (k:Int) c).sum<=Ql) ⟨Nat.zero_le _,fun c a b=>by omega⟩ fun q ⟨hq,hJ⟩=>⟨hix,_,_,_,h.g.shelf (by omega) hlt,fun hlt2 => ?_,fun hge2 => ?_⟩
    ·have hlt2:=of_decide_eq_true hlt2;refine ⟨hix,_,_,_,h.g.shelf (by omega) hlt,hrs.ix ZK (by omega) hlt2,_,_,_,_,_,hrs (q:Int) (by omega) hlt2,fun b1 hb1=>⟨_,ZM,_,fun _=>ZM,_,fun _=>ZM,fun g3=>NW ?_,fun g3=>⟨⟨by omega,by omega⟩,QY (by omega) ⟨by omega,fun c a b => ?_⟩⟩⟩⟩
     ·rintro ⟨_,r⟩;have:=r.s (k:Int) (q:Int) (by omega) hlt (by omega) hlt2;unfold Qc at this;rw [decide_eq_true this.1,decide_eq_true this.2.1,decide_eq_true this.2.2] at g3;cases g3
     ·by_cases e:c=(q:Int)
      ·subst e;simp only [Bool.or_eq_false_iff,Bool.not_eq_false'] at g3;exact ⟨of_decide_eq_true g3.1.1,of_decide_eq_true g3.1.2,of_decide_eq_true g3.2⟩
      ·exact hJ c a (by omega)
    ·have hge2:=of_decide_eq_false hge2;refine ⟨⟨by omega,by omega⟩,QY (by omega) ⟨by omega,fun j a b => ?_⟩⟩
     by_cases e:j=(k:Int)
     ·subst e;exact ⟨g2,fun c a b=>hJ c a (by omega)⟩
     ·exact hI j a (by omega)
   ·have hge:=of_decide_eq_false hge;exact zml ⟨wp,⟨hnow,hC,hT,fun j a b=>(hI j a (by omega)).1,fun j c a b c0 c1=>(hI j a (by omega)).2 c c0 c1⟩⟩
theorem XC {t:Int} (h:Xo bs w W m) (hl:W.tasks.length<=maxLen):PX bs Yg #[.agg (Qa W m).toArray,.int .i64 t] w (.bool (ZG W t)):=
 Nr W.now m.cO W.cpus.length m.cC m.tO W.tasks.length m.tC m.gO W.groups.length m.gC t fun wr hx=>by
  have h:=(h.ext hx).less (cs:=[]) (by simp);intro x hx;have:=Je;refine ⟨⟨by omega,by omega⟩,_,Qi,fun g => ?_,_,fun g => ?_,rfl⟩
  ·have:=Qx.1 g;exact h.t.ix QJ (by omega) (by omega)
  ·have:=Qx.1 g;exact h.t.f (by omega) (by omega) (j:=0) rfl
end
structure LY (base:Nat) (bs:List Nat) (w:World) (o:OA) (cap:Nat) (ps:List (Z0×MG)):Prop where
 own:OS base w o cap ps
 nb:∀x∈Qu o,x∉bs
 nm:∀i:Int,0<=i->i<(ps.length:Int)->∀x∈Qp (gi ps i).2,x∉bs
section
variable {base:Nat} {bs cs:List Nat} {w w':World} {o:OA} {cap:Nat} {ps:List (Z0×MG)} {b:Nat}
theorem LY.lt (h:LY base bs w o cap ps):(∀x∈Qu o,base<=x/\x<w.heap.size)/\∀i:Int,0<=i->i<(ps.length:Int)->∀x∈Qp (gi ps i).2,base<=x/\x<w.heap.size:=⟨h.own.row.lt,fun i a b=>(h.own.each i a b).lt⟩
theorem LY.ext (h:LY base bs w o cap ps) (hx:Q0 cs w w') (h1:∀x∈Qu o,x∉cs) (h2:∀i:Int,0<=i->i<(ps.length:Int)->∀x∈Qp (gi ps i).2,x∉cs):LY base bs w' o cap ps:=
 ⟨⟨h.own.row.ext hx h1,fun i a b=>(h.own.each i a b).ext hx (h2 i a b),h.own.dj⟩,h.nb,h.nm⟩
theorem LY.step (h:LY base bs w o cap ps) (hx:Q0 bs w w'):LY base bs w' o cap ps:=h.ext hx h.nb h.nm
theorem LY.call0 (h:LY base bs w o cap ps) (hx:Q0 [] w w'):LY base bs w' o cap ps:=h.ext hx (by simp) (by simp)
theorem LY.add (h:LY base bs w o cap ps) (hb:w.heap.size<=b):LY base (bs++[b]) w o cap ps:=
 have key:∀x,x<w.heap.size->x∉bs->x∉bs++[b]:=fun x hl hx hm=>by
  rcases List.mem_append.1 hm with hm | hm
  ·exact hx hm
  ·have:x=b:=by simpa using hm
   omega
 ⟨h.own,fun x hx=>key x (h.lt.1 x hx).2 (h.nb x hx),fun i a c x hx=>key x (h.lt.2 i a c x hx).2 (h.nm i a c x hx)⟩
theorem LY.put (h:LY base bs w o cap ps) (hx:Q0 bs w w') (hb:w.heap.size<=b):LY base (bs++[b]) w' o cap ps:=⟨(h.step hx).own,(h.add hb).nb,(h.add hb).nm⟩
theorem LY.sub (h:LY base bs w o cap ps) (hs:∀x∈cs,x∈bs):LY base cs w o cap ps:=⟨h.own,fun x hx hm=>h.nb x hx (hs x hm),fun i a c x hx hm=>h.nm i a c x hx (hs x hm)⟩
theorem LY.nil (base:Nat) (bs:List Nat) (w:World):LY base bs w none 0 []:=⟨⟨.inl ⟨rfl,rfl,rfl⟩,fun i a b=>by simp at b; omega,fun i j a b=>by simp at b; omega⟩,by simp [Qu],fun i a b=>by simp at b; omega⟩
theorem znl {α:Type} [Inhabited α] {l:List α} {x:α} {i:Int} (h0:0<=i) (h1:i<(l.length:Int)):gi (l++[x]) i=gi l i:=by
 obtain ⟨k,rfl⟩:=Int.eq_ofNat_of_zero_le h0;rw [Ju (by simp; omega),Ju (by omega),List.getElem_append_left]
theorem zkw {α:Type} [Inhabited α] {l:List α} {x:α}:gi (l++[x]) (l.length:Int)=x:=by
 rw [Ju (by simp)]; simp
theorem LY.app1 {p:Z0×MG} {t':TypeId} {fz:Nat×Nat} (h:LY base bs w o cap ps) (hs:∀x∈bs,x<w.heap.size) (hbase:base<=w.heap.size) (hp:OT base w p) (hpb:∀x∈Qp p.2,x∉bs) (hd:∀i:Int,0<=i->i<(ps.length:Int)->∀x∈Qp (gi ps i).2,x∉Qp p.2)
  (hb:w.heap[b]? = some (.cells (Tf p).toArray t' fz)) (h1:Zc (Tf p)=true) (hl:ps.length<=1048576) (tr:TypeId) (cs:Array Bool) :
  ∃o' cap' w',(builtin .append #[QP,QP] tr cs #[.slice o ps.length cap,.slice (some ⟨b,0,none⟩) 1 1]).run Tryz.prog w = .ok (.value (.slice o' (ps++[p]).length cap')) w'/\Q9 bs w w'/\LY base bs w' o' cap' (ps++[p])/\Q0 (Qu o) w w':=by
 obtain ⟨o2,c2,w2,hrun,hk,hO,hx⟩:=Ob.app1 Yy Pf (⟨h.own.row,h.nb⟩:Ob Tf 14 QH base bs w o cap ps) hs hbase hb h1 hl (by decide) tr cs;have hlen:(ps++[p]).length=ps.length+1:=by simp
 have hcase:∀i:Int,0<=i->i<((ps++[p]).length:Int)->(i<(ps.length:Int)/\gi (ps++[p]) i=gi ps i)\/(i=(ps.length:Int)/\gi (ps++[p]) i=p):=fun i a b=>by
  by_cases e:i<(ps.length:Int)
  ·exact .inl ⟨e,znl a e⟩
  ·have:i=(ps.length:Int):=by omega
   subst this;exact .inr ⟨rfl,zkw⟩
 refine ⟨o2,c2,w2,hrun,hk,⟨⟨hO.own,fun i a b => ?_,fun i j a b c d e => ?_⟩,hO.nb,fun i a b => ?_⟩,hx⟩
 ·rcases hcase i a b with ⟨hi,hg⟩ | ⟨hi,hg⟩
  ·rw [hg]; exact (h.own.each i a hi).ext hx (Xj h.own.row (h.own.each i a hi))
  ·rw [hg]; exact hp.ext hx (Xj h.own.row hp)
 ·rcases hcase i a b with ⟨hi,hg⟩ | ⟨hi,hg⟩ <;> rcases hcase j c d with ⟨hj,hg'⟩ | ⟨hj,hg'⟩
  ·rw [hg,hg']; exact h.own.dj i j a hi c hj e
  ·rw [hg,hg']; exact hd i a hi
  ·rw [hg,hg']; exact fun x hx hm=>hd j c hj x hm hx
  ·omega
 ·rcases hcase i a b with ⟨hi,hg⟩ | ⟨hi,hg⟩
  ·rw [hg]; exact h.nm i a hi
  ·rw [hg]; exact hpb
end
theorem zpu (g:Z0) (m:MG):Zc (Yq g m)=true:=rfl
theorem L2 {W:Q7} (ha:WA W) {k:Int} (k0:0<=k) (k1:k<8):(gi W.groups k).band.dry.length=(gi W.groups k).band.locals.length/\(gi W.groups k).band.locals.length<=4/\(gi W.groups k).shelves.length<=4:=by
 have hg:=ha.grp k k0 k1;have hc:=ha.c2
 cases hu:(gi W.groups k).used with
 | false=>
  have:=hg.1 hu;have hb:=zal this.b;have:=this.l;omega
 | true=>
  have:=hg.2 hu;have hl:=this.len
  by_cases hq:(gi W.groups k).band.quota=0
  ·have hb:=zal (this.none hq).1;omega
  ·have hb:=(this.band hq).1;have h1:=hb.dl;have h2:=hb.l2;omega
section
variable {W:Q7} {m:MW} {w:World} {bs:List Nat}
def Cu (W:Q7) (ms:Nat->MG) (k:Nat):List (Z0×MG):=(List.range k).map fun (j:Nat)=>(gi W.groups (j:Int),ms j)
theorem zaw (W:Q7) (ms:Nat->MG) (k:Nat):(Cu W ms k).length=k:=by simp [Cu]
theorem zgm (W:Q7) (ms:Nat->MG) (k:Nat) (p:MG):Cu W (fun j=>if j=k then p else ms j) (k+1)=Cu W ms k++[(gi W.groups (k:Int),p)]:=by
 unfold Cu;rw [List.range_succ,List.map_append]
 congr 1
 ·refine List.map_congr_left fun j hj => ?_
  have:=List.mem_range.1 hj;show (_,if j=k then p else ms j)=_;rw [if_neg (by omega)]
 ·simp
set_option maxHeartbeats 1000000 in
theorem VZ (h:Xo [] w W m) (ha:WA W) :
  Cz XA #[.agg (Qa W m).toArray] w fun e w'=>∃m',e = .returned (.agg (Qa W m').toArray)/\Y8 8 w.heap.size w' W m'/\Q0 [] w w':=by
 refine (AW W.now m.cO W.cpus.length m.cC m.tO W.tasks.length m.tC m.gO W.groups.length m.gC (R:=fun v w'=>∃m',v = .agg (Qa W m').toArray/\Y8 8 w.heap.size w' W m'/\Q0 [] w w') ?_).mono fun e w' ⟨v,he,m',hv,h3⟩=>⟨m',by rw [he,hv],h3⟩
 have hcl:=ha.c2;have htl:=ha.t;have hgl:=ha.gl;intro x hx x1 hx1 x2 hx2;have s0:Sc w [x,x1,x2] w:=(((Sc.start w).add hx).add hx1).add hx2
 refine ⟨fun vs w1=>∃(i:Nat) (cO:OA) (cC:Nat),vs=[.int .i64 (i:Int),.int .i64 W.now,.slice cO (W.cpus.take i).length cC,.slice none 0 0,.slice none 0 0]/\i<=W.cpus.length/\Sc w [x,x1,x2] w1/\Ob Pk 5 ZJ w.heap.size [x,x1,x2] w1 cO cC (W.cpus.take i),
  Zm W.cpus.length 0,fun wr hx _=>⟨0,none,0,by simp,Nat.zero_le _,s0.call0 hx,⟨.inl ⟨rfl,rfl,rfl⟩,by simp [Qu]⟩⟩,?_⟩
 rintro c1 l l1O l1L l1C l2O l2L l2C l3O l3L l3C wv2 hs2 ⟨i,cO,cC,he,hi,s1,hC⟩;simp only [List.cons.injEq,Value.int.injEq,Value.slice.injEq,true_and,and_true] at he;obtain ⟨rfl,rfl,⟨rfl,rfl,rfl⟩,⟨rfl,rfl,rfl⟩,rfl,rfl,rfl⟩:=he;refine ⟨fun hlt => ?_,fun hge => ?_⟩
 ·have hlt:=of_decide_eq_true hlt;have hr:=h.c.scb s1;refine ⟨hr.ix ZZ (by omega) hlt,_,_,_,_,_,hr i (by omega) hlt,fun b4 hb4=>⟨rfl,fun wr3 hx3 hs3 hcell => ?_⟩⟩;have s2:=s1.put hx3 hb4;have hC2:=hC.put hx3 hb4;obtain ⟨o2,c2,w2,hrun,hk2,hC3,hy2⟩:=hC2.app1 Ma MY (x:=gi W.cpus (i:Int)) hs3 s2.ext.size hcell (zo4 _) (by rw [List.length_take]; omega) (by decide) ZT #[false,false];rw [PS (by omega)] at hrun hC3;have s3:=s2.call hy2 fun y hm=>(hC2.own.lt y hm).1
  refine ⟨_,_,_,w2,hrun,hk2,⟨by omega,by omega⟩,fun w5 hx5 _=>⟨⟨i+1,o2,c2,rfl,by omega,(s3.step hx5).sub (by simp),(hC3.step hx5).sub (by simp)⟩,?_⟩⟩;simp only [Zm,Jq,Yf,List.getElem?_cons_zero]; omega
 have hge:=of_decide_eq_false hge;rw [show W.cpus.take i=W.cpus from List.take_of_length_le (by omega)] at hC ⊢
 refine ⟨fun vs w1=>∃(i:Nat) (tO:OA) (tC:Nat),vs=[.int .i64 (i:Int),.int .i64 W.now,.slice l1O W.cpus.length l1C,.slice tO (W.tasks.take i).length tC,.slice none 0 0]/\i<=W.tasks.length/\Sc w [x,x1,x2] w1/\Ob Pk 5 ZJ w.heap.size [x,x1,x2] w1 l1O l1C W.cpus/\Ob Yz 9 QL w.heap.size [x,x1,x2] w1 tO tC (W.tasks.take i),
  Zm W.tasks.length 0,fun wr hx _=>⟨0,none,0,by simp,Nat.zero_le _,s1.step hx,hC.step hx,⟨.inl ⟨rfl,rfl,rfl⟩,by simp [Qu]⟩⟩,?_⟩
 clear hC s1 hi hge hs2;rintro t1 l4 l5O l5L l5C l6O l6L l6C l7O l7L l7C wv6 hs6 ⟨i,tO,tC,he,hi,s1,hC,hT⟩;simp only [List.cons.injEq,Value.int.injEq,Value.slice.injEq,true_and,and_true] at he;obtain ⟨rfl,rfl,⟨rfl,rfl,rfl⟩,⟨rfl,rfl,rfl⟩,rfl,rfl,rfl⟩:=he;refine ⟨fun hlt => ?_,fun hge => ?_⟩
 ·have hlt:=of_decide_eq_true hlt;have hr:=h.t.scb s1;refine ⟨hr.ix QJ (by omega) hlt,_,_,_,_,_,_,_,_,_,hr i (by omega) hlt,fun b4 hb4=>⟨rfl,fun wr3 hx3 hs3 hcell => ?_⟩⟩;have s2:=s1.put hx3 hb4;have hC2:=hC.put hx3 hb4;have hT2:=hT.put hx3 hb4;obtain ⟨o2,c2,w2,hrun,hk2,hT3,hy2⟩:=hT2.app1 Te PY (x:=gi W.tasks (i:Int)) hs3 s2.ext.size hcell (zpv _) (by rw [List.length_take]; omega) (by decide) Zd #[false,false];rw [PS (by omega)] at hrun hT3;have s3:=s2.call hy2 fun y hm=>(hT2.own.lt y hm).1
  have hC3:=hC2.call hy2 (hC2.own.ty_ne hT2.own (by decide));refine ⟨_,_,_,w2,hrun,hk2,⟨by omega,by omega⟩,fun w5 hx5 _=>⟨⟨i+1,o2,c2,rfl,by omega,(s3.step hx5).sub (by simp),(hC3.step hx5).sub (by simp),(hT3.step hx5).sub (by simp)⟩,?_⟩⟩;simp only [Zm,Jq,Yf,List.getElem?_cons_zero]; omega
 have hge:=of_decide_eq_false hge;rw [show W.tasks.take i=W.tasks from List.take_of_length_le (by omega)] at hT ⊢
 refine ⟨fun vs w1=>∃(i:Nat) (gO:OA) (gC:Nat) (ms:Nat->MG),vs=[.int .i64 (i:Int),.int .i64 W.now,.slice l5O W.cpus.length l5C,.slice l6O W.tasks.length l6C,.slice gO (Cu W ms i).length gC]/\i<=W.groups.length/\Sc w [x,x1,x2] w1/\Ob Pk 5 ZJ w.heap.size [x,x1,x2] w1 l5O l5C W.cpus/\Ob Yz 9 QL w.heap.size [x,x1,x2] w1 l6O l6C W.tasks/\LY w.heap.size [x,x1,x2] w1 gO gC (Cu W ms i),
  Zm W.groups.length 0,fun wr hx _=>⟨0,none,0,fun _=>default,by simp [Cu],Nat.zero_le _,s1.step hx,hC.step hx,hT.step hx,LY.nil _ _ _⟩,?_⟩
 clear hC hT s1 hi hge hs6;rintro k1 l22 l23O l23L l23C l24O l24L l24C l25O l25L l25C wv15 hs15 ⟨i,gO,gC,ms,he,hi,s1,hC,hT,hG⟩;simp only [List.cons.injEq,Value.int.injEq,Value.slice.injEq,true_and,and_true] at he;obtain ⟨rfl,rfl,⟨rfl,rfl,rfl⟩,⟨rfl,rfl,rfl⟩,rfl,rfl,rfl⟩:=he;refine ⟨fun hlt => ?_,fun hge => ?_⟩
 ·have hlt:=of_decide_eq_true hlt;have hr:=h.g.ext s1.ext;have hrb:TS [x,x1,x2] wv15 m.gO W.groups m.ms:=(h.g.wide (cs:=[x,x1,x2]) fun y hm=>.inr (s1.new y hm)).ext s1.ext.of_nil;have hix:=hrb.ix (i:=(i:Int)) (by omega) hlt;obtain ⟨bl1,bl2,bl3⟩:=L2 ha (k:=(i:Int)) (by omega) (by omega);refine ⟨hix,_,_,_,_,_,_,_,_,_,_,_,_,_,_,_,_,_,_,_,_,hrb.cells (i:Int) (by omega) hlt,fun b11 hb11=>⟨hix,_,_,_,_,_,_,_,_,_,hrb.band (by omega) hlt,fun wr19 hx19 hs19 => ?_⟩⟩;have s2:=s1.put hx19 hb11;have hC2:=hC.put hx19 hb11;have hT2:=hT.put hx19 hb11;have hG2:=hG.put hx19 hb11;have hr2:=h.g.ext s2.ext;refine Calls.mono (Ls (hr2.locals (i:Int) (by omega) hlt) (hr2.dry (i:Int) (by omega) hlt) bl1 (by omega)) ?_;rintro e wv16 ⟨p,he,hB,hy⟩;have s3:=s2.call0 hy;have hC3:=hC2.call0 hy;have hT3:=hT2.call0 hy;have hG3:=hG2.call0 hy;have hBn:∀y∈Zz p,wr19.heap.size<=y:=fun y hm=>(hB.lt y hm).1
  have hBb:∀y∈Zz p,y∉[x,x1,x2]++[b11]:=fun y hm hm'=>by
   have:=hBn y hm;have:=hs19 y hm';omega
  refine ⟨_,_,_,_,_,_,_,_,_,he,Qf hy hs19,fun vs w1=>∃(c:Nat) (sO:OA) (sC:Nat),vs=[.int .i64 (c:Int),.bool (gi W.groups (i:Int)).used,.int .i64 (gi W.groups (i:Int)).parent,.string (gi W.groups (i:Int)).name,.int .i64 (gi W.groups (i:Int)).weight,.int .i64 (gi W.groups (i:Int)).cpus,.int .i64 (gi W.groups (i:Int)).period,.int .i64 (gi W.groups (i:Int)).next,.int .i64 (gi W.groups (i:Int)).sum,.int .i64 (gi W.groups (i:Int)).band.quota,.int .i64 (gi W.groups (i:Int)).band.pool,.int .i64 (gi W.groups (i:Int)).band.spent,.slice p.lO (gi W.groups (i:Int)).band.locals.length p.lC,.slice p.dO (gi W.groups (i:Int)).band.dry.length p.dC,.slice sO ((gi W.groups (i:Int)).shelves.take c).length sC]/\c<=(gi W.groups (i:Int)).shelves.length/\Sc w ([x,x1,x2]++[b11]) w1/\wr19.heap.size<=w1.heap.size/\Ob Pk 5 ZJ w.heap.size ([x,x1,x2]++[b11]) w1 l23O l23C W.cpus/\Ob Yz 9 QL w.heap.size ([x,x1,x2]++[b11]) w1 l24O l24C W.tasks/\LY w.heap.size ([x,x1,x2]++[b11]) w1 l25O l25C (Cu W ms i)/\QQ wr19.heap.size w1 (gi W.groups (i:Int)).band p/\Ob OV 5 Ye wr19.heap.size ([x,x1,x2]++[b11]) w1 sO sC ((gi W.groups (i:Int)).shelves.take c),
   Zm (gi W.groups (i:Int)).shelves.length 0,fun wr hx _=>⟨0,none,0,by simp,Nat.zero_le _,s3.step hx,Nat.le_trans hy.size hx.size,hC3.step hx,hT3.step hx,hG3.step hx,hB.ext hx hBb,⟨.inl ⟨rfl,rfl,rfl⟩,by simp [Qu]⟩⟩,?_⟩
  have hsz:w.heap.size<=wr19.heap.size:=s2.ext.size;have hGlt:=hG2.lt;clear hB s3 hC3 hT3 hG3 hC2 hT2;rintro c4 l26 l27 l28 l29 l30 l31 l32 l33 l34 l35 l36 l37O l37L l37C l38O l38L l38C l39O l39L l39C wv17 hs17 ⟨c,sO,sC,he,hc,s4,hz4,hC4,hT4,hG4,hB4,hS4⟩;simp only [List.cons.injEq,Value.int.injEq,Value.slice.injEq,Value.bool.injEq,Value.string.injEq,true_and,and_true] at he;obtain ⟨rfl,rfl,rfl,rfl,rfl,rfl,rfl,rfl,rfl,rfl,rfl,rfl,⟨rfl,rfl,rfl⟩,⟨rfl,rfl,rfl⟩,rfl,rfl,rfl⟩:=he;have hrb4:TS ([x,x1,x2]++[b11]) wv17 m.gO W.groups m.ms:=(h.g.wide (cs:=[x,x1,x2]++[b11]) fun y hm=>.inr (s4.new y hm)).ext s4.ext.of_nil;refine ⟨hix,_,_,_,hrb4.shelf (by omega) hlt,fun hlt2 => ?_,fun hge2 => ?_⟩
  ·have hlt2:=of_decide_eq_true hlt2;have hrs:=hrb4.shelves (i:Int) (by omega) hlt;refine ⟨hix,_,_,_,hrb4.shelf (by omega) hlt,hrs.ix ZK (by omega) hlt2,_,_,_,_,_,hrs c (by omega) hlt2,fun b12 hb12=>⟨rfl,fun wr21 hx21 hs21 hcell => ?_⟩⟩;have s5:=s4.put hx21 hb12;have hS5:=hS4.put hx21 hb12;have hsz21:wr19.heap.size<=wr21.heap.size:=Nat.le_trans hz4 hx21.size;obtain ⟨o2,c2,w2,hrun,hk2,hS6,hy2⟩:=hS5.app1 UO Pg (x:=gi (gi W.groups (i:Int)).shelves (c:Int)) hs21 hsz21 hcell (zo6 _) (by rw [List.length_take]; omega) (by decide) Zt #[false,false];rw [PS (by omega)] at hrun hS6;have hG5:=hG4.put hx21 hb12;have hC5:=hC4.put hx21 hb12;have hT5:=hT4.put hx21 hb12;have hB5:=hB4.ext hx21 hBb;have s6:=s5.call hy2 fun y hm=>Nat.le_trans hsz (hS5.own.lt y hm).1
   have hC6:=hC5.call hy2 (hC5.own.ty_ne hS5.own (by decide));have hT6:=hT5.call hy2 (hT5.own.ty_ne hS5.own (by decide))
   have hG6:=hG5.ext hy2 (hG5.own.row.ty_ne hS5.own (by decide)) fun j a b y hm hm'=>by
    have:=(hGlt.2 j a b y hm).2;have:=(hS5.own.lt y hm').1;omega
   have hBb5:∀y∈Zz p,y∉[x,x1,x2]++[b11]++[b12]:=fun y hm hm'=>by
    rcases List.mem_append.1 hm' with h2 | h2
    ·exact hBb y hm h2
    ·have:y=b12:=by simpa using h2
     have:=(hB4.lt y hm).2;omega
   have hB6:=hB5.ext hy2 fun y hm=>by
    rcases List.mem_append.1 hm with hm | hm
    ·exact hB5.loc.ty_ne hS5.own (by decide) y hm
    ·exact hB5.dry.ty_ne hS5.own (by decide) y hm
   refine ⟨_,_,_,w2,hrun,hk2,⟨by omega,by omega⟩,fun w5 hx5 _=>⟨⟨c+1,o2,c2,rfl,by omega,(s6.step hx5).sub (by simp),?_,(hC6.step hx5).sub (by simp),(hT6.step hx5).sub (by simp),(hG6.step hx5).sub (by simp),hB6.ext hx5 hBb5,(hS6.step hx5).sub (by simp)⟩,?_⟩⟩
   ·have:=hy2.size;have:=hx5.size;omega
   ·simp only [Zm,Jq,Yf,List.getElem?_cons_zero]; omega
  ·have hge2:=of_decide_eq_false hge2;rw [show (gi W.groups (i:Int)).shelves.take c=(gi W.groups (i:Int)).shelves from List.take_of_length_le (by omega)] at hS4 ⊢;intro b13 hb13 wr23 hx23 hs23 hcell;have s5:=s4.put hx23 hb13;have hG5:=hG4.put hx23 hb13;have hC5:=hC4.put hx23 hb13;have hT5:=hT4.put hx23 hb13;have hB5:=hB4.ext hx23 hBb;have hS5:=hS4.put hx23 hb13
   have hlt17:∀y∈Qp ⟨p.lO,p.lC,p.dO,p.dC,l39O,l39C⟩,wr19.heap.size<=y/\y<wv17.heap.size:=fun y hm=>by
    simp only [Qp,List.mem_append] at hm;rcases hm with (hm | hm) | hm
    ·exact hB4.loc.lt y hm
    ·exact hB4.dry.lt y hm
    ·exact hS4.own.lt y hm
   obtain ⟨o2,c2,w2,hrun,hk2,hG6,hy2⟩:=hG5.app1 (p:=(gi W.groups (i:Int),⟨p.lO,p.lC,p.dO,p.dC,l39O,l39C⟩)) hs23 s5.ext.size ⟨(hB5.mono hsz).loc,(hB5.mono hsz).dry,hS5.own.mono hsz⟩ (fun y hm hm'=>by
     have h1:=hlt17 y hm;rcases List.mem_append.1 hm' with h2 | h2
     ·have:=hs19 y h2; omega
     ·have:y=b13:=by simpa using h2
      omega) (fun j a b y hm hm'=>by
     have:=(hGlt.2 j a b y hm).2;have:=(hlt17 y hm').1;omega) hcell (zpu _ _) (by rw [zaw]; omega) QP #[false,false]
   rw [<-zgm] at hrun hG6;have s6:=s5.call hy2 fun y hm=>(hG5.own.row.lt y hm).1
   have hC6:=hC5.call hy2 (hC5.own.ty_ne hG5.own.row (by decide));have hT6:=hT5.call hy2 (hT5.own.ty_ne hG5.own.row (by decide));refine ⟨_,_,_,w2,hrun,hk2,⟨by omega,by omega⟩,fun w5 hx5 _=>⟨⟨i+1,o2,c2,_,rfl,by omega,(s6.step hx5).sub (by simp),(hC6.step hx5).sub (by simp),(hT6.step hx5).sub (by simp),(hG6.step hx5).sub (by simp)⟩,?_⟩⟩;simp only [Zm,Jq,Yf,List.getElem?_cons_zero]; omega
 ·have hge:=of_decide_eq_false hge;have hi8:i=W.groups.length:=by omega
  subst hi8;refine fun w9 hx9=>⟨⟨l23O,l23C,l24O,l24C,l25O,l25C,ms⟩,?_,⟨(hC.step hx9).own,(hT.step hx9).own,(hG.step hx9).own,hgl⟩,(s1.step hx9).ext⟩
  rw [zaw];rfl
theorem QW (h:Xo [] w W m) (hl:X4 W) :
  Cz QC #[.agg (Qa W m).toArray] w fun e w'=>(QG W=false/\e = .returned (.tuple #[.agg (Qa OP zlv).toArray,.int .i64 1])/\Q0 [] w w')\/(QG W=true/\∃m',e = .returned (.tuple #[.agg (Qa W m').toArray,.int .i64 (if QB W=true then 0 else 10)])/\Y8 8 w.heap.size w' W m'/\Q0 [] w w'):=by
 refine (Dl W.now m.cO W.cpus.length m.cC m.tO W.tasks.length m.tC m.gO W.groups.length m.gC (R:=fun v w'=>(QG W=false/\v = .tuple #[.agg (Qa OP zlv).toArray,.int .i64 1]/\Q0 [] w w')\/(QG W=true/\∃m',v = .tuple #[.agg (Qa W m').toArray,.int .i64 (if QB W=true then 0 else 10)]/\Y8 8 w.heap.size w' W m'/\Q0 [] w w')) ?_).mono fun e w' ⟨v,he,h3⟩=>by
  rw [he];rcases h3 with ⟨a,hv,b⟩ | ⟨a,m',hv,b⟩
  ·exact .inl ⟨a,by rw [hv],b⟩
  ·exact .inr ⟨a,m',by rw [hv],b⟩
 intro x hx x1 hx1;refine ⟨_,XY h hl.c hl.t hl.g hl.f,fun g wr hx=>.inl ⟨by simpa using g,rfl,hx⟩,fun g wr1 hx2 hs1 => ?_⟩;have hW:QG W=true:=by simpa using g
 have wp:=Qn.1 hW;refine Calls.mono (VZ (h.ext hx2) wp.a) ?_;rintro e wv ⟨m',he,hM,hy⟩
 have hnb:∀y∈QF 8 m',y∉[x,x1]:=fun y hy hm=>by
  have:=(hM.lt y hy).1;have:=hs1 y hm;omega
 have hro:=Ox (hM.rd hnb) hl;have hfin:∀w2,Q0 [x,x1] wv w2->Y8 8 w.heap.size w2 W m'/\Q0 [] w w2:=fun w2 h2=>⟨(hM.mono hx2.size).ext h2 hnb,(hx2.trans hy).fresh h2 fun y hm=>.inl (Yd hx hx1 y hm)⟩
 refine ⟨_,_,_,_,_,_,_,_,_,_,he,Qf hy hs1,_,hro,fun g2 w2 h2=>.inr ⟨hW,m',?_,hfin w2 h2⟩,fun g2 w2 h2=>.inr ⟨hW,m',?_,hfin w2 h2⟩⟩
 ·have:¬QB W=true:=fun hr=>by
   rw [show Vu (XG W/\MF W)=true from Qn.2 ⟨wp,Qn.1 hr⟩] at g2;cases g2
  rw [if_neg this]; rfl
 ·have hd:Vu (XG W/\MF W)=true:=by simpa using g2
  have:QB W=true:=Qn.2 (Qn.1 hd).2;rw [if_pos this]; rfl
end
structure Wk (n:Nat) (bs:List Nat) (w0 w:World) (W:Q7) (m:MW):Prop where
 s:Sc w0 bs w
 o:OW n w0.heap.size bs w W m
section
variable {n:Nat} {bs cs:List Nat} {w0 w w':World} {W W':Q7} {m m':MW} {b:Nat}
theorem Wk.step (h:Wk n bs w0 w W m) (hx:Q0 bs w w'):Wk n bs w0 w' W m:=⟨h.s.step hx,h.o.step hx⟩
theorem Wk.call0 (h:Wk n bs w0 w W m) (hx:Q0 [] w w'):Wk n bs w0 w' W m:=⟨h.s.call0 hx,h.o.call0 hx⟩
theorem Wk.add (h:Wk n bs w0 w W m) (hb:w.heap.size<=b):Wk n (bs++[b]) w0 w W m:=⟨h.s.add hb,h.o.add hb⟩
theorem Wk.sub (h:Wk n bs w0 w W m) (hs:∀x∈cs,x∈bs):Wk n cs w0 w W m:=⟨h.s.sub hs,h.o.sub hs⟩
theorem Wk.rd (h:Wk n bs w0 w W m):Xo bs w W m:=h.o.rd
theorem Wk.own (h:Wk n bs w0 w W m):Y8 n w0.heap.size w W m:=h.o.own
theorem Wk.nb (h:Wk n bs w0 w W m):∀x∈QF n m,x∉bs:=h.o.nb
theorem Wk.base (h:Wk n bs w0 w W m):w0.heap.size<=w.heap.size:=h.s.ext.size
theorem Wk.deed (h:Wk n bs w0 w W m) (k:Mv n w0.heap.size [] w m w' W' m') (hs:∀x∈bs,x<w.heap.size):Wk n bs w0 w' W' m':=
 ⟨h.s.call k.ext fun x hx=>(h.o.own.lt x hx).1,⟨k.own,fun x hx hm=>by
  rcases k.sub x hx with h1 | h1
  ·exact h.o.nb x h1 hm
  ·have:=hs x hm;omega⟩⟩
theorem Wk.kept (h:Wk n bs w0 w W m) (k:Mv n w0.heap.size [] w m w' W' m') (hs:∀x∈bs,x<w.heap.size):Q9 bs w w':=fun x hm=>k.ext.block x (hs x hm) fun hm'=>h.o.nb x hm' hm
theorem Wk.sto (h:Wk n bs w0 w W m) (k:Y8 n w0.heap.size w' W' m) (hx:Q0 (QF n m) w w'):Wk n bs w0 w' W' m:=⟨h.s.call hx fun x hx=>(h.o.own.lt x hx).1,⟨k,h.o.nb⟩⟩
theorem Wk.fin (h:Wk n bs w0 w W m):Y8 n w0.heap.size w W m/\Q0 [] w0 w:=⟨h.o.own,h.s.ext⟩
end
def Qy (r:Q7×Int) (w:World) (v:Value) (w':World):Prop:=∃n m',v = .tuple #[.agg (Qa r.1 m').toArray,.int .i64 r.2]/\Y8 n w.heap.size w' r.1 m'/\Q0 [] w w'
theorem Y8.zero (base:Nat) (w:World):Y8 0 base w OP zlv:=⟨.inl ⟨rfl,rfl,rfl⟩,.inl ⟨rfl,rfl,rfl⟩,⟨.inl ⟨rfl,rfl,rfl⟩,fun i a b=>by simp [zgn,OP] at b; omega,fun i j a b=>by simp [zgn,OP] at b; omega⟩,rfl⟩
section
variable {W W':Q7} {m:MW} {w:World} {bar:Int}
theorem Qy.bad {w':World} (hW:QG W=false) (hx:Q0 [] w w'):Qy (YZ W bar W') w (.tuple #[.agg (Qa OP zlv).toArray,.int .i64 1]) w':=by
 rw [zkd hW];exact ⟨0,zlv,rfl,Y8.zero _ _,hx⟩
theorem Qy.no {n:Nat} {bs:List Nat} {w':World} {m':MW} (hW:QG W=true) (hb:bar≠0) (hk:Wk n bs w w' W m') {c:Int} (hc:bar=c):Qy (YZ W bar W') w (.tuple #[.agg (Qa W m').toArray,.int .i64 c]) w':=by
 rw [zke hW hb,hc];exact ⟨n,m',rfl,hk.fin⟩
theorem Qy.ok {n:Nat} {bs:List Nat} {w':World} {m':MW} (hW:QG W=true) (hb:bar=0) (hk:Wk n bs w w' W' m'):Qy (YZ W bar W') w (.tuple #[.agg (Qa W' m').toArray,.int .i64 0]) w':=by
 rw [zm6 hW hb];exact ⟨n,m',rfl,hk.fin⟩
theorem Wk.begin {x x1:Nat} {wr wv:World} {m':MW} (hx:w.heap.size<=x) (hx1:w.heap.size<=x1) (hx2:Q0 [] w wr) (hs:∀y∈[x,x1],y<wr.heap.size) (hM:Y8 8 wr.heap.size wv W m') (hy:Q0 [] wr wv):Wk 8 [x,x1] w wv W m':=
 ⟨⟨hx2.trans hy,Yd hx hx1⟩,(OW.of hM hs).mono hx2.size⟩
theorem GB {t:Int} (h:Xo [] w W m) (hl:X4 W) :
  Cz Um #[.agg (Qa W m).toArray,.int .i64 t] w fun e w'=>∃v,e = .returned v/\Qy (YZ W (UM W t) (zbw W t)) w v w':=by
 refine Gr W.now m.cO W.cpus.length m.cC m.tO W.tasks.length m.tC m.gO W.groups.length m.gC t (R:=fun v w'=>Qy (YZ W (UM W t) (zbw W t)) w v w') ?_;intro x hx x1 hx1 wr hx2 hs2;refine Calls.mono (QW (h.ext hx2) hl) ?_;rintro e wv (⟨hW,he,hy⟩ | ⟨hW,m',he,hM,hy⟩)
 ·exact ⟨_,_,_,_,_,_,_,_,_,_,_,he,Qf hy hs2,fun _ wr1 hx3=>Qy.bad hW ((hx2.trans hy).fresh hx3 fun y hm=>.inl (Yd hx hx1 y hm)),fun g=>by simp at g⟩
 have hK:=Wk.begin hx hx1 hx2 hs2 hM hy;have hr:=hK.rd;refine ⟨_,_,_,_,_,_,_,_,_,_,_,he,Qf hy hs2,fun g=>by split at g <;> simp at g,fun _=>⟨_,XC hr hl.t,fun g wr2 hx3 => ?_,fun g => ?_⟩⟩
 ·have g:ZG W t=false:=by simpa using g
  have hb:UM W t=2:=by unfold UM; rw [if_pos g]
  exact Qy.no hW (by rw [hb]; decide) (hK.step hx3) hb
 have g:ZG W t=true:=by simpa using g
 obtain ⟨t0,t1,tn⟩:=Yl g;have hix:=hr.t.ix QJ t0 t1;refine ⟨hix,_,hr.t.f t0 t1 (j:=0) rfl,fun g2 wr3 hx3 => ?_,fun g2=>⟨fun g3 wr4 hx3 => ?_,fun g3 => ?_⟩⟩
 ·have g2:(Q8 W t).state≠1:=by simpa [Q8] using g2
  have hb:UM W t=6:=by unfold UM; rw [if_neg (by rw [g]; decide),if_pos g2]
  exact Qy.no hW (by rw [hb]; decide) (hK.step hx3) hb
 ·have g2:¬(Q8 W t).state≠1:=by simpa [Q8] using g2
  have hr0:¬QB W=true:=fun hr=>by rw [if_pos hr] at g3; simp at g3
  have hb:UM W t=10:=by unfold UM; rw [if_neg (by rw [g]; decide),if_neg g2,if_pos (by simpa using hr0)]
  rw [if_neg hr0];exact Qy.no hW (by rw [hb]; decide) (hK.step hx3) hb
 ·have g2:¬(Q8 W t).state≠1:=by simpa [Q8] using g2
  have hr0:QB W=true:=Decidable.byContradiction fun hr=>by rw [if_neg hr] at g3; simp at g3
  have hb:UM W t=0:=by unfold UM; rw [if_neg (by rw [g]; decide),if_neg g2,if_neg (by rw [hr0]; decide)]
  obtain ⟨_,_,sw,sw1⟩:=CV hW hb;have hset:Y8 8 w.heap.size _ (setTk W t { Q8 W t with state:=2 }) m':=hK.own.stoT t0 t1 (j:=0) (vs:=[.int .i64 2]) (x:={ Q8 W t with state:=2 }) rfl (by simp);refine ⟨hix,CS hK.own hK.nb t0 t1 (by decide),fun wr5 hx5 hs5 => ?_⟩;have hK5:=(hK.sto hset MD).step hx5;have hcall:=Qm hK5.own sw1 (by decide) (by decide) hK5.base;have e5:Qa (setTk W t { Q8 W t with state:=2 }) m'=Qa W m':=by simp [Qa,setTk]
  rw [e5] at hcall;refine Calls.mono hcall ?_;rintro e1 wv1 ⟨m1,he1,hy1⟩;exact ⟨_,_,_,_,_,_,_,_,_,_,he1,hK5.kept hy1 hs5,fun wr6 hx6=>Qy.ok hW hb ((hK5.deed hy1 hs5).step hx6)⟩
end
theorem za7 {α:Type} [Inhabited α] {l:List α} {i:Int} (h0:0<=i) (h1:i<(l.length:Int)):l.set i.toNat (gi l i)=l:=by
 obtain ⟨k,rfl⟩:=Int.eq_ofNat_of_zero_le h0;rw [Ju (by omega),Int.toNat_natCast,List.set_getElem_self]
theorem zc2 {W:Q7} {k:Int} (h0:0<=k) (h1:k<(W.groups.length:Int)):setBd W k (gi W.groups k).band=W:=by
 show setGr W k (gi W.groups k)=W;unfold setGr;rw [za7 h0 h1]
section
variable {base:Nat} {W:Q7} {m:MW} {w:World} {k:Int} {b:XS}
end
def hB (v:Int):Bool:=decide (v<=Ql)
section
variable {W:Q7} {m:MW} {w:World} {bs:List Nat} {p:OA}
end
structure zm2 (base pb:Nat) (ex:List Nat) (w:World) (m:MW) (w':World) (W':Q7) (m':MW):Prop where
 own:Y8 8 base w' W' m'
 pt:w'.heap[pb]? = some (.cells (Qa W' m').toArray Q3 (0,0))
 ext:Q0 (ex++(pb::QF 8 m)) w w'
 sub:∀x∈QF 8 m',x∈QF 8 m\/w.heap.size<=x
section
variable {W W':Q7} {m:MW} {w:World} {bar:Int}
end
def E5:Oi:=⟨0,0,0,0,0,0,0,0,0⟩
def QK (W:Q7) (t:Int):Q7:=if (gi W.cpus (Q8 W t).cpu).cur=t then endW W (Q8 W t).cpu else W
noncomputable def VS (W:Q7) (t:Int):Int:=if ZG W t=false then 2 else if QB W=false then 10 else 0
def F3 (W:Q7) (t:Int):Q7:=Qg (setTk (QK W t) t E5)
theorem zad {K:Int} {W:Q7} (h:SW K W) {t:Int} (t0:0<=t) (t1:t<12) (n:(Q8 W t).state≠0):SW K (QK W t):=by
 unfold QK;split
 ·exact h.endW (h.t t t0 t1 n).2.1 (h.t t t0 t1 n).2.2
 ·exact h
theorem C0 {W:Q7} {t:Int} (hW:QG W=true) (hb:VS W t=0):ZG W t=true/\QB W=true/\SW Ql W/\SW Ql (setTk W t E5)/\SW Ql (setTk (QK W t) t E5):=by
 have wp:=Qn.1 hW;unfold VS at hb
 split at hb
 ·cases hb
 ·rename_i h1
  split at hb
  ·cases hb
  ·rename_i h3;have h1:ZG W t=true:=by simpa using h1
   have h3:QB W=true:=by simpa using h3
   have sw:=TI wp (Qn.1 h3);obtain ⟨t0,t1,n⟩:=Yl h1;have hl:=wp.a.t;exact ⟨h1,h3,sw,sw.setTk t0 (by omega) (fun h=>absurd rfl h) (by decide) (by decide),(zad sw t0 (by omega) n).setTk t0 (by omega) (fun h=>absurd rfl h) (by decide) (by decide)⟩
section
variable {W:Q7} {m:MW} {w:World} {bar:Int}
set_option maxHeartbeats 1000000 in
theorem DA {t:Int} (h:Xo [] w W m) (hl:X4 W) :
  Cz US #[.agg (Qa W m).toArray,.int .i64 t] w fun e w'=>∃v,e = .returned v/\Qy (YZ W (VS W t) (F3 W t)) w v w':=by
 refine Dd W.now m.cO W.cpus.length m.cC m.tO W.tasks.length m.tC m.gO W.groups.length m.gC t (R:=fun v w'=>Qy (YZ W (VS W t) (F3 W t)) w v w') ?_;intro x hx x1 hx1 wr hx2 hs2;refine Calls.mono (QW (h.ext hx2) hl) ?_;rintro e wv (⟨hW,he,hy⟩ | ⟨hW,m',he,hM,hy⟩)
 ·exact ⟨_,_,_,_,_,_,_,_,_,_,_,he,Qf hy hs2,fun _ wr1 hx3=>Qy.bad hW ((hx2.trans hy).fresh hx3 fun y hm=>.inl (Yd hx hx1 y hm)),fun g=>by simp at g⟩
 have hK:=Wk.begin hx hx1 hx2 hs2 hM hy;have hr:=hK.rd;refine ⟨_,_,_,_,_,_,_,_,_,_,_,he,Qf hy hs2,fun g=>by split at g <;> simp at g,fun _=>⟨_,XC hr hl.t,fun g wr2 hx3 => ?_,fun g => ?_⟩⟩
 ·have g:ZG W t=false:=by simpa using g
  have hb:VS W t=2:=by unfold VS; rw [if_pos g]
  exact Qy.no hW (by rw [hb]; decide) (hK.step hx3) hb
 have g:ZG W t=true:=by simpa using g
 obtain ⟨t0,t1,tn⟩:=Yl g;have hix:=hr.t.ix QJ t0 t1;refine ⟨fun g3 wr4 hx3 => ?_,fun g3 => ?_⟩
 ·have hr0:¬QB W=true:=fun hr=>by rw [if_pos hr] at g3; simp at g3
  have hb:VS W t=10:=by unfold VS; rw [if_neg (by rw [g]; decide),if_pos (by simpa using hr0)]
  rw [if_neg hr0];exact Qy.no hW (by rw [hb]; decide) (hK.step hx3) hb
 have hr0:QB W=true:=Decidable.byContradiction fun hr=>by rw [if_neg hr] at g3; simp at g3
 have hb:VS W t=0:=by unfold VS; rw [if_neg (by rw [g]; decide),if_neg (by rw [hr0]; decide)]
 obtain ⟨_,_,sw,sw1,sw2⟩:=C0 hW hb;obtain ⟨_,c0,c1⟩:=sw.t t t0 (by have:=sw.a.t; omega) tn;have hset:Y8 8 w.heap.size (sto wv m'.tO (Int.toNat t*9) (Yz E5)) (setTk W t E5) m':=hK.own.stoT t0 t1 (j:=0) (vs:=Yz E5) (x:=E5) rfl (by decide);have hKs:=hK.sto hset MD;have e5:∀mm,Qa (setTk W t E5) mm=Qa W mm:=fun mm=>by simp [Qa,setTk]
 refine ⟨hix,_,hr.t.f t0 t1 (j:=2) rfl,hix,CS hK.own hK.nb t0 t1 (j:=0) (by decide),hr.c.ix ZZ c0 c1,_,hKs.rd.c.f c0 c1 (j:=1) rfl,fun g4 wr5 hx5 hs5 => ?_,fun g4 wr5 hx5 hs5 => ?_⟩
 ·have g4:(gi (setTk W t E5).cpus (Q8 W t).cpu).cur=t:=by simpa using g4
  have hE:F3 W t=Qg (endW (setTk W t E5) (Q8 W t).cpu):=by unfold F3 QK; rw [if_pos (show (gi W.cpus (Q8 W t).cpu).cur=t from g4)]; rfl
  rw [hE];have hK5:=hKs.step hx5;have hcall:=Zg hK5.own c0 c1;rw [e5] at hcall;refine Calls.mono hcall ?_;rintro e1 wv1 ⟨he1,hy1⟩;refine ⟨_,_,_,_,_,_,_,_,_,_,he1,hK5.kept hy1 hs5,fun wr6 hx6 hs6 => ?_⟩;have hK6:=(hK5.deed hy1 hs5).step hx6;refine Calls.mono (Qm hK6.own (sw1.endW c0 c1) (by decide) (by decide) hK6.base) ?_;rintro e2 wv2 ⟨m1,he2,hy2⟩;exact ⟨_,_,_,_,_,_,_,_,_,_,he2,hK6.kept hy2 hs6,fun wr7 hx7=>Qy.ok hW hb ((hK6.deed hy2 hs6).step hx7)⟩
 ·have g4:¬(gi (setTk W t E5).cpus (Q8 W t).cpu).cur=t:=by simpa using g4
  have hE:F3 W t=Qg (setTk W t E5):=by unfold F3 QK; rw [if_neg (show ¬(gi W.cpus (Q8 W t).cpu).cur=t from g4)]
  rw [hE];have hK5:=hKs.step hx5;have hcall:=Qm hK5.own sw1 (by decide) (by decide) hK5.base;rw [e5] at hcall;refine Calls.mono hcall ?_;rintro e2 wv2 ⟨m1,he2,hy2⟩;exact ⟨_,_,_,_,_,_,_,_,_,_,he2,hK5.kept hy2 hs5,fun wr7 hx7=>Qy.ok hW hb ((hK5.deed hy2 hs5).step hx7)⟩
end
abbrev OE (W:Q7) (t n:Int):Int:=(Qc W (Q8 W t).group (Q8 W t).cpu).floor+YH ((Q8 W t).v - (Qc W (Q8 W t).group (Q8 W t).cpu).floor) (Qd n)
def Xc (W:Q7) (t n:Int):Oi:={ Q8 W t with nice:=n,v:=if (Q8 W t).state=1 then OE W t n else (Q8 W t).v }
noncomputable def TA (W:Q7) (t n:Int):Int:=if Qd n=0 then 1 else VS W t
def MU (W:Q7) (t n:Int):Q7:=Qg (if (Q8 W t).state=1 then QK (setTk W t (Xc W t n)) t else setTk W t (Xc W t n))
theorem zem {W:Q7} {t n:Int} (h:(Q8 W t).state=1):Xc W t n={ Q8 W t with nice:=n,v:=OE W t n }:=by unfold Xc; rw [if_pos h]
theorem zel {W:Q7} {t n:Int} (h:¬(Q8 W t).state=1):Xc W t n={ Q8 W t with nice:=n }:=by unfold Xc; rw [if_neg h]
theorem Hi {W:Q7} {t:Int} {x:Oi} (t0:0<=t) (t1:t<(W.tasks.length:Int)):Q8 (setTk W t x) t=x:=by
 show gi (W.tasks.set t.toNat x) t=x;rw [Qt _ _ t0 t1 t0,if_pos rfl]
theorem set_set {W:Q7} {t:Int} {x y:Oi}:setTk (setTk W t x) t y=setTk W t y:=by simp [setTk]
abbrev K1:Int:=Ql+Qj
structure zop (W:Q7) (t n:Int):Prop where
 th:ZG W t=true
 room:QB W=true
 sw:SW Ql W
 f:(Q8 W t).state=1->0<=(Qc W (Q8 W t).group (Q8 W t).cpu).floor/\(Qc W (Q8 W t).group (Q8 W t).cpu).floor<=Ql/\0<=OE W t n/\OE W t n<=K1
 s1:SW K1 (setTk W t (Xc W t n))
 s2:SW K1 (QK (setTk W t (Xc W t n)) t)
theorem zen {W:Q7} {t n:Int} (hW:QG W=true) (hb:TA W t n=0):zop W t n:=by
 have hw:¬Qd n=0:=fun h=>by unfold TA at hb; rw [if_pos h] at hb; cases hb
 have hb:VS W t=0:=by unfold TA at hb; rwa [if_neg hw] at hb
 obtain ⟨h1,h3,sw,_,_⟩:=C0 hW hb;obtain ⟨t0,t1,tn⟩:=Yl h1;have hl:=sw.a.t;have hg:=sw.t t t0 (by omega) tn;have hv:=sw.tv t t0 (by omega);have hf:=sw.s _ _ hg.1 hg.2.1 hg.2.2;have lc:=ZF ((Q8 W t).v - (Qc W (Q8 W t).group (Q8 W t).cpu).floor) (Qd n);have lm:=ZD (Qd n);have f:0<=OE W t n/\OE W t n<=K1:=by unfold OE; simp only [K1,Qj]; omega
 have f1:0<=(Xc W t n).v/\(Xc W t n).v<=K1:=by
  unfold Xc
  dsimp only
  split
  ·exact f
  ·simp only [K1,Qj]; omega
 have s1:SW K1 (setTk W t (Xc W t n)):=(sw.mono (by decide)).setTk t0 (by omega) (fun _=>hg) f1.1 f1.2;exact ⟨h1,h3,sw,fun _=>⟨hf.1,hf.2.1,f⟩,s1,zad s1 t0 (by omega) (by rw [Hi t0 t1]; exact tn)⟩
section
variable {W:Q7} {m:MW} {w:World} {bar:Int}
theorem MS {bs:List Nat} {t:Int} (h:Xo bs w W m) (t0:0<=t) (t1:t<(W.tasks.length:Int)) (g0:0<=(Q8 W t).group) (g1:(Q8 W t).group<(W.groups.length:Int)) (c0:0<=(Q8 W t).cpu) (c1:(Q8 W t).cpu<((gi W.groups (Q8 W t).group).shelves.length:Int)) (hr:Qo .i64 ((Q8 W t).v - (Qc W (Q8 W t).group (Q8 W t).cpu).floor)) :
  PX bs Uo #[.agg (Qa W m).toArray,.int .i64 t] w (.int .i64 (YH ((Q8 W t).v - (Qc W (Q8 W t).group (Q8 W t).cpu).floor) (Qd (Q8 W t).nice))):=
 Nk W.now m.cO W.cpus.length m.cC m.tO W.tasks.length m.tC m.gO W.groups.length m.gC t fun wr hx=>by
  have h:=(h.ext hx).less (cs:=[]) (by simp);intro b hb;exact ⟨h.t.ix QJ t0 t1,_,_,_,_,_,_,_,_,_,h.t t t0 t1,fun b1 hb1=>⟨h.g.ix g0 g1,_,_,_,h.g.shelf g0 g1,(h.g.shelves _ g0 g1).ix ZK c0 c1,_,(h.g.shelves _ g0 g1).f c0 c1 (j:=0) rfl,hr,_,Zq,_,Od,rfl⟩⟩
set_option maxHeartbeats 1000000 in
theorem DC {t n:Int} (h:Xo [] w W m) (hl:X4 W) :
  Cz UU #[.agg (Qa W m).toArray,.int .i64 t,.int .i64 n] w fun e w'=>∃v,e = .returned v/\Qy (YZ W (TA W t n) (MU W t n)) w v w':=by
 refine Dg W.now m.cO W.cpus.length m.cC m.tO W.tasks.length m.tC m.gO W.groups.length m.gC t n (R:=fun v w'=>Qy (YZ W (TA W t n) (MU W t n)) w v w') ?_;intro x hx x1 hx1 wr hx2 hs2;refine Calls.mono (QW (h.ext hx2) hl) ?_;rintro e wv (⟨hW,he,hy⟩ | ⟨hW,m',he,hM,hy⟩)
 ·exact ⟨_,_,_,_,_,_,_,_,_,_,_,he,Qf hy hs2,0,fun g=>by simp at g,fun _ wr1 hx3=>Qy.bad hW ((hx2.trans hy).fresh hx3 fun y hm=>.inl (Yd hx hx1 y hm)),fun g=>by simp at g⟩
 have hK:=Wk.begin hx hx1 hx2 hs2 hM hy;have hr:=hK.rd;have hc1:((if QB W=true then 0 else 10:Int)==1)=false:=by split <;> rfl
 refine ⟨_,_,_,_,_,_,_,_,_,_,_,he,Qf hy hs2,_,fun _=>Zq (n:=n),fun g wr1 hx3 => ?_,fun g0=>⟨_,XC hr hl.t,fun g wr2 hx3 => ?_,fun g => ?_⟩⟩
 ·rw [hc1] at g;have g:Qd n=0:=by simpa using g
  have hb:TA W t n=1:=by unfold TA; rw [if_pos g]
  exact Qy.no hW (by rw [hb]; decide) (hK.step hx3) hb
 ·rw [hc1] at g0;have g0:¬Qd n=0:=by simpa using g0
  have g:ZG W t=false:=by simpa using g
  have hb:TA W t n=2:=by unfold TA VS; rw [if_neg g0,if_pos g]
  exact Qy.no hW (by rw [hb]; decide) (hK.step hx3) hb
 rw [hc1] at g0;have gw:¬Qd n=0:=by simpa using g0
 have g:ZG W t=true:=by simpa using g
 obtain ⟨t0,t1,tn⟩:=Yl g;have hix:=hr.t.ix QJ t0 t1;refine ⟨fun g3 wr4 hx3 => ?_,fun g3 => ?_⟩
 ·have hr0:¬QB W=true:=fun hr=>by rw [if_pos hr] at g3; simp at g3
  have hb:TA W t n=10:=by unfold TA VS; rw [if_neg gw,if_neg (by rw [g]; decide),if_pos (by simpa using hr0)]
  rw [if_neg hr0];exact Qy.no hW (by rw [hb]; decide) (hK.step hx3) hb
 have hr0:QB W=true:=Decidable.byContradiction fun hr=>by rw [if_neg hr] at g3; simp at g3
 have hb:TA W t n=0:=by unfold TA VS; rw [if_neg gw,if_neg (by rw [g]; decide),if_neg (by rw [hr0]; decide)]
 have hN:=zen hW hb;have sw:=hN.sw;have htl:=sw.a.t;obtain ⟨hu,c0,c1⟩:=sw.t t t0 (by omega) tn;obtain ⟨q0,q1,_⟩:=Q4.1 hu;have hsl:=sw.a.sl hu;have hK2:Wk 8 [x,x1] w (sto wv m'.tO (Int.toNat t*9) (Yz { Q8 W t with nice:=n })) (setTk W t { Q8 W t with nice:=n }) m':=hK.sto (hK.own.stoT t0 t1 (j:=0) (vs:=Yz { Q8 W t with nice:=n }) (x:={ Q8 W t with nice:=n }) rfl (by show 0+9<=9; decide)) MD;have e5:∀x mm,Qa (setTk W t x) mm=Qa W mm:=fun x mm=>by simp [Qa,setTk]
 refine ⟨hix,_,_,_,_,_,_,_,_,_,hr.t t t0 t1,fun b2 hb2=>⟨hix,CS hK.own hK.nb t0 t1 (j:=0) (by decide),fun g4 => ?_,fun g4 wr9 hx9 hs9 => ?_⟩⟩
 ·have g4:(Q8 W t).state=1:=by simpa [Q8] using g4
  have hT:=zem (n:=n) g4;obtain ⟨f0,f1,v0,v1⟩:=hN.f g4;have hv:=sw.tv t t0 (by omega);have hh:Ql=50000000000000000:=rfl;have hk:K1=50000034686091440:=rfl;have hr2:=hK2.rd;have etk:Q8 (setTk W t { Q8 W t with nice:=n }) t={ Q8 W t with nice:=n }:=Hi t0 t1;have t1':t<((setTk W t { Q8 W t with nice:=n }).tasks.length:Int):=by simpa [setTk] using t1
  have hlag:=MS (t:=t) hr2 t0 t1' (by rw [etk]; exact q0) (by rw [etk]; exact q1) (by rw [etk]; exact c0) (by rw [etk]; show (Q8 W t).cpu<(((gi W.groups (Q8 W t).group).shelves.length:Nat):Int); omega) (by rw [etk]; exact ⟨by show _<=(Q8 W t).v - (Qc W (Q8 W t).group (Q8 W t).cpu).floor; omega,by show (Q8 W t).v - (Qc W (Q8 W t).group (Q8 W t).cpu).floor<=_; omega⟩);rw [etk,e5] at hlag;have lc:=ZF ((Q8 W t).v - (Qc W (Q8 W t).group (Q8 W t).cpu).floor) (Qd n);have lm:=ZD (Qd n);have hset:Y8 8 w.heap.size (sto (sto wv m'.tO (Int.toNat t*9) (Yz { Q8 W t with nice:=n })) m'.tO (Int.toNat t*9) (Yz { Q8 W t with nice:=n,v:=OE W t n })) (setTk (setTk W t { Q8 W t with nice:=n }) t { Q8 W t with nice:=n,v:=OE W t n }) m':=hK2.own.stoT t0 t1' (j:=0) (vs:=Yz { Q8 W t with nice:=n,v:=OE W t n }) (x:={ Q8 W t with nice:=n,v:=OE W t n }) (by rw [show gi (setTk W t { Q8 W t with nice:=n }).tasks t={ Q8 W t with nice:=n } from etk]; rfl) (by show 0+9<=9; decide);rw [set_set,<-hT] at hset;have hK3:Wk 8 ([x,x1]++[b2]) w _ (setTk W t (Xc W t n)) m':=(hK.add hb2).sto hset (MD.trans MD)
  have hst:∀vs0 vs:List Value,Yz { Q8 W t with nice:=n }=vs0->Yz (Xc W t n)=vs->Wk 8 ([x,x1]++[b2]) w (sto (sto wv m'.tO (Int.toNat t*9) vs0) m'.tO (Int.toNat t*9) vs) (setTk W t (Xc W t n)) m':=fun vs0 vs h0 h1=>by
   subst h0;subst h1;rw [hT] at hK3 ⊢;exact hK3
  have sub3:∀y∈[x,x1],y∈[x,x1]++[b2]:=fun y hy=>List.mem_append_left _ hy
  have hK3':Wk 8 [x,x1] w _ (setTk W t (Xc W t n)) m':=hK3.sub sub3;have hflo:Q2 [x,x1] (sto wv m'.tO (Int.toNat t*9) (Yz { Q8 W t with nice:=n })) (m'.ms (Q8 W t).group.toNat).sO (Int.toNat (Q8 W t).cpu*5+0) [.int .i64 (Qc W (Q8 W t).group (Q8 W t).cpu).floor]:=(hr2.g.shelves _ q0 q1).f c0 (by show (Q8 W t).cpu<(((gi W.groups (Q8 W t).group).shelves.length:Nat):Int); omega) (j:=0) rfl;have ecp:(Q8 (setTk W t (Xc W t n)) t).cpu=(Q8 W t).cpu:=by rw [Hi t0 t1]; rfl
  refine ⟨hr.g.ix q0 q1,_,_,_,hr2.g.shelf q0 q1,(hr2.g.shelves _ q0 q1).ix ZK c0 (by show (Q8 W t).cpu<(((gi W.groups (Q8 W t).group).shelves.length:Nat):Int); omega),(Qc W (Q8 W t).group (Q8 W t).cpu).floor,hflo,YH ((Q8 W t).v - (Qc W (Q8 W t).group (Q8 W t).cpu).floor) (Qd n),hlag,⟨?_,?_⟩,hix,CS hK2.own hK2.nb t0 t1' (j:=0) (by decide),hr.c.ix ZZ c0 c1,(gi W.cpus (Q8 W t).cpu).cur,?_,fun g5 wr4 hx4 hs4 => ?_,fun g5 wr7 hx7 hs7 => ?_⟩
  ·show _<=OE W t n; omega
  ·show OE W t n<=_; omega
  ·rw [hT] at hK3';exact hK3'.rd.c.f c0 c1 (j:=1) rfl
  ·have g5:(gi W.cpus (Q8 W t).cpu).cur=t:=by simpa using g5
   have hE:MU W t n=Qg (endW (setTk W t (Xc W t n)) (Q8 W t).cpu):=by unfold MU QK; rw [if_pos g4,ecp,if_pos (show (gi (setTk W t (Xc W t n)).cpus (Q8 W t).cpu).cur=t from g5)]
   rw [hE];have hK5:=(hst _ _ (by rfl) (by rw [hT]; rfl)).step (hx4.mono sub3);have hcall:=Zg hK5.own c0 c1;rw [e5] at hcall;refine Calls.mono hcall ?_;rintro e1 wv1 ⟨he1,hy1⟩;refine ⟨_,_,_,_,_,_,_,_,_,_,he1,hK5.kept hy1 hs4,fun wr6 hx6 hs6 => ?_⟩;have hK6:=(hK5.deed hy1 hs4).step hx6;refine Calls.mono (Qm hK6.own (hN.s1.endW c0 c1) (by decide) (by decide) hK6.base) ?_;rintro e2 wv2 ⟨m1,he2,hy2⟩;exact ⟨_,_,_,_,_,_,_,_,_,_,he2,hK6.kept hy2 hs6,fun wr7 hx7=>Qy.ok hW hb ((hK6.deed hy2 hs6).step hx7)⟩
  ·have g5:¬(gi W.cpus (Q8 W t).cpu).cur=t:=by simpa using g5
   have hE:MU W t n=Qg (setTk W t (Xc W t n)):=by unfold MU QK; rw [if_pos g4,ecp,if_neg (show ¬(gi (setTk W t (Xc W t n)).cpus (Q8 W t).cpu).cur=t from g5)]
   rw [hE];have hK5:=(hst _ _ (by rfl) (by rw [hT]; rfl)).step (hx7.mono sub3);have hcall:=Qm hK5.own hN.s1 (by decide) (by decide) hK5.base;rw [e5] at hcall;refine Calls.mono hcall ?_;rintro e2 wv2 ⟨m1,he2,hy2⟩;exact ⟨_,_,_,_,_,_,_,_,_,_,he2,hK5.kept hy2 hs7,fun wr7 hx7=>Qy.ok hW hb ((hK5.deed hy2 hs7).step hx7)⟩
 ·have g4:¬(Q8 W t).state=1:=by simpa [Q8] using g4
  have hE:MU W t n=Qg (setTk W t (Xc W t n)):=by unfold MU; rw [if_neg g4]
  have hs1:=hN.s1;rw [hE,zel g4];rw [zel g4] at hs1;have hK3:Wk 8 ([x,x1]++[b2]) w _ (setTk W t { Q8 W t with nice:=n }) m':=(hK.add hb2).sto hK2.own MD;have hK5:=hK3.step (hx9.mono fun y hy=>List.mem_append_left _ hy);have hcall:=Qm hK5.own hs1 (by decide) (by decide) hK5.base;rw [e5] at hcall;refine Calls.mono hcall ?_;rintro e2 wv2 ⟨m1,he2,hy2⟩;exact ⟨_,_,_,_,_,_,_,_,_,_,he2,hK5.kept hy2 hs9,fun wr7 hx7=>Qy.ok hW hb ((hK5.deed hy2 hs9).step hx7)⟩
end
noncomputable def O9 (W:Q7) (g:Int) (ok:Bool):Int:=if ok=false\/g=0 then 1 else if Q6 W.groups g=false then 2 else if QB W=false then 10 else 0
theorem C7 {W:Q7} {g:Int} {ok:Bool} (h:O9 W g ok=0):ok=true/\g≠0/\Q6 W.groups g=true/\QB W=true:=by
 unfold O9 at h
 split at h
 ·cases h
 ·rename_i h1
  split at h
  ·cases h
  ·rename_i h2
   split at h
   ·cases h
   ·rename_i h3;exact ⟨by cases ok <;> simp_all,fun e=>h1 (.inr e),by simpa using h2,by simpa using h3⟩
def zmm:XS:=⟨0,0,0,[],[]⟩
def Xb (q:Int) (n:Nat):XS:=⟨q,q,0,List.replicate n 0,List.replicate n false⟩
def MV (q p:Int):Bool:=q==0&&p==0
def NO (q p:Int):Bool:=MV q p||(X3 q 1 10000&&X3 p 1 1000)
def Of (W:Q7) (g q p:Int):Z0:=if MV q p=true then { gi W.groups g with period:=0,next:=0,band:=zmm } else { gi W.groups g with period:=p,next:=W.now+p,band:=Xb q W.cpus.length }
noncomputable def zcg (W:Q7) (g q p:Int):Int:=O9 W g (NO q p)
def zn0 (W:Q7) (g q p:Int):Q7:=Qg (setGr W g (Of W g q p))
theorem He (n:Nat):∀k:Nat,k<=n->TH (List.replicate n (0:Int)) k=0
 | 0,_=>rfl
 | k+1,hk=>by
  simp only [TH];rw [He n k (by omega),VO _ _ (by omega) (by omega)]; rfl
theorem NT {q:Int} {n:Nat} (q1:1<=q) (q2:q<=10000) (n1:1<=n) (n2:n<=4):VF (Xb q n):=by
 refine ⟨q1,q2,by simpa [Xb] using n1,by simpa [Xb] using n2,by simp [Xb],by simp only [Xb]; omega,Int.le_refl _,by simp [Xb],by simp only [Xb]; omega,fun c c0 c1 => ?_,?_⟩
 ·simp only [Xb,List.length_replicate] at c1 ⊢;rw [VO _ _ c0 c1,VO _ _ c0 c1];exact ⟨Int.le_refl _,by omega,fun h=>by cases h⟩
 ·simp only [Xb,List.length_replicate];rw [He n n (Nat.le_refl _)]; omega
theorem Ce {W:Q7} {g q p:Int}:(Of W g q p).used=(gi W.groups g).used/\(Of W g q p).parent=(gi W.groups g).parent/\(Of W g q p).name=(gi W.groups g).name/\(Of W g q p).shelves=(gi W.groups g).shelves/\(Of W g q p).weight=(gi W.groups g).weight/\(Of W g q p).cpus=(gi W.groups g).cpus/\(Of W g q p).sum=(gi W.groups g).sum:=by
 unfold Of; split <;> exact ⟨rfl,rfl,rfl,rfl,rfl,rfl,rfl⟩
theorem SW.setGr {K:Int} {W:Q7} (h:SW K W) {g:Int} {x:Z0} (hu:Q6 W.groups g=true) (u:x.used=(gi W.groups g).used) (p:x.parent=(gi W.groups g).parent) (n:x.name=(gi W.groups g).name) (s:x.shelves=(gi W.groups g).shelves) (hx:zbr W g x):SW K (setGr W g x):=by
 obtain ⟨u0,u1,ut⟩:=Q4.1 hu;have hl:=h.a.gl;have hT:=XF (x:=x) u0 u1 u p n
 have es:∀k c:Int,0<=k->Qc (Go.Proofs.YtclpmgfpjeaibaaGreat.setGr W g x) k c=Qc W k c:=fun k c k0=>by
  unfold Qc;rw [Y4 u0 u1 k0];split
  ·rename_i e; subst e; rw [s]
  ·rfl
 refine ⟨h.a.set u0 (by omega) u p n (fun hn=>by rw [u,ut] at hn; cases hn) fun _=>hx,fun t a b n=>by rw [hT.usd]; exact h.t t a b n,h.tv,fun k c uk a b => ?_,h.cu⟩;rw [hT.usd] at uk;rw [es k c (Q4.1 uk).1];exact h.s k c uk a b
theorem zio {W:Q7} {g q p:Int} (hW:QG W=true) (hb:zcg W g q p=0):Q6 W.groups g=true/\g≠0/\NO q p=true/\QB W=true/\SW Ql W/\SW Ql (setGr W g (Of W g q p)):=by
 obtain ⟨h1,h2,h3,h4⟩:=C7 hb;have wp:=Qn.1 hW;have sw:=TI wp (Qn.1 h4);obtain ⟨u0,u1,hg⟩:=wp.a.u h3;have hl:=Ce (W:=W) (g:=g) (q:=q) (p:=p);have hc1:=wp.a.c1;have hc2:=wp.a.c2;refine ⟨h3,h2,h1,h4,sw,sw.setGr h3 hl.1 hl.2.1 hl.2.2.1 hl.2.2.2.1 ⟨by rw [hl.2.2.2.2.1]; exact hg.w1,by rw [hl.2.2.2.2.1]; exact hg.w2,by rw [hl.2.2.2.2.2.1]; exact hg.m,by rw [hl.2.2.2.2.2.1]; exact hg.m0,by rw [hl.2.2.2.2.2.2]; exact hg.s,by rw [hl.2.2.2.1]; exact hg.len,fun h=>absurd h h2,fun hq => ?_,fun hq => ?_⟩⟩
 ·unfold Of at hq ⊢;split
  ·exact ⟨show TB zmm=true by decide,rfl,rfl⟩
  ·rename_i hn;rw [if_neg hn] at hq;unfold NO at h1;rw [show MV q p=false by simpa using hn,Bool.false_or,Bool.and_eq_true] at h1;have:=Qx.1 h1.1;have:q=0:=hq;omega
 ·unfold Of at hq ⊢;split
  ·rename_i hn;rw [if_pos hn] at hq;exact absurd rfl hq
  ·rename_i hn;unfold NO at h1;rw [show MV q p=false by simpa using hn,Bool.false_or,Bool.and_eq_true] at h1;have h5:=Qx.1 h1.1;have h6:=Qx.1 h1.2;exact ⟨NT h5.1 h5.2 hc1 hc2,by simp [Xb],h6.1,h6.2,by show W.now<W.now+p; omega,by show W.now+p - W.now<=p; omega⟩
theorem zeb {W:Q7} {g q p:Int} (h:MV q p=true):Of W g q p={ gi W.groups g with period:=0,next:=0,band:=zmm }:=by unfold Of; rw [if_pos h]
theorem zae {W:Q7} {g q p:Int} (h:MV q p=false):Of W g q p={ gi W.groups g with period:=p,next:=W.now+p,band:=Xb q W.cpus.length }:=by unfold Of; rw [if_neg (by rw [h]; decide)]
def DP:MG:=⟨none,0,none,0,none,0⟩
theorem zlx (base:Nat) (w:World):QQ base w zmm DP:=⟨.inl ⟨rfl,rfl,rfl⟩,.inl ⟨rfl,rfl,rfl⟩⟩
theorem zgd:∀x∈Zz DP,False:=fun x hx=>by simp [Zz,DP,Qu] at hx
section
variable {W W':Q7} {m:MW} {w:World} {bar:Int}
theorem zn6 {b:Nat} {bs:List Nat} {w w1 w2 w3:World} {q:Int} {n:Nat} (s:Sc w [b] w1) (h2:Q0 [b] (w1.alloc (.cells ((List.replicate n (0:Int)).flatMap Xh).toArray Qb)) w2) (hs1:∀y∈[b],y<w1.heap.size) (hs2:∀y∈[b],y<w2.heap.size) (h3:Q0 [b] (w2.alloc (.cells ((List.replicate n false).flatMap Pj).toArray Yp)) w3) (_:bs=[]) :
  QQ w.heap.size w3 (Xb q n) ⟨some ⟨w1.heap.size,0,none⟩,n,some ⟨w2.heap.size,0,none⟩,n,none,0⟩/\Q0 [] w w3:=by
 have hL0:Ob Xh 1 Qb w1.heap.size [b] _ (some ⟨w1.heap.size,0,none⟩) n (List.replicate n (0:Int)):=Ob.of (VB (enc:=Xh) ZO.len Qb n (0:Int) w1) hs1;have s1:=(s.call0 (Z8 w1 (.cells ((List.replicate n (0:Int)).flatMap Xh).toArray Qb))).step h2;have hL1:=((hL0.step h2).call0 (Z8 w2 (.cells ((List.replicate n false).flatMap Pj).toArray Yp))).step h3;have hD0:Ob Pj 1 Yp w2.heap.size [b] _ (some ⟨w2.heap.size,0,none⟩) n (List.replicate n false):=Ob.of (VB (enc:=Pj) YO.len Yp n false w2) hs2;have hD1:=hD0.step h3;have s2:=(s1.call0 (Z8 w2 (.cells ((List.replicate n false).flatMap Pj).toArray Yp))).step h3;exact ⟨⟨hL1.own.mono s.ext.size,hD1.own.mono s1.ext.size⟩,s2.ext⟩
theorem zlu {b:Nat} {w w1 w2 w3:World} {q:Int} {n:Nat} (s:Sc w [b] w1) (h2:Q0 [b] (w1.alloc (.cells ((List.replicate n false).flatMap Pj).toArray Yp)) w2) (hs1:∀y∈[b],y<w1.heap.size) (hs2:∀y∈[b],y<w2.heap.size) (h3:Q0 [b] (w2.alloc (.cells ((List.replicate n (0:Int)).flatMap Xh).toArray Qb)) w3) :
  QQ w.heap.size w3 (Xb q n) ⟨some ⟨w2.heap.size,0,none⟩,n,some ⟨w1.heap.size,0,none⟩,n,none,0⟩/\Q0 [] w w3:=by
 have hL0:Ob Pj 1 Yp w1.heap.size [b] _ (some ⟨w1.heap.size,0,none⟩) n (List.replicate n false):=Ob.of (VB (enc:=Pj) YO.len Yp n false w1) hs1;have s1:=(s.call0 (Z8 w1 (.cells ((List.replicate n false).flatMap Pj).toArray Yp))).step h2;have hL1:=((hL0.step h2).call0 (Z8 w2 (.cells ((List.replicate n (0:Int)).flatMap Xh).toArray Qb))).step h3;have hD0:Ob Xh 1 Qb w2.heap.size [b] _ (some ⟨w2.heap.size,0,none⟩) n (List.replicate n (0:Int)):=Ob.of (VB (enc:=Xh) ZO.len Qb n (0:Int) w2) hs2;have hD1:=hD0.step h3;have s2:=(s1.call0 (Z8 w2 (.cells ((List.replicate n (0:Int)).flatMap Xh).toArray Qb))).step h3;exact ⟨⟨hD1.own.mono s1.ext.size,hL1.own.mono s.ext.size⟩,s2.ext⟩
theorem PB {q:Int} {n:Nat} (hq:X3 q 1 10000=true) (hn:X3 (n:Int) 1 4=true) :
  Cz Qs #[.int .i64 q,.int .i64 (n:Int)] w fun e w'=>∃p:MG,e = .returned (.tuple #[.agg (Z2 (Xb q n) p).toArray,.bool true])/\QQ w.heap.size w' (Xb q n) p/\Q0 [] w w':=by
 refine (ES q (n:Int) (R:=fun v w'=>∃p:MG,v = .tuple #[.agg (Z2 (Xb q n) p).toArray,.bool true]/\QQ w.heap.size w' (Xb q n) p/\Q0 [] w w') ?_).mono fun e w' ⟨v,he,p,hv,h3⟩=>⟨p,by rw [he,hv],h3⟩
 have hm9:=Zp;have h4:=(Qx.1 hn).2;intro b hb;have s0:Sc w [b] w:=(Sc.start w).add hb;have k1:=Qi (n:=q) (a:=1) (b:=10000) (w:=w) (bs:=[]);have k2:=Qi (n:=(n:Int)) (a:=1) (b:=4) (w:=w) (bs:=[]);rw [hq] at k1;rw [hn] at k2;refine ⟨true,k1,true,fun _=>k2,fun g=>by simp at g,fun _=>⟨fun wr1 hx1 hs1=>⟨_,_,_,_,PN ZO TK n (by omega) (by omega) wr1,Qf (Z8 _ _) hs1,fun wr2 hx2 hs2=>⟨_,_,_,_,PN YO Hk n (by omega) (by omega) wr2,Qf (Z8 _ _) hs2,fun wr3 hx3 => ?_⟩⟩,fun wr1 hx1 hs1=>⟨_,_,_,_,PN YO Hk n (by omega) (by omega) wr1,Qf (Z8 _ _) hs1,fun wr2 hx2 hs2=>⟨_,_,_,_,PN ZO TK n (by omega) (by omega) wr2,Qf (Z8 _ _) hs2,fun wr3 hx3 => ?_⟩⟩⟩⟩
 ·exact ⟨_,by simp [Z2,Xb],zn6 (bs:=[]) (s0.call0 hx1) hx2 hs1 hs2 hx3 rfl⟩
 ·exact ⟨_,by simp [Z2,Xb],zlu (s0.call0 hx1) hx2 hs1 hs2 hx3⟩
theorem zn3 {base:Nat} (h:Y8 8 base w W m) {g:Int} (u0:0<=g) (u1:g<8) {G:Z0} {p:MG} (hp:QQ base w G.band p) (hb:∀x∈Zz p,x∉QF 8 m) (es:G.shelves=(gi W.groups g).shelves) {j:Nat} {vs:List Value}
  (he:Yq G (TF (m.ms g.toNat) p)=(Yq (gi W.groups g) (m.ms g.toNat)).take j++vs++(Yq (gi W.groups g) (m.ms g.toNat)).drop (j+vs.length)) (hj:j+vs.length<=14) :
  Y8 8 base (sto w m.gO (Int.toNat g*14+j) vs) (setGr W g G) (T3 m g.toNat (TF (m.ms g.toNat) p)):=
 h.stoG u0 u1 (g:=G) (p:=TF (m.ms g.toNat) p) ⟨hp.loc,hp.dry,by rw [es]; exact (h.each u0 u1).shl⟩ (fun x hx=>by
  rcases Ve x hx with h1 | h1
  ·exact .inl (hb x h1)
  ·exact .inr h1) he hj
theorem Wk.gr {bs:List Nat} {w0:World} (h:Wk 8 bs w0 w W m) {g:Int} (u0:0<=g) (u1:g<8) {G:Z0} {p:MG} (hp:QQ w0.heap.size w G.band p) (hb:∀x∈Zz p,x∉QF 8 m/\x∉bs) (es:G.shelves=(gi W.groups g).shelves) {j:Nat} {vs:List Value}
  (he:Yq G (TF (m.ms g.toNat) p)=(Yq (gi W.groups g) (m.ms g.toNat)).take j++vs++(Yq (gi W.groups g) (m.ms g.toNat)).drop (j+vs.length)) (hj:j+vs.length<=14) :
  Wk 8 bs w0 (Go.Proofs.YtclpmgfpjeaibaaGreat.sto w m.gO (Int.toNat g*14+j) vs) (setGr W g G) (T3 m g.toNat (TF (m.ms g.toNat) p)):=
 ⟨h.s.call Hd fun x hx=>(h.own.lt x hx).1,⟨zn3 h.own u0 u1 hp (fun x hx=>(hb x hx).1) es he hj,fun x hx=>by
  rcases Vf x hx with h1 | h1
  ·exact h.nb x h1
  ·rcases Ve x h1 with h2 | h2
   ·exact (hb x h2).2
   ·exact h.nb x (J1 (by omega) h2)⟩⟩
theorem JI {g:Int} {ok:Bool} (h:Xo [] w W m) (hl:X4 W) :
  Cz YC #[.agg (Qa W m).toArray,.int .i64 g,.bool ok] w fun e w'=>(QG W=false/\e = .returned (.tuple #[.agg (Qa OP zlv).toArray,.int .i64 1])/\Q0 [] w w')\/(QG W=true/\∃m',e = .returned (.tuple #[.agg (Qa W m').toArray,.int .i64 (O9 W g ok)])/\Y8 8 w.heap.size w' W m'/\Q0 [] w w'):=by
 refine (Do W.now m.cO W.cpus.length m.cC m.tO W.tasks.length m.tC m.gO W.groups.length m.gC g ok (R:=fun v w'=>(QG W=false/\v = .tuple #[.agg (Qa OP zlv).toArray,.int .i64 1]/\Q0 [] w w')\/(QG W=true/\∃m',v = .tuple #[.agg (Qa W m').toArray,.int .i64 (O9 W g ok)]/\Y8 8 w.heap.size w' W m'/\Q0 [] w w')) ?_).mono fun e w' ⟨v,he,h3⟩=>by
  rw [he];rcases h3 with ⟨a,b,c⟩ | ⟨a,m',b,c⟩
  ·exact .inl ⟨a,by rw [b],c⟩
  ·exact .inr ⟨a,m',by rw [b],c⟩
 intro x hx x1 hx1 wr hx2 hs2;refine Calls.mono (QW (h.ext hx2) hl) ?_;rintro e wv (⟨hW,he,hy⟩ | ⟨hW,m',he,hM,hy⟩)
 ·exact ⟨_,_,_,_,_,_,_,_,_,_,_,he,Qf hy hs2,fun _ wr1 hx3=>.inl ⟨hW,rfl,(hx2.trans hy).fresh hx3 fun y hm=>.inl (Yd hx hx1 y hm)⟩,fun g=>by simp at g⟩
 have hK:=Wk.begin hx hx1 hx2 hs2 hM hy;have hc1:((if QB W=true then 0 else 10:Int)==1)=false:=by split <;> rfl
 refine ⟨_,_,_,_,_,_,_,_,_,_,_,he,Qf hy hs2,fun g1 wr1 hx3=>.inr ⟨hW,m',?_,(hK.step hx3).fin⟩,fun g1=>⟨_,Yx hK.rd.g,fun g2 wr2 hx3=>.inr ⟨hW,m',?_,(hK.step hx3).fin⟩,fun g2 wr3 hx3=>.inr ⟨hW,m',?_,(hK.step hx3).fin⟩⟩⟩
 ·have hb:O9 W g ok=1:=by
   unfold O9;rw [if_pos];rw [hc1] at g1
   simpa using g1
  rw [hb]; rfl
 ·rw [hc1] at g1;have g1:¬(ok=false\/g=0):=by simpa using g1
  have hb:O9 W g ok=2:=by unfold O9; rw [if_neg g1,if_pos (by simpa using g2)]
  rw [hb]; rfl
 ·rw [hc1] at g1;have g1:¬(ok=false\/g=0):=by simpa using g1
  have hb:O9 W g ok=if QB W=true then 0 else 10:=by
   unfold O9; rw [if_neg g1,if_neg (by simpa using g2)]
   cases QB W <;> rfl
  rw [hb]; rfl
theorem Lo {g q p:Int} (h:Xo [] w W m) (hl:X4 W) :
  Cz JS #[.agg (Qa W m).toArray,.int .i64 g,.int .i64 q,.int .i64 p] w fun e w'=>∃v,e = .returned v/\Qy (YZ W (zcg W g q p) (zn0 W g q p)) w v w':=by
 refine L6 W.now m.cO W.cpus.length m.cC m.tO W.tasks.length m.tC m.gO W.groups.length m.gC g q p (R:=fun v w'=>Qy (YZ W (zcg W g q p) (zn0 W g q p)) w v w') ?_;intro x hx x1 hx1;refine ⟨_,fun _=>Qi,_,fun _ _=>Qi,fun wr hx2 hs2 => ?_⟩;refine Calls.mono (JI (g:=g) (ok:=NO q p) (h.ext hx2) hl) ?_;rintro e wv (⟨hW,he,hy⟩ | ⟨hW,m',he,hM,hy⟩)
 ·exact ⟨_,_,_,_,_,_,_,_,_,_,_,he,Qf hy hs2,fun _ wr1 hx3=>Qy.bad hW ((hx2.trans hy).fresh hx3 fun y hm=>.inl (Yd hx hx1 y hm)),fun g=>by simp at g⟩
 have hK:=Wk.begin hx hx1 hx2 hs2 hM hy;refine ⟨_,_,_,_,_,_,_,_,_,_,_,he,Qf hy hs2,fun g1 wr1 hx3=>Qy.no hW (by simpa [zcg] using g1) (hK.step hx3) rfl,fun g1 => ?_⟩;have hb:zcg W g q p=0:=by simpa [zcg] using g1
 have hr:=hK.rd;obtain ⟨hu,hz,hok,hroom,sw,s1⟩:=zio hW hb;obtain ⟨u0,u1,_⟩:=Q4.1 hu;have hgl:=sw.a.gl;have hc1:=sw.a.c1;have hc2:=sw.a.c2;have hn1:=sw.a.n1;have hn2:=sw.a.n2;have hix:=hr.g.ix (i:=g) u0 u1;have e5:∀G mm,mm={ m' with ms:=mm.ms }->Qa (setGr W g G) mm=Qa W m':=fun G mm hm=>by rw [hm]; simp [Qa,setGr]
 have eb:Qa W m'=Qa W m':=rfl;refine ⟨hix,_,_,_,_,_,_,_,_,_,_,_,_,_,_,_,_,_,_,_,_,hr.g.cells g u0 u1,fun b2 hb2=>⟨fun g2 wr2 hx3 hs3 => ?_,fun g2 => ?_⟩⟩
 ·have g2:MV q p=false:=by unfold MV; simpa only [Bool.not_eq_true'] using g2
  have hlm:X3 q 1 10000=true/\X3 p 1 1000=true:=by unfold NO at hok; rw [g2,Bool.false_or,Bool.and_eq_true] at hok; exact hok
  have hp:=Qx.1 hlm.2;have hK2:=(hK.add hb2).step (hx3.mono fun y hy=>List.mem_append_left _ hy);refine Calls.mono (PB (n:=W.cpus.length) hlm.1 (Qx.2 ⟨by omega,by omega⟩)) ?_;rintro e1 wv1 ⟨pb,he1,hO,hy1⟩;refine ⟨_,_,_,_,_,_,_,_,_,_,he1,Qf hy1 hs3,fun b3 hb3=>⟨⟨by omega,by omega⟩,hix,?_,fun wr3 hx4 hs4 => ?_⟩⟩
  ·exact NB (hK2.call0 hy1).own (hK2.call0 hy1).nb u0 (by omega) (j:=0) (by decide)
  have hK3:=(hK2.call0 hy1).add hb3
  have hK4:=(hK3.gr u0 (by omega) (G:=Of W g q p) (p:=pb) (j:=0) (vs:=Yq (Of W g q p) (TF (m'.ms g.toNat) pb)) (by rw [zae g2]; exact hO.mono hK2.base) (fun y hy => ?_) Ce.2.2.2.1 (by simp [Yq]) (by simp [Yq])).step (w':=wr3) (by
   rw [zae g2];exact hx4.mono fun y hy=>List.mem_append_left _ hy)
  ·have hcall:=Qm hK4.own s1 (by decide) (by decide) hK4.base;rw [e5 _ _ rfl] at hcall;refine Calls.mono hcall ?_;rintro e2 wv2 ⟨m2,he2,hy2⟩;exact ⟨_,_,_,_,_,_,_,_,_,_,he2,hK4.kept hy2 hs4,fun wr4 hx5=>Qy.ok hW hb ((hK4.deed hy2 hs4).step hx5)⟩
  ·have:=hO.lt y hy;refine ⟨fun hm => ?_,fun hm => ?_⟩
   ·have:=(hK2.own.lt y hm).2; omega
   ·rcases List.mem_append.1 hm with h1 | h1
    ·have:=hs3 y h1; omega
    ·have:y=b3:=by simpa using h1
     omega
 ·have g2:MV q p=true:=by unfold MV; simpa only [Bool.not_eq_false'] using g2
  refine ⟨hix,?_,fun wr3 hx4 hs4 => ?_⟩
  ·exact NB hK.own hK.nb u0 (by omega) (j:=0) (by decide)
  have hK3:=hK.add hb2
  have hK4:=(hK3.gr u0 (by omega) (G:=Of W g q p) (p:=DP) (j:=0) (vs:=Yq (Of W g q p) (TF (m'.ms g.toNat) DP)) (by rw [zeb g2]; exact zlx _ _) (fun y hy=>(zgd y hy).elim) Ce.2.2.2.1 (by simp [Yq]) (by simp [Yq])).step (w':=wr3) (by
   rw [zeb g2];exact hx4.mono fun y hy=>List.mem_append_left _ hy)
  have hcall:=Qm hK4.own s1 (by decide) (by decide) hK4.base;rw [e5 _ _ rfl] at hcall;refine Calls.mono hcall ?_;rintro e2 wv2 ⟨m2,he2,hy2⟩;exact ⟨_,_,_,_,_,_,_,_,_,_,he2,hK4.kept hy2 hs4,fun wr4 hx5=>Qy.ok hW hb ((hK4.deed hy2 hs4).step hx5)⟩
theorem zm2.post {base pb:Nat} {ex:List Nat} {w w' w1:World} {W':Q7} {m m':MW} (h:zm2 base pb ex w m w' W' m') (hx:Q0 [] w' w1):zm2 base pb ex w m w1 W' m':=
 ⟨h.own.ext0 hx,TT h.pt hx (by simp),h.ext.trans hx.of_nil,h.sub⟩
end
def GF (W:Q7) (t:Int):Int:=YH ((Q8 W t).v - (Qc W (Q8 W t).group (Q8 W t).cpu).floor) (Qd (Q8 W t).nice)
def Oh (W:Q7) (t g c:Int):Oi:={ Q8 W t with group:=g,cpu:=c,v:=(Qc W g c).floor+GF W t }
def JZ (W:Q7) (t g c:Int):Q7:=if (Q8 W t).state=1 then endW (setTk W t (Oh W t g c)) c else setTk W t (Oh W t g c)
theorem Fp (W:Q7) (t:Int):0<=GF W t/\GF W t<=Qj:=by
 have lc:=ZF ((Q8 W t).v - (Qc W (Q8 W t).group (Q8 W t).cpu).floor) (Qd (Q8 W t).nice);have lm:=ZD (Qd (Q8 W t).nice);unfold GF;simp only [Qj];omega
theorem SF.setTk {F K:Int} {W:Q7} (h:SF F K W) {t:Int} (t0:0<=t) (t1:t<12) {x:Oi} (hx:x.state≠0->Q6 W.groups x.group=true/\0<=x.cpu/\x.cpu<(W.cpus.length:Int)) (v0:0<=x.v) (v1:x.v<=K):SF F K (setTk W t x):=⟨h.w.setTk t0 t1 hx v0 v1,h.f⟩
theorem SF.endW {F K:Int} {W:Q7} (h:SF F K W) {c:Int} (c0:0<=c) (c1:c<(W.cpus.length:Int)):SF F K (endW W c):=
 ⟨h.w.endW c0 c1,fun k d u a b=>h.f k d u a (by
  have b:d<(((W.cpus.set c.toNat (X0 (gi W.cpus c))).length:Nat):Int):=b
  rwa [List.length_set] at b)⟩
theorem zes {F K:Int} {W:Q7} (h:SF F K W) (hk:F+Qj<=K) {t g c:Int} (hg:Q6 W.groups g=true) (c0:0<=c) (c1:c<(W.cpus.length:Int)):0<=(Oh W t g c).v/\(Oh W t g c).v<=K:=by
 have hf:=h.f g c hg c0 c1;have hs:=h.w.s g c hg c0 c1;have hl:=Fp W t;show 0<=(Qc W g c).floor+GF W t/\(Qc W g c).floor+GF W t<=K;omega
theorem Ei {F K:Int} {W:Q7} (h:SF F K W) (hk:F+Qj<=K) {t g c:Int} (t0:0<=t) (t1:t<12) (hg:Q6 W.groups g=true) (c0:0<=c) (c1:c<(W.cpus.length:Int)):SF F K (setTk W t (Oh W t g c))/\SF F K (JZ W t g c):=by
 have hv:=zes h hk (t:=t) hg c0 c1;have h1:=h.setTk t0 t1 (x:=Oh W t g c) (fun _=>⟨hg,c0,c1⟩) hv.1 hv.2;refine ⟨h1,?_⟩;unfold JZ;split
 ·exact h1.endW c0 c1
 ·exact h1
theorem zje (W:Q7) (t g c:Int):(JZ W t g c).now=W.now/\(JZ W t g c).cpus.length=W.cpus.length/\(JZ W t g c).tasks.length=W.tasks.length/\(JZ W t g c).groups=W.groups:=by
 unfold JZ;split
 ·exact ⟨rfl,by simp [endW,setCp,setTk],by simp [endW,setCp,setTk],rfl⟩
 ·exact ⟨rfl,rfl,by simp [setTk],rfl⟩
def Mz (m:Int):Int:=if Z5 m 0=true then 0 else if Z5 m 1=true then 1 else if Z5 m 2=true then 2 else if Z5 m 3=true then 3 else -1
theorem zkv:∀a:Fin 16,a.val≠0->Z5 (a.val:Int) (Mz (a.val:Int))=true:=by decide +kernel
theorem Ly {m:Int} (h:TZ m=true) (h0:m≠0):Z5 m (Mz m)=true:=by
 obtain ⟨f,rfl⟩:=On h;exact zkv f fun e=>h0 (by rw [e]; rfl)
theorem zn8 (gs:List Z0) (g u:Int):TZ (T2 gs g u)=true:=by
 unfold T2;rw [List.foldl_append];exact Ef _ _
theorem M3 {W:Q7} (ha:WA W) (g mask:Int):TZ (Qq W g mask)=true/\Qq W g mask≠0:=by
 unfold Qq;split
 ·rename_i h; exact ⟨Ef _ _,h⟩
 ·split
  ·rename_i h;refine ⟨?_,h⟩;exact zn8 _ _ _
  ·exact ⟨zmg ha.c2,ha.ups⟩
theorem Mq {W:Q7} (ha:WA W) (g mask:Int):0<=Mz (Qq W g mask)/\Mz (Qq W g mask)<(W.cpus.length:Int):=by
 have h:=M3 ha g mask;exact K9 ha (Ly h.1 h.2)
def PI (W:Q7) (t:Int):Bool:=((Q8 W t).state != 0) && !Z5 (Qq W (Q8 W t).group (Q8 W t).mask) (Q8 W t).cpu
def J4 (W:Q7):Nat->Q7
 | 0=>W
 | t+1=>if PI (J4 W t) (t:Int)=true then JZ (J4 W t) (t:Int) (Q8 (J4 W t) (t:Int)).group (Mz (Qq (J4 W t) (Q8 (J4 W t) (t:Int)).group (Q8 (J4 W t) (t:Int)).mask)) else J4 W t
def MC (W:Q7):Q7:=J4 W 12
structure HC (W W':Q7):Prop where
 n:W'.now=W.now
 c:W'.cpus.length=W.cpus.length
 t:W'.tasks.length=W.tasks.length
 g:W'.groups=W.groups
theorem HC.refl (W:Q7):HC W W:=⟨rfl,rfl,rfl,rfl⟩
theorem HC.trans {A B C:Q7} (h:HC A B) (k:HC B C):HC A C:=⟨k.n.trans h.n,k.c.trans h.c,k.t.trans h.t,k.g.trans h.g⟩
theorem HC.put (W:Q7) (t g c:Int):HC W (JZ W t g c):=by
 obtain ⟨h1,h2,h3,h4⟩:=zje W t g c;exact ⟨h1,h2,h3,h4⟩
theorem Cy {F K:Int} {W:Q7} (h:SF F K W) (hk:F+Qj<=K):∀t:Nat,t<=12->SF F K (J4 W t)/\HC W (J4 W t)
 | 0,_=>⟨h,HC.refl _⟩
 | t+1,ht=>by
  obtain ⟨a,b⟩:=Cy h hk t (by omega);simp only [J4];split
  ·rename_i hm;unfold PI at hm;simp only [Bool.and_eq_true,bne_iff_ne,ne_eq] at hm;have hg:=a.w.t (t:Int) (by omega) (by omega) hm.1;have hf:=Mq a.w.a (Q8 (J4 W t) (t:Int)).group (Q8 (J4 W t) (t:Int)).mask;exact ⟨(Ei a hk (by omega) (by omega) hg.1 hf.1 hf.2).2,b.trans (HC.put _ _ _ _)⟩
  ·exact ⟨a,b⟩
theorem Mk {F K:Int} {W:Q7} (h:SF F K W) (hk:F+Qj<=K):SF F K (MC W)/\HC W (MC W):=Cy h hk 12 (Nat.le_refl _)
theorem zlp {m:Int} {k:Nat} (h4:k<4) (hno:∀j:Nat,j<k->Z5 m (j:Int)=false) (h:Z5 m (k:Int)=true):Mz m=(k:Int):=by
 have h0:=hno 0;have h1:=hno 1;have h2:=hno 2;have:k=0\/k=1\/k=2\/k=3:=by omega
 unfold Mz;rcases this with rfl | rfl | rfl | rfl
 ·rw [if_pos (show Z5 m 0=true from h)]; rfl
 ·rw [if_neg (by rw [show Z5 m 0=false from h0 (by decide)]; decide),if_pos (show Z5 m 1=true from h)]; rfl
 ·rw [if_neg (by rw [show Z5 m 0=false from h0 (by decide)]; decide),if_neg (by rw [show Z5 m 1=false from h1 (by decide)]; decide),if_pos (show Z5 m 2=true from h)]; rfl
 ·rw [if_neg (by rw [show Z5 m 0=false from h0 (by decide)]; decide),if_neg (by rw [show Z5 m 1=false from h1 (by decide)]; decide),if_neg (by rw [show Z5 m 2=false from h2 (by decide)]; decide),if_pos (show Z5 m 3=true from h)]; rfl
theorem zlq {m:Int} (hno:∀j:Nat,j<4->Z5 m (j:Int)=false):Mz m = -1:=by
 unfold Mz;rw [if_neg (by rw [show Z5 m 0=false from hno 0 (by decide)]; decide),if_neg (by rw [show Z5 m 1=false from hno 1 (by decide)]; decide),if_neg (by rw [show Z5 m 2=false from hno 2 (by decide)]; decide),if_neg (by rw [show Z5 m 3=false from hno 3 (by decide)]; decide)]
section
variable {base:Nat} {W W':Q7} {m:MW} {w:World} {bar:Int}
theorem Ow {x:Int} {bs:List Nat}:PX bs XL #[.int .i64 x] w (.int .i64 (Mz x)):=
 GY x fun wr hx=>by
  refine Uv 4 0 rfl (fun k=>k<=4/\∀j:Nat,j<k->Z5 x (j:Int)=false) ⟨by decide,fun j hj=>absurd hj (Nat.not_lt_zero j)⟩ fun k ⟨hk,hno⟩=>⟨fun hlt => ?_,fun hge => ?_⟩
  ·have hlt:=of_decide_eq_true hlt;refine ⟨_,ZC,fun g => ?_,fun g=>⟨⟨by omega,by omega⟩,QY (by omega) ⟨by omega,fun j hj => ?_⟩⟩⟩
   ·rw [zlp (by omega) hno g]
   ·by_cases e:j=k
    ·rw [e]; exact g
    ·exact hno j (by omega)
  ·have hge:=of_decide_eq_false hge;have:k=4:=by omega
   subst this;rw [zlq hno]
theorem Lh (W:Q7) (t:Int) (x:Oi) (m:MW):Qa (setTk W t x) m=Qa W m:=by simp [Qa,setTk]
theorem Jv {F K:Int} (h:Y8 8 base w W m) (hsw:SF F K W) (hk:F+Qj<=K) (hK:K<=1000000000000000000) {t g c:Int} (t0:0<=t) (t1:t<12) (hs:(Q8 W t).state≠0) (hg:Q6 W.groups g=true) (c0:0<=c) (c1:c<(W.cpus.length:Int)) :
  Cz YF #[.agg (Qa W m).toArray,.int .i64 t,.int .i64 g,.int .i64 c] w fun e w'=>e = .returned (.agg (Qa W m).toArray)/\Mv 8 base [] w m w' (JZ W t g c) m:=by
 refine (BW W.now m.cO W.cpus.length m.cC m.tO W.tasks.length m.tC m.gO W.groups.length m.gC t g c (R:=fun v w'=>v = .agg (Qa W m).toArray/\Mv 8 base [] w m w' (JZ W t g c) m) ?_).mono fun e w' ⟨v,he,hv,h3⟩=>⟨by rw [he,hv],h3⟩
 intro y hy y1 hy1;obtain ⟨g0,g1,_⟩:=Q4.1 hg;have htl:=hsw.w.a.t;have hgl:=hsw.w.a.gl;have hsl:=hsw.w.a.sl hg;have hl1:t<(W.tasks.length:Int):=by omega
 obtain ⟨hu,d0,d1⟩:=hsw.w.t t t0 t1 hs;obtain ⟨q0,q1,_⟩:=Q4.1 hu;have hql:=hsw.w.a.sl hu;have s1:=hsw.w.s g c hg c0 c1;have s2:=hsw.w.s _ _ hu d0 d1;have hv:=hsw.w.tv t t0 t1;have hlr:=Fp W t;simp only [Qj] at hlr;have hM:=Mv.two h hy hy1;have hr:=(Mv.start h).rd;have hix:=hr.t.ix QJ t0 hl1;have hset:=h.stoT t0 hl1 (j:=0) (vs:=Yz (Oh W t g c)) (x:=Oh W t g c) (by simp [Yz]) (by simp [Yz]);have e5:Qa (setTk W t (Oh W t g c)) m=Qa W m:=Lh _ _ _ _;have e6:Qa (endW (setTk W t (Oh W t g c)) c) m=Qa W m:=(VV (Fa _ _)).trans e5;refine ⟨GF W t,MS hr t0 hl1 q0 q1 d0 (by omega) ⟨by show _<=(Q8 W t).v - (Qc W (Q8 W t).group (Q8 W t).cpu).floor; omega,by show (Q8 W t).v - (Qc W (Q8 W t).group (Q8 W t).cpu).floor<=_; omega⟩,hix,_,_,_,_,_,_,_,_,_,hr.t t t0 hl1,fun b2 hb2=>⟨hr.g.ix g0 g1,_,_,_,hr.g.shelf g0 g1,(hr.g.shelves g g0 g1).ix ZK c0 (by omega),(Qc W g c).floor,zbq.f (hr.g.shelves g g0 g1) c0 (by omega) (j:=0) rfl,⟨by omega,by omega⟩,hix,CS h (by simp) t0 hl1 (j:=0) (by decide),fun g4 wr hx hs4 => ?_,fun g4 wr hx=>⟨rfl,?_⟩⟩⟩
 ·have g4:(Q8 W t).state=1:=eq_of_beq g4;have hM2:=((hM.add hb2).deed hset MD).step (hx.of_nil);have hcall:=Zg hM2.own (W:=setTk W t (Oh W t g c)) c0 c1;rw [e5,e6] at hcall;refine Calls.mono hcall ?_;rintro e wv ⟨he1,hy2⟩;refine ⟨_,_,_,_,_,_,_,_,_,_,he1,hM2.kept hy2 hs4,fun wr2 hx4=>⟨rfl,?_⟩⟩;unfold JZ;rw [if_pos g4];exact ((hM2.call hy2 hs4).step hx4).close
 ·have g4:¬(Q8 W t).state=1:=ne_of_beq_false g4;unfold JZ;rw [if_neg g4];exact ((Mv.start h).deed hset MD).call0 hx
theorem Xt {F K:Int} (h:Y8 8 base w W m) (hsw:SF F K W) (hk:F+Qj<=K) (hK:K<=1000000000000000000) :
  Cz ZU #[.agg (Qa W m).toArray] w fun e w'=>e = .returned (.agg (Qa W m).toArray)/\Mv 8 base [] w m w' (MC W) m:=by
 refine (Kc W.now m.cO W.cpus.length m.cC m.tO W.tasks.length m.tC m.gO W.groups.length m.gC (R:=fun v w'=>v = .agg (Qa W m).toArray/\Mv 8 base [] w m w' (MC W) m) ?_).mono fun e w' ⟨v,he,hv,h3⟩=>⟨by rw [he,hv],h3⟩
 intro y hy y1 hy1;have htl:=hsw.w.a.t;refine ⟨fun vs w1=>∃(k:Nat),vs = .int .i64 (k:Int)::Qa W m/\k<=12/\Mv 8 base [y,y1] w m w1 (J4 W k) m,Zm 12 0,fun w1 hx0 _=>⟨0,rfl,by decide,(Mv.two h hy hy1).call0 hx0⟩,?_⟩;rintro c1 l l1O l1L l1C l2O l2L l2C l3O l3L l3C wv2 hs2 ⟨k,he,hk12,hM⟩;obtain ⟨hS,hF⟩:=Cy hsw hk k hk12;have hdef:J4 W (k+1)=if PI (J4 W k) (k:Int)=true then JZ (J4 W k) (k:Int) (Q8 (J4 W k) (k:Int)).group (Mz (Qq (J4 W k) (Q8 (J4 W k) (k:Int)).group (Q8 (J4 W k) (k:Int)).mask)) else J4 W k:=rfl;have hend:k=12->MC W=J4 W k:=fun e=>by rw [e]; rfl
 have e0:Qa (J4 W k) m=Qa W m:=by simp only [Qa,hF.n,hF.c,hF.t,hF.g]
 have eC:=hF.c;have eT:=hF.t;simp only [Qa,List.cons.injEq,Value.int.injEq,Value.slice.injEq,true_and,and_true] at he;obtain ⟨rfl,rfl,⟨rfl,rfl,rfl⟩,⟨rfl,rfl,rfl⟩,rfl,rfl,rfl⟩:=he;generalize J4 W k=V at hM hS hF hdef hend e0 eC eT;have hr:=hM.rd;refine ⟨fun hlt => ?_,fun hge w3 hx3=>⟨rfl,?_⟩⟩
 ·have hlt:=of_decide_eq_true hlt;have t1:(k:Int)<(V.tasks.length:Int):=by omega
  have hix:Ix m.tO W.tasks.length (k:Int):=by have:=hr.t.ix QJ (i:=(k:Int)) (by omega) t1; rwa [eT] at this
  have next:∀{w9 w8:World},Q0 [y,y1] wv2 w9->PI V (k:Int)=false->(∃(k':Nat),[Value.int .i64 ((k:Int)+1),.int .i64 W.now,.slice m.cO W.cpus.length m.cC,.slice m.tO W.tasks.length m.tC,.slice m.gO W.groups.length m.gC] = .int .i64 (k':Int)::Qa W m/\k'<=12/\Mv 8 base [y,y1] w m w9 (J4 W k') m)/\Zm 12 0 [.int .i64 ((k:Int)+1),.int .i64 W.now,.slice m.cO W.cpus.length m.cC,.slice m.tO W.tasks.length m.tC,.slice m.gO W.groups.length m.gC] w9<Zm 12 0 [.int .i64 (k:Int),.int .i64 W.now,.slice m.cO W.cpus.length m.cC,.slice m.tO W.tasks.length m.tC,.slice m.gO W.groups.length m.gC] w8:=fun {w9 w8} hx hm=>by
   refine ⟨⟨k+1,rfl,by omega,?_⟩,?_⟩
   ·rw [hdef,if_neg (by rw [hm]; decide)];exact hM.step hx
   ·simp only [Zm,Jq,Yf,List.getElem?_cons_zero]; omega
  refine ⟨hix,_,zj6.f hr.t (by omega) t1 (j:=0) rfl,fun g=>⟨⟨by omega,by omega⟩,fun wr4 hx4 _=>next hx4 (by unfold PI; rw [show (Q8 V (k:Int)).state=0 from eq_of_beq g]; rfl)⟩,fun g => ?_⟩;have hst:(Q8 V (k:Int)).state≠0:=ne_of_beq_false g;obtain ⟨hu,d0,d1⟩:=hS.w.t (k:Int) (by omega) (by omega) hst;have hwh:=X9 (g:=(Q8 V (k:Int)).group) (mask:=(Q8 V (k:Int)).mask) hr hS.w.a.c2 hS.w.a.tree hu;rw [e0] at hwh;have hf:=Mq hS.w.a (Q8 V (k:Int)).group (Q8 V (k:Int)).mask;refine ⟨hix,_,zj6.f hr.t (by omega) t1 (j:=1) rfl,hix,_,zj6.f hr.t (by omega) t1 (j:=4) rfl,_,hwh,hix,_,zj6.f hr.t (by omega) t1 (j:=2) rfl,_,ZC,fun g2=>⟨hix,_,zj6.f hr.t (by omega) t1 (j:=1) rfl,_,Ow,fun wr5 hx5 hs5 => ?_⟩,fun g2=>⟨⟨by omega,by omega⟩,fun wr4 hx4 _=>next hx4 (by unfold PI; rw [show Z5 (Qq V (Q8 V (k:Int)).group (Q8 V (k:Int)).mask) (Q8 V (k:Int)).cpu=true from (by have h:=g2; rw [Bool.not_eq_false'] at h; exact h)]; simp)⟩⟩;have hM5:=hM.step hx5;have hcall:=Jv hM5.own hS hk hK (t:=(k:Int)) (g:=(Q8 V (k:Int)).group) (c:=Mz (Qq V (Q8 V (k:Int)).group (Q8 V (k:Int)).mask)) (by omega) (by omega) hst hu hf.1 hf.2;rw [e0] at hcall;refine Calls.mono hcall ?_;rintro e1 wv3 ⟨he1,hy3⟩;refine ⟨_,_,_,_,_,_,_,_,_,_,he1,hM5.kept hy3 hs5,⟨by omega,by omega⟩,fun wr6 hx6 _=>⟨⟨k+1,rfl,by omega,?_⟩,?_⟩⟩
  ·have hm:PI V (k:Int)=true:=by
    unfold PI;rw [Bool.and_eq_true];exact ⟨by simpa using hst,g2⟩
   rw [hdef,if_pos hm];exact (hM5.call hy3 hs5).step hx6
  ·simp only [Zm,Jq,Yf,List.getElem?_cons_zero]; omega
 ·have hge:=of_decide_eq_false hge;rw [hend (by omega)];exact (hM.step hx3).close
section
variable {pb:Nat}
end
end
theorem OL {W:Q7} (sw:SW Ql W):SF Ql (Ql+Qj) W:=sw.sf.mono (Int.le_refl _) (by simp only [Qj]; decide)
noncomputable def LG (W:Q7) (t x:Int):Int:=if TZ x=false\/x=0 then 1 else if ZG W t=false then 2 else if QB W=false then 10 else 0
def zcs (W:Q7) (t x:Int):Oi:={ Q8 W t with mask:=x }
def zl3 (W:Q7) (t x:Int):Q7:=Qg (MC (setTk W t (zcs W t x)))
theorem zjd {W:Q7} {t x:Int} (hW:QG W=true) (hb:LG W t x=0):ZG W t=true/\SF Ql (Ql+Qj) W/\SF Ql (Ql+Qj) (setTk W t (zcs W t x)):=by
 have wp:=Qn.1 hW;unfold LG at hb
 split at hb
 ·cases hb
 ·split at hb
  ·cases hb
  ·rename_i h2
   split at hb
   ·cases hb
   ·rename_i h3;have h1:ZG W t=true:=by simpa using h2
    have h3:QB W=true:=by simpa using h3
    have sw:=TI wp (Qn.1 h3);obtain ⟨t0,t1,n⟩:=Yl h1;have hl:=wp.a.t;have hv:=sw.tv t t0 (by omega);exact ⟨h1,OL sw,OL (sw.setTk t0 (by omega) (fun _=>sw.t t t0 (by omega) n) hv.1 hv.2)⟩
theorem Lg {W:Q7} {m:MW} {F K:Int} (sf:SF F K W) (hk:F+Qj<=K):Qa (MC W) m=Qa W m:=by
 have hF:=(Mk sf hk).2;simp only [Qa,hF.n,hF.c,hF.t,hF.g]
section
variable {base pb:Nat} {W W':Q7} {m:MW} {w:World} {bar:Int}
theorem Fj {t x:Int} (h:Xo [] w W m) (hl:X4 W) :
  Cz VJ #[.agg (Qa W m).toArray,.int .i64 t,.int .i64 x] w fun e w'=>∃v,e = .returned v/\Qy (YZ W (LG W t x) (zl3 W t x)) w v w':=by
 refine ET W.now m.cO W.cpus.length m.cC m.tO W.tasks.length m.tC m.gO W.groups.length m.gC t x (R:=fun v w'=>Qy (YZ W (LG W t x) (zl3 W t x)) w v w') ?_;intro y hy y1 hy1 wr hx2 hs2;refine Calls.mono (QW (h.ext hx2) hl) ?_;rintro e wv (⟨hW,he,hy2⟩ | ⟨hW,m',he,hM,hy2⟩)
 ·exact ⟨_,_,_,_,_,_,_,_,_,_,_,he,Qf hy2 hs2,false,fun g=>by simp at g,fun _ wr1 hx3=>Qy.bad hW ((hx2.trans hy2).fresh hx3 fun z hm=>.inl (Yd hy hy1 z hm)),fun g=>by simp at g⟩
 have hK:=Wk.begin hy hy1 hx2 hs2 hM hy2;have hr:=hK.rd;have hc1:((if QB W=true then 0 else 10:Int)==1)=false:=by split <;> rfl
 refine ⟨_,_,_,_,_,_,_,_,_,_,_,he,Qf hy2 hs2,_,fun _=>Yw,fun g wr1 hx3 => ?_,fun g0=>⟨_,XC hr hl.t,fun g wr2 hx3 => ?_,fun g=>⟨fun g3 wr4 hx3 => ?_,fun g3 => ?_⟩⟩⟩
 ·rw [hc1] at g;have g:TZ x=false\/x=0:=by simpa using g
  have hb:LG W t x=1:=by unfold LG; rw [if_pos g]
  exact Qy.no hW (by rw [hb]; decide) (hK.step hx3) hb
 ·rw [hc1] at g0;have g0:¬(TZ x=false\/x=0):=by simpa using g0
  have g:ZG W t=false:=by simpa using g
  have hb:LG W t x=2:=by unfold LG; rw [if_neg g0,if_pos g]
  exact Qy.no hW (by rw [hb]; decide) (hK.step hx3) hb
 ·rw [hc1] at g0;have g0:¬(TZ x=false\/x=0):=by simpa using g0
  have g:ZG W t=true:=by simpa using g
  have hr0:¬QB W=true:=fun hr=>by rw [if_pos hr] at g3; simp at g3
  have hb:LG W t x=10:=by unfold LG; rw [if_neg g0,if_neg (by rw [g]; decide),if_pos (by simpa using hr0)]
  rw [if_neg hr0];exact Qy.no hW (by rw [hb]; decide) (hK.step hx3) hb
 rw [hc1] at g0;have g0:¬(TZ x=false\/x=0):=by simpa using g0
 have g:ZG W t=true:=by simpa using g
 have hr0:QB W=true:=Decidable.byContradiction fun hr=>by rw [if_neg hr] at g3; simp at g3
 have hb:LG W t x=0:=by unfold LG; rw [if_neg g0,if_neg (by rw [g]; decide),if_neg (by rw [hr0]; decide)]
 obtain ⟨_,sf0,sf⟩:=zjd hW hb;obtain ⟨t0,t1,tn⟩:=Yl g;have hset:Wk 8 [y,y1] w (sto wv m'.tO (Int.toNat t*9+4) [.int .i64 x]) (setTk W t (zcs W t x)) m':=hK.sto (hK.own.stoT t0 t1 (j:=4) (vs:=[.int .i64 x]) (x:=zcs W t x) rfl (by simp)) MD;refine ⟨hr.t.ix QJ t0 t1,CS hK.own hK.nb t0 t1 (j:=4) (by decide),fun wr4 hx4 hs4 => ?_⟩;have e5:Qa (setTk W t (zcs W t x)) m'=Qa W m':=Lh _ _ _ _;have hE:zl3 W t x=Qg (MC (setTk W t (zcs W t x))):=rfl;rw [hE];generalize setTk W t (zcs W t x)=V at hset sf e5;have hK4:=hset.step hx4;have hcall:=Xt hK4.own sf (Int.le_refl _) (by simp only [Qj]; decide);rw [e5] at hcall;refine Calls.mono hcall ?_;rintro e1 wv1 ⟨he1,hy3⟩;refine ⟨_,_,_,_,_,_,_,_,_,_,he1,hK4.kept hy3 hs4,fun wr5 hx5 hs5 => ?_⟩;have hK5:=(hK4.deed hy3 hs4).step hx5;have hcall2:=Qm hK5.own (Mk sf (Int.le_refl _)).1.w (by simp only [Qj]; decide) (by simp only [Qj]; decide) hK5.base;rw [Lg sf (Int.le_refl _),e5] at hcall2;refine Calls.mono hcall2 ?_;rintro e2 wv2 ⟨m2,he2,hy4⟩;exact ⟨_,_,_,_,_,_,_,_,_,_,he2,hK5.kept hy4 hs5,fun wr6 hx6=>Qy.ok hW hb ((hK5.deed hy4 hs5).step hx6)⟩
def C6 (W:Q7) (g x:Int):Z0:={ gi W.groups g with cpus:=x }
noncomputable def zca (W:Q7) (g x:Int):Int:=O9 W g (TZ x&&(x != 0))
def zky (W:Q7) (g x:Int):Q7:=Qg (MC (setGr W g (C6 W g x)))
theorem zh5 {W:Q7} {g x:Int} (hW:QG W=true) (hb:zca W g x=0):Q6 W.groups g=true/\QB W=true/\SF Ql (Ql+Qj) W/\SF Ql (Ql+Qj) (setGr W g (C6 W g x))/\QM W.groups (setGr W g (C6 W g x)).groups:=by
 obtain ⟨h1,h2,h3,h4⟩:=C7 hb;have wp:=Qn.1 hW;have sw:=TI wp (Qn.1 h4);obtain ⟨u0,u1,hg⟩:=wp.a.u h3;have hl:=wp.a.gl;simp only [Bool.and_eq_true,bne_iff_ne,ne_eq] at h1;exact ⟨h3,h4,OL sw,OL (sw.setGr (x:=C6 W g x) h3 rfl rfl rfl rfl ⟨hg.w1,hg.w2,h1.1,h1.2,hg.s,hg.len,fun h=>absurd h h2,hg.none,hg.band⟩),XF u0 (by omega) rfl rfl rfl⟩
theorem Dz {g x:Int} (h:Xo [] w W m) (hl:X4 W) :
  Cz UR #[.agg (Qa W m).toArray,.int .i64 g,.int .i64 x] w fun e w'=>∃v,e = .returned v/\Qy (YZ W (zca W g x) (zky W g x)) w v w':=by
 refine Dc W.now m.cO W.cpus.length m.cC m.tO W.tasks.length m.tC m.gO W.groups.length m.gC g x (R:=fun v w'=>Qy (YZ W (zca W g x) (zky W g x)) w v w') ?_;intro y hy y1 hy1;refine ⟨_,Yw,fun wr hx2 hs2 => ?_⟩;refine Calls.mono (JI (g:=g) (ok:=TZ x&&(x != 0)) (h.ext hx2) hl) ?_;rintro e wv (⟨hW,he,hy2⟩ | ⟨hW,m',he,hM,hy2⟩)
 ·exact ⟨_,_,_,_,_,_,_,_,_,_,_,he,Qf hy2 hs2,fun _ wr1 hx3=>Qy.bad hW ((hx2.trans hy2).fresh hx3 fun z hm=>.inl (Yd hy hy1 z hm)),fun g=>by simp at g⟩
 have hK:=Wk.begin hy hy1 hx2 hs2 hM hy2;refine ⟨_,_,_,_,_,_,_,_,_,_,_,he,Qf hy2 hs2,fun g1 wr1 hx3=>Qy.no hW (by simpa [zca] using g1) (hK.step hx3) rfl,fun g1 => ?_⟩;have hb:zca W g x=0:=by simpa [zca] using g1
 have hr:=hK.rd;obtain ⟨hu,hroom,sf0,sf,hT⟩:=zh5 hW hb;obtain ⟨u0,u1,_⟩:=Q4.1 hu;have hgl:=sf0.w.a.gl;have hset:Wk 8 [y,y1] w (sto wv m'.gO (Int.toNat g*14+4) [.int .i64 x]) (setGr W g (C6 W g x)) m':=hK.sto (hK.own.stoG0 u0 (by omega) (g:=C6 W g x) rfl rfl rfl (j:=4) (vs:=[.int .i64 x]) rfl (by simp)) Hd;refine ⟨hr.g.ix (i:=g) u0 u1,NB hK.own hK.nb (i:=g) u0 (by omega) (j:=4) (k:=1) (by decide),fun wr4 hx4 hs4 => ?_⟩;have e5:Qa (setGr W g (C6 W g x)) m'=Qa W m':=by simp [Qa,setGr]
 have hE:zky W g x=Qg (MC (setGr W g (C6 W g x))):=rfl;rw [hE];generalize setGr W g (C6 W g x)=V at hset sf e5;have hK4:=hset.step hx4;have hcall:=Xt hK4.own sf (Int.le_refl _) (by simp only [Qj]; decide);rw [e5] at hcall;refine Calls.mono hcall ?_;rintro e1 wv1 ⟨he1,hy3⟩;refine ⟨_,_,_,_,_,_,_,_,_,_,he1,hK4.kept hy3 hs4,fun wr5 hx5 hs5 => ?_⟩;have hK5:=(hK4.deed hy3 hs4).step hx5;have hcall2:=Qm hK5.own (Mk sf (Int.le_refl _)).1.w (by simp only [Qj]; decide) (by simp only [Qj]; decide) hK5.base;rw [Lg sf (Int.le_refl _),e5] at hcall2;refine Calls.mono hcall2 ?_;rintro e2 wv2 ⟨m2,he2,hy4⟩;exact ⟨_,_,_,_,_,_,_,_,_,_,he2,hK5.kept hy4 hs5,fun wr6 hx6=>Qy.ok hW hb ((hK5.deed hy4 hs5).step hx6)⟩
end
def zoj (W:Q7) (c:Int) (j:Nat):Bool:=((Q8 W (j:Int)).state==1)&&((Q8 W (j:Int)).cpu==c)
def Cx (W:Q7) (c:Int) (j:Nat):Int:=if zoj W c j=true then 1 else 0
def Cc (W:Q7) (c:Int) (j:Nat):Int:=if zoj W c j=true then (Q8 W (j:Int)).load else 0
def zax (W:Q7) (c:Int):Int:=Xi (Cx W c) W.tasks.length
def Cd (W:Q7) (c:Int):Int:=Xi (Cc W c) W.tasks.length
def zln (W:Q7) (a b:Int):Bool:=decide (Cd W a<Cd W b)||((Cd W a==Cd W b)&&decide (zax W a<zax W b))
def TE (W:Q7) (m:Int):Nat->Int
 | 0 => -1
 | k+1=>if (Z5 m (k:Int)&&(decide (TE W m k<0)||zln W (k:Int) (TE W m k)))=true then (k:Int) else TE W m k
def TP (W:Q7) (m:Int):Int:=TE W m W.cpus.length
theorem zav {W:Q7} {m:Int} {k:Nat} (h:(Z5 m (k:Int)&&(decide (TE W m k<0)||zln W (k:Int) (TE W m k)))=true):TE W m (k+1)=(k:Int):=if_pos h
theorem zer {W:Q7} {m:Int} {k:Nat} (h:(Z5 m (k:Int)&&(decide (TE W m k<0)||zln W (k:Int) (TE W m k)))=false):TE W m (k+1)=TE W m k:=if_neg (by rw [h]; decide)
theorem FV (W:Q7) (m:Int):∀k:Nat,-1<=TE W m k/\TE W m k<(k:Int)/\(0<=TE W m k->Z5 m (TE W m k)=true)
 | 0=>⟨Int.le_refl _,by show (-1:Int)<0; decide,fun h=>by have:(0:Int)<=-1:=h; omega⟩
 | k+1=>by
  have ih:=FV W m k;simp only [TE];split
  ·rename_i h;simp only [Bool.and_eq_true] at h;exact ⟨by omega,by omega,fun _=>h.1⟩
  ·exact ⟨ih.1,by omega,ih.2.2⟩
theorem A2 {W:Q7} {m:Int} {j:Nat} (h:Z5 m (j:Int)=true):∀k:Nat,j<k->0<=TE W m k
 | 0,hk=>absurd hk (Nat.not_lt_zero j)
 | k+1,hk=>by
  by_cases e:j=k
  ·subst e
   by_cases hn:TE W m j<0
   ·rw [zav (by rw [h,decide_eq_true hn]; rfl)]; omega
   ·simp only [TE]; split <;> omega
  ·have:=A2 (W:=W) h k (by omega);simp only [TE]
   split <;> omega
theorem zn9 {W:Q7} (ha:WA W) {m:Int} (hm:TZ m=true) (h0:m≠0) (hs:∀c:Int,Z5 m c=true->0<=c/\c<(W.cpus.length:Int)):0<=TP W m/\TP W m<(W.cpus.length:Int)/\Z5 m (TP W m)=true:=by
 have hf:=Ly hm h0;have hr:=hs _ hf;have e:((Mz m).toNat:Int)=Mz m:=by omega
 have h1:=A2 (W:=W) (m:=m) (j:=(Mz m).toNat) (by rw [e]; exact hf) W.cpus.length (by omega);have h2:=FV W m W.cpus.length;exact ⟨h1,h2.2.1,h2.2.2 h1⟩
theorem Mj {W:Q7} (ha:WA W) (g mask:Int):0<=TP W (Qq W g mask)/\TP W (Qq W g mask)<(W.cpus.length:Int)/\Z5 (Qq W g mask) (TP W (Qq W g mask))=true:=
 zn9 ha (M3 ha g mask).1 (M3 ha g mask).2 fun _ h=>K9 ha h
def Kn (m:Int):Nat->Int
 | 0=>0
 | k+1=>if Z5 m (k:Int)=true then Kn m k+1 else Kn m k
theorem Fw (m:Int):∀k:Nat,0<=Kn m k/\Kn m k<=(k:Int)
 | 0=>by simp [Kn]
 | k+1=>by
  have:=Fw m k;simp only [Kn]
  split <;> omega
def zpi (W:Q7):Prop:=∀t:Int,0<=t->t<12->0<=(Q8 W t).load/\(Q8 W t).load<=8000000
theorem zin {W:Q7} (wp:XG W):zpi W:=fun t t0 t1=>by
 rcases wp.t t t0 t1 with h | ⟨_,h⟩
 ·rw [h.2]; decide
 ·exact ⟨h.l1,h.l2⟩
theorem zcx (W:Q7) (c:Int) (j:Nat):0<=Cx W c j/\Cx W c j<=1:=by unfold Cx; split <;> omega
theorem zcy {W:Q7} (c:Int) (k:Nat):0<=Xi (Cx W c) k/\Xi (Cx W c) k<=(k:Int)*1:=U3 (zcx W c) k
theorem Fq {W:Q7} (hl:zpi W) (c:Int):∀k:Nat,k<=12->0<=Xi (Cc W c) k/\Xi (Cc W c) k<=(k:Int)*8000000
 | 0,_=>by simp [Xi]
 | k+1,hk=>by
  have ih:=Fq hl c k (by omega);have h1:=hl (k:Int) (by omega) (by omega);simp only [Xi];have h2:0<=Cc W c k/\Cc W c k<=8000000:=by unfold Cc; split <;> omega
  omega
section
variable {W:Q7} {m:MW} {w:World} {bs:List Nat} {p:OA}
theorem VP {c:Int} (h:Xo bs w W m) (htl:W.tasks.length=12):PX bs X6 #[.agg (Qa W m).toArray,.int .i64 c] w (.int .i64 (zax W c)):=
 DT W.now m.cO W.cpus.length m.cC m.tO W.tasks.length m.tC m.gO W.groups.length m.gC c fun wr hx=>by
  have h:=(h.ext hx).less (cs:=[]) (by simp);intro _ _;refine Tx W.tasks.length 0 rfl (fun x k=>k<=W.tasks.length/\x=Xi (Cx W c) k) ⟨Nat.zero_le _,rfl⟩ fun x k ⟨hk,hx2⟩=>⟨fun hlt => ?_,fun hge => ?_⟩
  ·have hlt:=of_decide_eq_true hlt;have hr:=zcy (W:=W) c k;refine ⟨h.t.ix QJ (by omega) hlt,_,h.t.f (by omega) hlt (j:=0) rfl,fun _=>h.t.ix QJ (by omega) hlt,_,fun _=>h.t.f (by omega) hlt (j:=2) rfl,fun g2=>⟨⟨by omega,by omega⟩,⟨by omega,by omega⟩,QA (by omega) ⟨by omega,?_⟩⟩,fun g2=>⟨⟨by omega,by omega⟩,QA (by omega) ⟨by omega,?_⟩⟩⟩
   ·have g2:zoj W c k=true:=g2;simp only [Xi,Cx]; rw [if_pos g2,hx2]
   ·have g2:zoj W c k=false:=g2;simp only [Xi,Cx]; rw [if_neg (by rw [g2]; decide),hx2,Int.add_zero]
  ·have hge:=of_decide_eq_false hge;have:k=W.tasks.length:=by omega
   subst this;rw [hx2]; rfl
theorem JH {c:Int} (h:Xo bs w W m) (htl:W.tasks.length=12) (hl:zpi W):PX bs YB #[.agg (Qa W m).toArray,.int .i64 c] w (.int .i64 (Cd W c)):=
 DR W.now m.cO W.cpus.length m.cC m.tO W.tasks.length m.tC m.gO W.groups.length m.gC c fun wr hx=>by
  have h:=(h.ext hx).less (cs:=[]) (by simp);intro _ _;refine Tx W.tasks.length 0 rfl (fun x k=>k<=W.tasks.length/\x=Xi (Cc W c) k) ⟨Nat.zero_le _,rfl⟩ fun x k ⟨hk,hx2⟩=>⟨fun hlt => ?_,fun hge => ?_⟩
  ·have hlt:=of_decide_eq_true hlt;have hr:=Fq hl c k (by omega);have hl1:=hl (k:Int) (by omega) (by omega);refine ⟨h.t.ix QJ (by omega) hlt,_,h.t.f (by omega) hlt (j:=0) rfl,fun _=>h.t.ix QJ (by omega) hlt,_,fun _=>h.t.f (by omega) hlt (j:=2) rfl,fun g2=>⟨h.t.ix QJ (by omega) hlt,(Q8 W (k:Int)).load,h.t.f (by omega) hlt (j:=8) rfl,⟨by omega,by omega⟩,⟨by omega,by omega⟩,QA (by omega) ⟨by omega,?_⟩⟩,fun g2=>⟨⟨by omega,by omega⟩,QA (by omega) ⟨by omega,?_⟩⟩⟩
   ·have g2:zoj W c k=true:=g2;simp only [Xi,Cc]; rw [if_pos g2,hx2]
   ·have g2:zoj W c k=false:=g2;simp only [Xi,Cc]; rw [if_neg (by rw [g2]; decide),hx2,Int.add_zero]
  ·have hge:=of_decide_eq_false hge;have:k=W.tasks.length:=by omega
   subst this;rw [hx2]; rfl
theorem P9 {x:Int} (h:Xo bs w W m) (ha:WA W) (hl:zpi W):PX bs J9 #[.agg (Qa W m).toArray,.int .i64 x] w (.int .i64 (TP W x)):=
 DS W.now m.cO W.cpus.length m.cC m.tO W.tasks.length m.tC m.gO W.groups.length m.gC x fun wr hx=>by
  have h:=(h.ext hx).less (cs:=[]) (by simp);have hcl:=ha.c2;have htl:=ha.t;intro _ _;refine Tx W.cpus.length 0 rfl (fun b k=>k<=W.cpus.length/\b=TE W x k) ⟨Nat.zero_le _,rfl⟩ fun b k ⟨hk,hb⟩=>⟨fun hlt => ?_,fun hge => ?_⟩
  ·have hlt:=of_decide_eq_true hlt;have key:(((decide (b<0))||(decide (Cd W (k:Int)<Cd W b)))||((Cd W (k:Int)==Cd W b)&&(decide (zax W (k:Int)<zax W b))))=(decide (TE W x k<0)||zln W (k:Int) (TE W x k)):=by rw [hb,Bool.or_assoc]; rfl
   refine ⟨_,ZC,fun g=>⟨⟨by omega,by omega⟩,QA (by omega) ⟨by omega,?_⟩⟩,fun g=>⟨_,fun _=>JH h htl hl,_,fun _=>JH h htl hl,_,fun _=>JH h htl hl,_,fun _=>JH h htl hl,_,fun _ _=>VP h htl,_,fun _ _=>VP h htl,fun g2=>⟨⟨by omega,by omega⟩,QA (by omega) ⟨by omega,?_⟩⟩,fun g2=>⟨⟨by omega,by omega⟩,QA (by omega) ⟨by omega,?_⟩⟩⟩⟩
   ·have g:Z5 x (k:Int)=false:=by simpa using g
    rw [hb,zer (by rw [g]; rfl)]
   ·have g:Z5 x (k:Int)=true:=by simpa using g
    rw [zav (by rw [g,<-key,g2]; rfl)]
   ·have g:Z5 x (k:Int)=true:=by simpa using g
    rw [hb,zer (by rw [g,<-key,g2]; rfl)]
  ·have hge:=of_decide_eq_false hge;have:k=W.cpus.length:=by omega
   subst this;rw [hb]; rfl
theorem GA {x:Int}:PX bs Uk #[.int .i64 x] w (.int .i64 (Kn x 4)):=
 GX x fun wr hx=>by
  refine Tx 4 0 rfl (fun n k=>k<=4/\n=Kn x k) ⟨by decide,rfl⟩ fun n k ⟨hk,hn⟩=>⟨fun hlt => ?_,fun hge => ?_⟩
  ·have hlt:=of_decide_eq_true hlt;have hr:=Fw x k;refine ⟨_,ZC,fun g=>⟨⟨by omega,by omega⟩,⟨by omega,by omega⟩,QA (by omega) ⟨by omega,?_⟩⟩,fun g=>⟨⟨by omega,by omega⟩,QA (by omega) ⟨by omega,?_⟩⟩⟩
   ·simp only [Kn]; rw [if_pos g,hn]
   ·simp only [Kn]; rw [if_neg (by rw [g]; decide),hn]
  ·have hge:=of_decide_eq_false hge;have:k=4:=by omega
   subst this;rw [hn]
end
def Ee (n:Int):Int:=if X3 n 1 4=true then (if n=1 then 0 else if n=2 then 1 else 2) else 0
theorem zf7 {n:Int} (h:X3 n 1 4=true):(n=1/\Ee n=0)\/(n=2/\Ee n=1)\/(n=3/\Ee n=2)\/(n=4/\Ee n=2):=by
 have:=Qx.1 h;have:n=1\/n=2\/n=3\/n=4:=by omega
 rcases this with rfl | rfl | rfl | rfl
 ·exact .inl ⟨rfl,by decide⟩
 ·exact .inr (.inl ⟨rfl,by decide⟩)
 ·exact .inr (.inr (.inl ⟨rfl,by decide⟩))
 ·exact .inr (.inr (.inr ⟨rfl,by decide⟩))
def zi0 (c lv j:Int):Bool:=Int.fdiv j (2 ^ (min (Int.toNat (lv+1)) 64))==Int.fdiv c (2 ^ (min (Int.toNat (lv+1)) 64))
def zjm (c lv:Int):Nat->Int
 | 0=>0
 | k+1=>if zi0 c lv (k:Int)=true then zjm c lv k+UI k else zjm c lv k
theorem zjn (c lv:Int):∀k:Nat,k<=4->0<=zjm c lv k/\zjm c lv k<UI k
 | 0,_=>by simp [zjm,UI]
 | k+1,h=>by
  have ih:=zjn c lv k (by omega)
  have hb:UI (k+1)=2*UI k/\0<=UI k:=by
   have:k=0\/k=1\/k=2\/k=3:=by omega
   rcases this with rfl | rfl | rfl | rfl <;> decide
  simp only [zjm]
  split <;> omega
def H8 (n c lv:Int):Bool:=(X3 n 1 4&&X3 c 0 (n - 1))&&X3 lv 0 (Ee n - 1)
def zpb (n c lv:Int):Int:=if H8 n c lv=true then zjm c lv n.toNat else 0
section
variable {w:World} {bs:List Nat} {n c lv:Int}
theorem zlo {n:Int} {k:Nat} (h:X3 n 1 4=true) (hk:(k:Int)<=Ee n):(decide ((1*2 ^ (min (Int.toNat (k:Int)) 64):Int)<n)=true->(k:Int)+1<=Ee n)/\(decide ((1*2 ^ (min (Int.toNat (k:Int)) 64):Int)<n)=false->(k:Int)=Ee n):=by
 rcases zf7 h with ⟨rfl,e⟩ | ⟨rfl,e⟩ | ⟨rfl,e⟩ | ⟨rfl,e⟩ <;> rw [e] at hk ⊢
 ·have:k=0:=by omega
  subst this; decide
 ·have:k=0\/k=1:=by omega
  rcases this with rfl | rfl <;> decide
 ·have:k=0\/k=1\/k=2:=by omega
  rcases this with rfl | rfl | rfl <;> decide
 ·have:k=0\/k=1\/k=2:=by omega
  rcases this with rfl | rfl | rfl <;> decide
theorem zed (n:Int):0<=Ee n/\Ee n<=2:=by
 unfold Ee;split
 ·split
  ·omega
  ·split <;> omega
 ·omega
theorem VT:PX bs YP #[.int .i64 n] w (.int .i64 (Ee n)):=
 MB n fun wr hx=>by
  refine ⟨_,Qi,fun q => ?_,fun q => ?_⟩
  ·have q:X3 n 1 4=false:=by simpa using q
   have:Ee n=0:=if_neg (by rw [q]; decide);rw [this]
  ·have q:X3 n 1 4=true:=by simpa using q
   have hl:=zed n;refine ⟨fun vs=>∃k:Nat,vs=[.int .i64 (k:Int)]/\(k:Int)<=Ee n,fun vs=>(2 - Yf 0 vs).toNat,⟨0,rfl,hl.1⟩,?_⟩;rintro k' ⟨k,he,hk⟩;simp only [List.cons.injEq,Value.int.injEq,true_and,and_true] at he;subst he;have hb:=EL (k:=k) (by omega);have hbd:(1*2 ^ (min (Int.toNat (k:Int)) 64):Int)=UI k:=rfl;obtain ⟨s1,s2⟩:=zlo q hk;refine ⟨⟨by omega,by omega⟩,⟨by omega,by rw [hbd]; exact ⟨by omega,by omega⟩⟩,fun g=>⟨⟨by omega,by omega⟩,⟨k+1,by simp,by have:=s1 g; omega⟩,?_⟩,fun g=>by rw [<-s2 g]⟩;have:=s1 g;show (2 - ((k:Int)+1)).toNat<(2 - (k:Int)).toNat;omega
theorem zgt (h:H8 n c lv=true):X3 n 1 4=true/\0<=c/\c<n/\0<=lv/\lv<=1:=by
 unfold H8 at h;simp only [Bool.and_eq_true] at h;have h1:=Qx.1 h.1.2;have h2:=Qx.1 h.2;have:=zed n;exact ⟨h.1.1,h1.1,by omega,h2.1,by omega⟩
theorem Lm:PX bs JQ #[.int .i64 n,.int .i64 c,.int .i64 lv] w (.int .i64 (zpb n c lv)):=
 LD n c lv fun wr hx=>by
  have hl:=zed n
  have e:(((!X3 n 1 4)||(!X3 c 0 (n - 1)))||(!X3 lv 0 (Ee n - 1))) = !H8 n c lv:=by
   unfold H8; rw [Bool.not_and,Bool.not_and]
  refine ⟨_,Qi,fun q => ?_,_,fun _=>Qi,_,fun _=>VT,fun _=>⟨by omega,by omega⟩,_,fun _=>Qi,fun q => ?_,fun q => ?_⟩
  ·have q:=Qx.1 (by simpa using q:X3 n 1 4=true);exact ⟨by omega,by omega⟩
  ·rw [e] at q;have:zpb n c lv=0:=if_neg (by simpa using q);rw [this]
  ·rw [e] at q;have q:H8 n c lv=true:=by simpa using q
   obtain ⟨h1,c0,c1,l0,l1⟩:=zgt q;have hn:=Qx.1 h1;obtain ⟨N,rfl⟩:∃N:Nat,n=(N:Int):=⟨n.toNat,by omega⟩;have hD:zpb (N:Int) c lv=zjm c lv N:=by unfold zpb; rw [if_pos q,Int.toNat_natCast]
   rw [hD];refine Tx N 0 rfl (fun x k=>k<=N/\x=zjm c lv k) ⟨Nat.zero_le _,rfl⟩ fun x k ⟨hk,hx2⟩=>⟨fun hlt => ?_,fun hge => ?_⟩
   ·have hlt:=of_decide_eq_true hlt;have hb:=EL (k:=k) (by omega);have hs:=zjn c lv k (by omega);have hbd:(1*2 ^ (min (Int.toNat (k:Int)) 64):Int)=UI k:=rfl;refine ⟨⟨by omega,by omega⟩,⟨by omega,by omega⟩,by omega,⟨by omega,by omega⟩,⟨by omega,by omega⟩,by omega,fun hu => ?_,fun hu => ?_⟩
    ·rw [hbd,hx2];refine ⟨⟨by omega,by omega⟩,⟨by omega,by omega,by omega⟩,⟨by omega,by omega⟩,⟨by omega,by omega⟩,QA (by omega) ⟨by omega,?_⟩⟩;simp only [zjm]; rw [if_pos (show zi0 c lv (k:Int)=true from hu)]
    ·refine ⟨⟨by omega,by omega⟩,QA (by omega) ⟨by omega,?_⟩⟩;rw [hx2]; simp only [zjm]; rw [if_neg (by rw [show zi0 c lv (k:Int)=false from hu]; decide)]
   ·have hge:=of_decide_eq_false hge;have:k=N:=by omega
    subst this;rw [hx2]
end
def E4 (W:Q7) (g:Int):List Int:=QT W.groups g++[0]
def zhs (W:Q7) (g c:Int):Bool:=(E4 W g).any fun x=>Uf W x c
theorem zbn (W:Q7):E4 W 0=[0]:=by unfold E4; rw [show QT W.groups 0=[] from Zh W.groups 3]; rfl
theorem zbo {W:Q7} (ht:Z6 W.groups) {g:Int} (hu:Q6 W.groups g=true) (hz:g≠0):E4 W g=g::E4 W (gi W.groups g).parent:=by
 unfold E4;rw [YN ht hu hz,List.cons_append]
theorem zj0 {W:Q7} (ht:Z6 W.groups) {g:Int} (hu:Q6 W.groups g=true):∀x∈E4 W g,Q6 W.groups x=true:=by
 have hr:Q6 W.groups 0=true:=Q4.2 ⟨by decide,by have:=ht.len; omega,ht.ru⟩;refine Jx ht (Q:=fun h=>∀x∈E4 W h,Q6 W.groups x=true) ?_ (fun h hu hz ih => ?_) g hu
 ·rw [zbn];intro x hx;have:x=0:=by simpa using hx
  rw [this]; exact hr
 ·rw [zbo ht hu hz];intro x hx;rcases List.mem_cons.1 hx with rfl | hx
  ·exact hu
  ·exact ih x hx
theorem FSx (gs:List Z0):∀(f:Nat) (g:Int),(Jh f gs g).length<=f
 | 0,_=>Nat.le_refl _
 | f+1,g=>by
  simp only [Jh];split
  ·simp
  ·have:=FSx gs f (gi gs g).parent;simp; omega
theorem ze6 (W:Q7) (g:Int):(E4 W g).length<=4:=by
 unfold E4;have:=FSx W.groups 3 g;simp; omega
def Jk (W:Q7) (t c:Int):Bool:=
 (!(((((((Q8 W t).state != 1)||((Q8 W t).cpu==c))||((gi W.cpus (Q8 W t).cpu).cur==t))||(!ZH W t))||(!Z5 (Qq W (Q8 W t).group (Q8 W t).mask) c)))) && !zhs W (Q8 W t).group c
def zfd (W:Q7) (b c:Int):Bool:=Vs (fun t=>((Q8 W (t:Int)).cpu==b)&&Jk W (t:Int) c) 12
theorem Hr {W:Q7} {t c:Int} (h:Jk W t c=true):(Q8 W t).state=1/\(Q8 W t).cpu≠c:=by
 unfold Jk at h;simp only [Bool.and_eq_true,Bool.not_eq_true',Bool.or_eq_false_iff,bne_eq_false_iff_eq,beq_eq_false_iff_ne] at h;exact ⟨h.1.1.1.1.1,h.1.1.1.1.2⟩
section
variable {W:Q7} {m:MW} {w:World} {bs:List Nat} {p:OA}
def zaz (W:Q7) (g:Int):List Int:=if g=0 then [] else E4 W (gi W.groups g).parent
theorem A5 {W:Q7} (ht:Z6 W.groups) {g:Int} (hu:Q6 W.groups g=true):g::zaz W g=E4 W g:=by
 unfold zaz
 by_cases hz:g=0
 ·subst hz; rw [if_pos rfl,zbn]
 ·rw [if_neg hz,zbo ht hu hz]
theorem Pc {t:Int} (h:Xo [] w W m) (ht:Z6 W.groups) (t0:0<=t) (t1:t<(W.tasks.length:Int)) (hu:Q6 W.groups (Q8 W t).group=true) :
  Cz Jc #[.agg (Qa W m).toArray,.int .i64 t] w fun e w'=>∃o c',e = .returned (.slice o (E4 W (Q8 W t).group).length c')/\XR Xh 1 Qb w.heap.size w' o c' (E4 W (Q8 W t).group)/\Q0 [] w w':=by
 refine (Du W.now m.cO W.cpus.length m.cC m.tO W.tasks.length m.tC m.gO W.groups.length m.gC t (R:=fun v w'=>∃o c',v = .slice o (E4 W (Q8 W t).group).length c'/\XR Xh 1 Qb w.heap.size w' o c' (E4 W (Q8 W t).group)/\Q0 [] w w') ?_).mono fun e w' ⟨v,he,o,c',hv,h1⟩=>⟨o,c',by rw [he,hv],h1⟩
 intro b hb;refine ⟨h.t.ix QJ t0 t1,_,h.t.f t0 t1 (j:=1) rfl,fun b1 wb hx1 hb1 hcell hn => ?_⟩;have hlen:=ze6 W (Q8 W t).group;have hO0:XR Xh 1 Qb w.heap.size wb (some ⟨b1,0,none⟩) 1 [(Q8 W t).group]:=.inr ⟨b1,[],rfl,hb1,hcell,by simp [Xh],by simp⟩;have hbn:∀x∈[b],w.heap.size<=x:=by simpa using hb
 refine ⟨fun vs w1=>∃(g:Int) (l:List Int) (o:OA) (c':Nat),vs=[.int .i64 g,.slice o l.length c']/\Q6 W.groups g=true/\l++zaz W g=E4 W (Q8 W t).group/\Sc w [b] w1/\Ob Xh 1 Qb w.heap.size [b] w1 o c' l,fun vs _=>(dep 3 W.groups (Yf 0 vs)).toNat,
  fun wr hx _=>⟨_,[(Q8 W t).group],_,1,rfl,hu,A5 ht hu,(Sc.mk hx1 hbn).step hx,⟨hO0.ext hx (by simp [Qu]; exact fun e=>hn (by simp [e])),by simp [Qu]; exact fun e=>hn (by simp [e])⟩⟩,?_⟩
 rintro g oO oL oC w1 hs1 ⟨g',l,o',c',he,hug,hI,s1,hO⟩;simp only [List.cons.injEq,Value.int.injEq,Value.slice.injEq,true_and,and_true] at he;obtain ⟨rfl,rfl,rfl,rfl⟩:=he;have hg:=((h.wide (cs:=[b]) fun x hm=>.inr (hbn x hm)).ext s1.ext.of_nil).g
 have hll:l.length<=4:=by
  have:=congrArg List.length hI;simp at this;omega
 refine ⟨fun hz => ?_,fun hz wr hx => ?_⟩
 ·have hz:g≠0:=by simpa using hz
  obtain ⟨hp,a,b',d,e,e2,hd⟩:=Zl ht hug hz;refine ⟨hg.ix a b',_,hg.parent a b',fun b2 hb2 wr1 hx2 hs2 hcell2 => ?_⟩;have s2:=s1.put hx2 hb2;have hO2:=hO.put hx2 hb2;obtain ⟨o2,c2,w2,hrun,hk2,hO3,hx3⟩:=hO2.app1 ZO TK (x:=(gi W.groups g).parent) hs2 s2.ext.size hcell2 (zo5 _) (by omega) (by decide) Zj #[false,false];have s3:=s2.call hx3 fun x hm=>(hO2.own.lt x hm).1
  refine ⟨_,_,_,w2,hrun,hk2,fun wr2 hx4 _=>⟨⟨_,l++[(gi W.groups g).parent],o2,c2,rfl,hp,?_,(s3.step hx4).sub (by simp),(hO3.step hx4).sub (by simp)⟩,?_⟩⟩
  ·rw [List.append_assoc,List.singleton_append,A5 ht hp,<-hI];unfold zaz;rw [if_neg hz]
  ·show (dep 3 W.groups (gi W.groups g).parent).toNat<(dep 3 W.groups g).toNat;omega
 ·have hz:g=0:=by simpa using hz
  subst hz
  have hl:l=E4 W (Q8 W t).group:=by
   rw [<-hI];unfold zaz;rw [if_pos rfl,List.append_nil]
  subst hl;exact ⟨oO,oC,rfl,(hO.step hx).own,(s1.step hx).ext⟩
theorem Pa {t c:Int} (h:Xo bs w W m) (wp:XG W) (t0:0<=t) (t1:t<(W.tasks.length:Int)) (c0:0<=c) (c1:c<(W.cpus.length:Int)):PX bs Ja #[.agg (Qa W m).toArray,.int .i64 t,.int .i64 c] w (.bool (Jk W t c)):=by
 refine OJ fun wr0 hx0=>Dp W.now m.cO W.cpus.length m.cC m.tO W.tasks.length m.tC m.gO W.groups.length m.gC t c (R:=fun v w'=>v = .bool (Jk W t c)/\Q0 [] wr0 w') ?_
 have h:=(h.ext hx0).less (cs:=[]) (by simp);have li:((Q8 W t).state != 1)=false->Q6 W.groups (Q8 W t).group=true/\0<=(Q8 W t).cpu/\(Q8 W t).cpu<(W.cpus.length:Int):=fun hs=>wp.li t0 t1 (by simpa using hs)
 intro b hb;refine ⟨h.t.ix QJ t0 t1,_,_,_,_,_,_,_,_,_,h.t t t0 t1,fun b1 hb1 => ?_⟩;refine ⟨fun g => ?_,(gi W.cpus (Q8 W t).cpu).cur,fun g => ?_,ZH W t,fun g => ?_,Qq W (Q8 W t).group (Q8 W t).mask,fun g => ?_,_,fun g=>ZC,fun g wr hx => ?_,fun g wr1 hx1 hs1 => ?_⟩
 ·have g:(((Q8 W t).state != 1)||((Q8 W t).cpu==c))=false:=g;simp only [Bool.or_eq_false_iff] at g;have:=li g.1;exact h.c.ix ZZ this.2.1 this.2.2
 ·have g:(((Q8 W t).state != 1)||((Q8 W t).cpu==c))=false:=g;simp only [Bool.or_eq_false_iff] at g;have:=li g.1;exact (h.c _ this.2.1 this.2.2).get 1 _ rfl
 ·exact JJ h wp.a t0 t1 fun hs=>wp.li t0 t1 hs
 ·have g:(((((Q8 W t).state != 1)||((Q8 W t).cpu==c))||((gi W.cpus (Q8 W t).cpu).cur==t))||(!ZH W t))=false:=g;simp only [Bool.or_eq_false_iff] at g;exact X9 h wp.a.c2 wp.a.tree (li g.1.1.1).1
 ·have:Jk W t c=false:=by
   unfold Jk;rw [show ((((((Q8 W t).state != 1)||((Q8 W t).cpu==c))||((gi W.cpus (Q8 W t).cpu).cur==t))||(!ZH W t))||(!Z5 (Qq W (Q8 W t).group (Q8 W t).mask) c))=true from g];rfl
  rw [this]; exact ⟨rfl,hx⟩
 have g:((((((Q8 W t).state != 1)||((Q8 W t).cpu==c))||((gi W.cpus (Q8 W t).cpu).cur==t))||(!ZH W t))||(!Z5 (Qq W (Q8 W t).group (Q8 W t).mask) c))=false:=g;have eC:Jk W t c = !zhs W (Q8 W t).group c:=by unfold Jk; rw [g]; rfl
 simp only [Bool.or_eq_false_iff] at g;obtain ⟨hu,_,_⟩:=li g.1.1.1.1;rw [eC]
 have hbn:∀x∈[b,b1],wr0.heap.size<=x:=by
  intro x hm;simp only [List.mem_cons,List.not_mem_nil,or_false] at hm;rcases hm with rfl | rfl
  ·exact hb
  ·exact hb1
 refine (Pc (h.ext hx1) wp.a.tree t0 t1 hu).mono fun e w2 ⟨o,c',he,hO,hx2⟩=>⟨_,_,_,he,Qf hx2 hs1,?_⟩
 have hplen:=ze6 W (Q8 W t).group;have s2:Sc wr0 [b,b1] w2:=⟨hx1.trans hx2,hbn⟩;have hO2:Ob Xh 1 Qb wr1.heap.size [b,b1] w2 o c' (E4 W (Q8 W t).group):=Ob.of hO hs1
 refine Vb (E4 W (Q8 W t).group).length 0 rfl (fun k w3=>k<=(E4 W (Q8 W t).group).length/\Sc wr0 [b,b1] w3/\Ob Xh 1 Qb wr1.heap.size [b,b1] w3 o c' (E4 W (Q8 W t).group)/\∀j:Nat,j<k->Uf W (gi (E4 W (Q8 W t).group) (j:Int)) c=false)
  (fun w3 hx3 _=>⟨Nat.zero_le _,s2.step hx3,hO2.step hx3,fun j hj=>absurd hj (Nat.not_lt_zero j)⟩) fun k w3 _ ⟨hk,s3,hO3,hI⟩=>⟨fun hlt => ?_,fun hge wr hx => ?_⟩
 ·have hlt:=of_decide_eq_true hlt;have hR:=hO3.rd ZO.len;have hgm:=zh3 (l:=E4 W (Q8 W t).group) (i:=(k:Int)) (by omega) hlt;have hW3:=(h.wide (cs:=[b,b1]) fun x hm=>.inr (hbn x hm)).ext s3.ext.of_nil;refine ⟨hR.ix VI (by omega) hlt,_,hR (k:Int) (by omega) hlt,_,OX hW3 wp.a (zj0 wp.a.tree hu _ hgm) c0 c1,fun gd wr hx=>⟨?_,(s3.step hx).ext⟩,fun gd=>⟨⟨by omega,by omega⟩,fun wr hx _=>QN (by omega) ⟨by omega,s3.step hx,hO3.step hx,fun j hj => ?_⟩⟩⟩
  ·have:zhs W (Q8 W t).group c=true:=List.any_eq_true.2 ⟨_,hgm,gd⟩;rw [this]; rfl
  ·by_cases hjk:j<k
   ·exact hI j hjk
   ·have:j=k:=by omega
    subst this; exact gd
 ·have hge:=of_decide_eq_false hge;have hkn:k=(E4 W (Q8 W t).group).length:=by omega
  have:zhs W (Q8 W t).group c=false:=by
   cases hd:zhs W (Q8 W t).group c with
   | false=>rfl
   | true=>
    obtain ⟨x,hx,hdx⟩:=List.any_eq_true.1 hd;obtain ⟨j,hj,hjx⟩:=List.getElem_of_mem hx;have:=hI j (by omega);rw [Ju hj,hjx,hdx] at this;cases this
  rw [this]; exact ⟨rfl,(s3.step hx).ext⟩
end
end Go.Proofs.YtclpmgfpjeaibaaGreat
