/- Part 14 of what the law FnPull needs: the engine, the functions' propositions, the contracts. -/
import Derived.Test.YtclpmgfpjeaibaaGreatFnPullPm
import Derived.Laws.BytesArg
namespace Go.Proofs.YtclpmgfpjeaibaaGreat
open Go.RowKit
set_option linter.unusedVariables false
set_option linter.unusedSimpArgs false
set_option maxRecDepth 10000
set_option maxHeartbeats 8000000
theorem zpy{α:Type}[Inhabited α]{l:List α}{i:Int}(h0:0<=i)(h1:i<(l.length:Int)):l.set i.toNat (gi l i)=l:=by
 obtain⟨k,rfl⟩:=Int.eq_ofNat_of_zero_le h0;rw[J2 (by omega),Int.toNat_natCast,List.set_getElem_self]
section
variable {n base:Nat}{W:Q8}{m:MW}{w w':Wo}{G G':ZF}{i:Int}
end
section
variable {base:Nat}{W:Q8}{m:MW}{w:Wo}
theorem zgw{W W':Q8}(h:Fr W W'):W'.cpus.length=W.cpus.length/\W'.tasks.length=W.tasks.length/\W'.groups.length=W.groups.length:=⟨h.c,by rw[h.t],h.g.len⟩
theorem zlb{n:Nat}{bs:List Nat}{w0 w:Wo}{W0 W:Q8}{m0 m:MW}(h:Mv n base bs w0 m0 w W m)(hf:Fr W0 W):Qa W m=Qa W0 m0:=h.encW_eq hf.n hf.c (by rw[hf.t]) hf.g.len
theorem Qr{K:Int}(h:Yu 8 base w W m)(hsw:SW K W)(hK0:0<=K)(hK:K<=100000000000000000)(hbase:base<=w.heap.size) :
  Cz Qk #[.agg (Qa W m).toArray] w fun e w'=>∃m',e=.returned (.agg (Qa (Qg W) m').toArray)/\Mv 8 base [] w m w' (Qg W) m':=by
 refine(NL W.now m.cO W.cpus.length m.cC m.tO W.tasks.length m.tC m.gO W.groups.length m.gC (R:=fun v w'=>∃m',v=.agg (Qa (Qg W) m').toArray/\Mv 8 base [] w m w' (Qg W) m') ?_).mono fun e w' ⟨v,he,m',hv,h3⟩=>⟨m',by rw[he,hv],h3⟩
 intro x hx x1 hx1;have hgl:=hsw.a.gl;have hcl4:=hsw.a.c2;have hm9:=Zl;refine⟨fun vs w1=>∃(k:Nat),vs=.int .i64 (k:Int)::Qa W m/\k<=W.cpus.length/\Mv 8 base [x,x1] w m w1 (YP W k) m,Zu W.cpus.length 0,fun w1 hx0 _=>⟨0,rfl,Nat.zero_le _,(Mv.two h hx hx1).call0 hx0⟩,?_⟩;rintro c1 l l1O l1L l1C l2O l2L l2C l3O l3L l3C wv2 hs2 ⟨k,he,hk,hM⟩;obtain⟨hS,hO⟩:=P4 (F:=K) (K:=K+Ql) (hsw.sf.mono (Int.le_refl _) (by simp only[Ql]; omega)) (Int.le_refl _) k hk;have hdef:YP W (k+1)=QJ (YP W k) (k:Int):=rfl;have hend:k=W.cpus.length->YP W W.cpus.length=YP W k:=fun e=>by rw[e]
 have e0:=zlb hM hO.fr;obtain⟨n1,n2,n3⟩:=zgw hO.fr;simp only[Qa,List.cons.injEq,Value.int.injEq,Value.slice.injEq,true_and,and_true] at he;obtain⟨rfl,rfl,⟨rfl,rfl,rfl⟩,⟨rfl,rfl,rfl⟩,rfl,rfl,rfl⟩:=he;generalize YP W k=W1 at hM hS hO hdef hend e0 n1 n2 n3;refine⟨fun hlt wr3 hx3 hs3=>?_,fun hge wr5 hx5 hs5=>?_⟩
 ·have hlt:=Ot hlt;have hM3:=hM.step hx3;have hcall:=Ly hM3.own hS (by omega) (by simp only[Ql]; omega) (c:=(k:Int)) (by omega) (by omega);rw[e0] at hcall;refine Calls.mono hcall ?_;rintro e wv3 ⟨he,hy⟩;refine⟨_,_,_,_,_,_,_,_,_,_,he,hM3.kept hy hs3,⟨by omega,by omega⟩,fun wr4 hx4 _=>⟨⟨k+1,rfl,by omega,?_⟩,?_⟩⟩
  ·rw[hdef];exact(hM3.call hy hs3).step hx4
  ·simp only[Zu,Jh,ZZ,List.getElem?_cons_zero]; omega
 ·have hge:=Ou hge;have hkk:k=W.cpus.length:=by omega
  have hend:=hend hkk;have hM5:=hM.step hx5;have hb5:base<=wr5.heap.size:=by have:=hM5.ext.size; omega
  have hcall:=zdh hM5.own hS hb5;rw[e0] at hcall;refine Calls.mono hcall ?_;rintro e2 wv4 ⟨m4,he2,hy2⟩;obtain⟨hS4,hO4⟩:=Od hS 8 (by decide);have hM6:=hM5.call hy2 hs5;have hset:Qg W=U2 (H9 W1) W.cpus.length:=by unfold Qg; rw[hend]
  have hf4:Fr W (H9 W1):=hO.fr.trans hO4.fr;have hS4':SW (K+Ql) (H9 W1):=hS4.w;have hlen4:=zgw hf4;generalize H9 W1=W4 at hM6 hset hf4 hS4' hlen4;refine⟨_,_,_,_,_,_,_,_,_,_,he2,hM5.kept hy2 hs5,fun vs w1=>∃(k:Nat) (m1:MW),vs=.int .i64 (k:Int)::Qa W m/\k<=W.cpus.length/\Mv 8 base [x,x1] w m w1 (U2 W4 k) m1,Zu W.cpus.length 0,fun w1 hx0 _=>⟨0,m4,rfl,Nat.zero_le _,hM6.step hx0⟩,?_⟩;rintro c3 l l1O l1L l1C l2O l2L l2C l3O l3L l3C wv7 hs7 ⟨k,m7,he,hk,hM7⟩;obtain⟨hS7,hf7⟩:=LS hS4' (by simp only[Ql]; omega) k (by omega);have hdef7:U2 W4 (k+1)=T9 (U2 W4 k) (k:Int):=rfl;have hend7:k=W.cpus.length->Qg W=U2 W4 k:=fun e=>by rw[hset,e]
  have hfW:=hf4.trans hf7;have e7:=zlb hM7 hfW;obtain⟨q1,q2,q3⟩:=zgw hfW;simp only[Qa,List.cons.injEq,Value.int.injEq,Value.slice.injEq,true_and,and_true] at he;obtain⟨rfl,rfl,⟨rfl,rfl,rfl⟩,⟨rfl,rfl,rfl⟩,rfl,rfl,rfl⟩:=he;generalize U2 W4 k=W7 at hM7 hS7 hf7 hdef7 hend7 hfW e7 q1 q2 q3;refine⟨fun hlt wr9 hx9 hs9=>?_,fun hge=>?_⟩
  ·have hlt:=Ot hlt;have hM9:=hM7.step hx9;have hk4:(k:Int)<=4:=by omega
   have hKb:K+Ql+(k:Int)*Ql+Ql<=1000000000000000000:=by simp only[Ql]; omega
   have c1':(k:Int)<(W7.cpus.length:Int):=by omega
   have hSF:=hS7.sf.mono (F':=K+Ql+(k:Int)*Ql) (K':=K+Ql+(k:Int)*Ql+Ql) (Int.le_refl _) (by simp only[Ql]; omega);have hcall:=Ly hM9.own hSF (Int.le_refl _) hKb (c:=(k:Int)) (by omega) c1';rw[e7] at hcall;refine Calls.mono hcall ?_;rintro e4 wv8 ⟨he4,hy4⟩;obtain⟨hS8,hO8⟩:=FT hSF (Int.le_refl _) (c:=(k:Int)) (by omega) c1';have hM8:=hM9.call hy4 hs9;refine⟨_,_,_,_,_,_,_,_,_,_,he4,hM9.kept hy4 hs9,fun wr10 hx10 hs10=>?_⟩;have hM10:=hM8.step hx10;have hstep:T9 W7 (k:Int)=if Kq (Zm (QJ W7 (k:Int)) (k:Int)) (k:Int)=true then endW (Zm (QJ W7 (k:Int)) (k:Int)) (k:Int) else Zm (QJ W7 (k:Int)) (k:Int):=rfl;have c2':(k:Int)<((QJ W7 (k:Int)).cpus.length:Int):=by rw[hO8.c]; exact c1'
   have hcall5:=NZ hM10.own hS8.w (by simp only[Ql]; omega) (c:=(k:Int)) (by omega) c2';rw[OU hO8.fr,e7] at hcall5;obtain⟨hS11,hO11⟩:=Ge hS8.w (by simp only[Ql]; omega) (c:=(k:Int)) (by omega) c2' 8 (by decide);refine Calls.mono hcall5 ?_;rintro e5 wv9 ⟨he5,hy5⟩;have hM11:=hM10.call hy5 hs10;have hK11:=hM10.kept hy5 hs10;have hf11:Fr W (Zm (QJ W7 (k:Int)) (k:Int)):=(hfW.trans hO8.fr).trans hO11.fr;have hS11':SW (K+Ql+(k:Int)*Ql+Ql) (Zm (QJ W7 (k:Int)) (k:Int)):=hS11;generalize Zm (QJ W7 (k:Int)) (k:Int)=W11 at hM11 hf11 hS11' hstep;have e11:=zlb hM11 hf11;have hm11:m7.cO=m.cO/\m7.tO=m.tO:=by rw[hM7.hd]; exact⟨rfl,rfl⟩
   obtain⟨r1,r2,r3⟩:=zgw hf11;have hr:=hM11.rd;have c3':(k:Int)<(W11.cpus.length:Int):=by omega
   have hcur:=hS11'.cu (k:Int) (by omega) c3';have htl:=hS11'.a.t;have hixC:=hr.c.ix ZH (i:=(k:Int)) (by omega) c3';have hrC:=hr.c.f (i:=(k:Int)) (by omega) c3' (j:=1) rfl
   have hT:(decide ((gi W11.cpus (k:Int)).cur>=0))=true->0<=(gi W11.cpus (k:Int)).cur/\(gi W11.cpus (k:Int)).cur<(W11.tasks.length:Int):=fun g=>by
    have:=Ot g;exact⟨this,by omega⟩
   have hline:∀g:(decide ((gi W11.cpus (k:Int)).cur>=0))=true,PX [x,x1] Yr #[.agg (Qa W m).toArray,.int .i64 (gi W11.cpus (k:Int)).cur] wv9 (.bool (Z9 W11 (gi W11.cpus (k:Int)).cur)):=fun g=>by
    have:=UW hr hS11'.a (hT g).1 (hT g).2 (fun hs=>hS11'.li (hT g).1 (hT g).2 hs)
    rwa[e11] at this
   rw[r1,hm11.1] at hixC;rw[hm11.1] at hrC;refine⟨_,_,_,_,_,_,_,_,_,_,he5,hK11,hixC,_,hrC,fun g=>?_,(Q7 W11 (gi W11.cpus (k:Int)).cur).cpu,fun g=>?_,Z9 W11 (gi W11.cpus (k:Int)).cur,fun _ g=>hline g,fun g wr11 hx11 hs11=>?_,fun g=>?_⟩
   ·have:=hr.t.ix Qy (hT g).1 (hT g).2
    rwa[r2,hm11.2] at this
   ·have:=hr.t.f (hT g).1 (hT g).2 (j:=2) rfl
    rwa[hm11.2] at this
   ·have hM12:=hM11.step hx11;have hcall6:=Zn hM12.own (c:=(k:Int)) (by omega) c3';rw[e11] at hcall6;refine Calls.mono hcall6 ?_;rintro e6 wv10 ⟨he6,hy6⟩;have e12:=OU (m:=m7) (CT W11 (k:Int));rw[e11] at e12;rw[e12] at he6;refine⟨_,_,_,_,_,_,_,_,_,_,he6,hM12.kept hy6 hs11,⟨by omega,by omega⟩,fun wr12 hx12 _=>⟨⟨k+1,m7,rfl,by omega,?_⟩,?_⟩⟩
    ·rw[hdef7,hstep,if_pos (by unfold Kq; exact g)];exact(hM12.call hy6 hs11).step hx12
    ·simp only[Zu,Jh,ZZ,List.getElem?_cons_zero]; omega
   ·refine⟨⟨by omega,by omega⟩,fun wr12 hx12 _=>⟨⟨k+1,m7,rfl,by omega,?_⟩,?_⟩⟩
    ·rw[hdef7,hstep,if_neg (by unfold Kq; rw[g]; decide)];exact hM11.step hx12
    ·simp only[Zu,Jh,ZZ,List.getElem?_cons_zero]; omega
  ·have hge:=Ou hge;have hend7:=hend7 (by omega);rw[hend7];refine fun w9 hx9=>⟨m7,?_,(hM7.step hx9).close⟩
   rw[e7]; rfl
end
theorem Y4{n:Int}{w:Wo}{bs:List Nat}:PX bs Zg #[.int .i64 n] w (.bool (decide (n<=Qq))):=zd4 n fun wr hx=>rfl
section
variable {W:Q8}{m:MW}{w:Wo}{bs:List Nat}
theorem MM(h:Xt bs w W m)(hl:X5 W):PX bs JB #[.agg (Qa W m).toArray] w (.bool (JJ (YW W/\H3 W))):=
 Bi W.now m.cO W.cpus.length m.cC m.tO W.tasks.length m.tC m.gO W.groups.length m.gC fun wr hx=>by
  have h:=(h.ext hx).less (cs:=[]) (by simp);intro x hx;refine⟨_,YJ h hl.c hl.t hl.g hl.f,_,fun _=>Y4,fun g=>KQ ?_,fun g=>?_⟩
  ·rintro⟨wp,r⟩;rw[show Qv W=true from Qh.2 wp,show decide (W.now<=Qq)=true from decide_eq_true r.n] at g;cases g
  ·simp only[Bool.or_eq_false_iff,Bool.not_eq_false'] at g;have wp:YW W:=Qh.1 g.1;have hnow:=Ot g.2;have hgl:=wp.a.gl;have htl:=wp.a.t;have hcl:=wp.a.c2;refine Xi W.cpus.length 0 rfl (fun k=>k<=W.cpus.length/\∀c:Int,0<=c->c<(k:Int)->(gi W.cpus c).busy<=Qq/\(gi W.cpus c).idle<=Qq) ⟨Nat.zero_le _,fun c a b=>by omega⟩ fun k ⟨hk,hI⟩=>⟨fun hlt=>?_,fun hge=>?_⟩
   ·have hlt:=Ot hlt;refine⟨h.c.ix ZH (by omega) hlt,_,h.c.f (by omega) hlt (j:=3) rfl,_,Y4,fun _=>h.c.ix ZH (by omega) hlt,_,fun _=>h.c.f (by omega) hlt (j:=4) rfl,_,fun _=>Y4,fun g2=>KQ ?_,fun g2=>⟨⟨by omega,by omega⟩,Qs (by omega) ⟨by omega,fun c a b=>?_⟩⟩⟩
    ·rintro⟨_,r⟩;have:=r.c (k:Int) (by omega) hlt;rw[decide_eq_true this.1,decide_eq_true this.2] at g2;cases g2
    ·by_cases e:c=(k:Int)
     ·subst e;simp only[Bool.or_eq_false_iff,Bool.not_eq_false'] at g2;exact⟨Ot g2.1,Ot g2.2⟩
     ·exact hI c a (by omega)
   have hge:=Ou hge;have hC:∀c:Int,0<=c->c<(W.cpus.length:Int)->(gi W.cpus c).busy<=Qq/\(gi W.cpus c).idle<=Qq:=fun c a b=>hI c a (by omega)
   clear hI;refine Xi W.tasks.length 0 rfl (fun k=>k<=W.tasks.length/\∀t:Int,0<=t->t<(k:Int)->(gi W.tasks t).v<=Qq/\(gi W.tasks t).sum<=Qq/\(gi W.tasks t).used<=Qq) ⟨Nat.zero_le _,fun c a b=>by omega⟩ fun k ⟨hk,hI⟩=>⟨fun hlt=>?_,fun hge=>?_⟩
   ·have hlt:=Ot hlt;have hix:=h.t.ix Qy (i:=(k:Int)) (by omega) hlt;refine⟨hix,_,h.t.f (by omega) hlt (j:=5) rfl,_,Y4,fun _=>hix,_,fun _=>h.t.f (by omega) hlt (j:=6) rfl,_,fun _=>Y4,fun _=>hix,_,fun _=>h.t.f (by omega) hlt (j:=7) rfl,_,fun _=>Y4,fun g2=>KQ ?_,fun g2=>⟨⟨by omega,by omega⟩,Qs (by omega) ⟨by omega,fun c a b=>?_⟩⟩⟩
    ·rintro⟨_,r⟩;have:=r.t (k:Int) (by omega) hlt;rw[decide_eq_true this.1,decide_eq_true this.2.1,decide_eq_true this.2.2] at g2;cases g2
    ·by_cases e:c=(k:Int)
     ·subst e;simp only[Bool.or_eq_false_iff,Bool.not_eq_false'] at g2;exact⟨Ot g2.1.1,Ot g2.1.2,Ot g2.2⟩
     ·exact hI c a (by omega)
   have hge:=Ou hge;have hT:∀t:Int,0<=t->t<(W.tasks.length:Int)->(gi W.tasks t).v<=Qq/\(gi W.tasks t).sum<=Qq/\(gi W.tasks t).used<=Qq:=fun c a b=>hI c a (by omega)
   clear hI;refine Xi W.groups.length 0 rfl (fun k=>k<=W.groups.length/\∀j:Int,0<=j->j<(k:Int)->(gi W.groups j).sum<=Qq/\∀c:Int,0<=c->c<((gi W.groups j).shelves.length:Int)->(Qb W j c).floor<=Qq/\(Qb W j c).v<=Qq/\(Qb W j c).sum<=Qq) ⟨Nat.zero_le _,fun c a b=>by omega⟩ fun k ⟨hk,hI⟩=>⟨fun hlt=>?_,fun hge=>?_⟩
   ·have hlt:=Ot hlt;have hix:=h.g.ix (i:=(k:Int)) (by omega) hlt
    have hsl:(gi W.groups (k:Int)).shelves.length<=4:=by
     have:=wp.a.grp (k:Int) (by omega) (by omega)
     cases hu:(gi W.groups (k:Int)).used with
     | true=>have:=(this.2 hu).len; omega
     | false=>have:=(this.1 hu).l; omega
    refine⟨hix,_,(h.g.cells (k:Int) (by omega) hlt).get 7 _ rfl,_,Y4,fun g2=>KQ ?_,fun g2=>?_⟩
    ·rintro⟨_,r⟩;have:=r.g (k:Int) (by omega) hlt;rw[decide_eq_true this] at g2;cases g2
    have g2:(gi W.groups (k:Int)).sum<=Qq:=by simpa using g2
    have hrs:=h.g.shelves (k:Int) (by omega) hlt;refine Xi (gi W.groups (k:Int)).shelves.length 0 rfl (fun q=>q<=(gi W.groups (k:Int)).shelves.length/\∀c:Int,0<=c->c<(q:Int)->(Qb W (k:Int) c).floor<=Qq/\(Qb W (k:Int) c).v<=Qq/\(Qb W (k:Int) c).sum<=Qq) ⟨Nat.zero_le _,fun c a b=>by omega⟩ fun q ⟨hq,hJ⟩=>⟨hix,_,_,_,h.g.shelf (by omega) hlt,fun hlt2=>?_,fun hge2=>?_⟩
    ·have hlt2:=Ot hlt2;refine⟨hix,_,_,_,h.g.shelf (by omega) hlt,hrs.ix ZQ (by omega) hlt2,_,_,_,_,_,hrs (q:Int) (by omega) hlt2,fun b1 hb1=>⟨_,Y4,_,fun _=>Y4,_,fun _=>Y4,fun g3=>KQ ?_,fun g3=>⟨⟨by omega,by omega⟩,Qs (by omega) ⟨by omega,fun c a b=>?_⟩⟩⟩⟩
     ·rintro⟨_,r⟩;have:=r.s (k:Int) (q:Int) (by omega) hlt (by omega) hlt2;unfold Qb at this;rw[decide_eq_true this.1,decide_eq_true this.2.1,decide_eq_true this.2.2] at g3;cases g3
     ·by_cases e:c=(q:Int)
      ·subst e;simp only[Bool.or_eq_false_iff,Bool.not_eq_false'] at g3;exact⟨Ot g3.1.1,Ot g3.1.2,Ot g3.2⟩
      ·exact hJ c a (by omega)
    ·have hge2:=Ou hge2;refine⟨⟨by omega,by omega⟩,Qs (by omega) ⟨by omega,fun j a b=>?_⟩⟩
     by_cases e:j=(k:Int)
     ·subst e;exact⟨g2,fun c a b=>hJ c a (by omega)⟩
     ·exact hI j a (by omega)
   ·have hge:=Ou hge;exact zkl ⟨wp,⟨hnow,hC,hT,fun j a b=>(hI j a (by omega)).1,fun j c a b c0 c1=>(hI j a (by omega)).2 c c0 c1⟩⟩
theorem XL{t:Int}(h:Xt bs w W m)(hl:W.tasks.length<=maxLen):PX bs Ya #[.agg (Qa W m).toArray,.int .i64 t] w (.bool (Zz W t)):=
 zd6 W.now m.cO W.cpus.length m.cC m.tO W.tasks.length m.tC m.gO W.groups.length m.gC t fun wr hx=>by
  have h:=(h.ext hx).less (cs:=[]) (by simp);intro x hx;have:=Xb;refine⟨⟨by omega,by omega⟩,_,Qi,fun g=>?_,_,fun g=>?_,rfl⟩
  ·have:=Qm.1 g;exact h.t.ix Qy (by omega) (by omega)
  ·have:=Qm.1 g;exact h.t.f (by omega) (by omega) (j:=0) rfl
end
structure EQ (base:Nat) (bs:List Nat) (w:Wo) (o:OA) (cap:Nat) (ps:List (ZF×MG)):Prop where
 own:K5 base w o cap ps
 nb:∀x∈QB o,x∉bs
 nm:∀i:Int,0<=i->i<(ps.length:Int)->∀x∈Qt (gi ps i).2,x∉bs
section
variable {base:Nat}{bs cs:List Nat}{w w':Wo}{o:OA}{cap:Nat}{ps:List (ZF×MG)}{b:Nat}
theorem EQ.lt(h:EQ base bs w o cap ps):(∀x∈QB o,base<=x/\x<w.heap.size)/\∀i:Int,0<=i->i<(ps.length:Int)->∀x∈Qt (gi ps i).2,base<=x/\x<w.heap.size:=⟨h.own.row.lt,fun i a b=>(h.own.each i a b).lt⟩
theorem EQ.ext(h:EQ base bs w o cap ps)(hx:Q0 cs w w')(h1:∀x∈QB o,x∉cs)(h2:∀i:Int,0<=i->i<(ps.length:Int)->∀x∈Qt (gi ps i).2,x∉cs):EQ base bs w' o cap ps:=
 ⟨⟨h.own.row.ext hx h1,fun i a b=>(h.own.each i a b).ext hx (h2 i a b),h.own.dj⟩,h.nb,h.nm⟩
theorem EQ.step(h:EQ base bs w o cap ps)(hx:Q0 bs w w'):EQ base bs w' o cap ps:=h.ext hx h.nb h.nm
theorem EQ.call0(h:EQ base bs w o cap ps)(hx:Q0 [] w w'):EQ base bs w' o cap ps:=h.ext hx (by simp) (by simp)
theorem EQ.add(h:EQ base bs w o cap ps)(hb:w.heap.size<=b):EQ base (bs++[b]) w o cap ps:=
 have key:∀x,x<w.heap.size->x∉bs->x∉bs++[b]:=fun x hl hx hm=>by
  rcases List.mem_append.1 hm with hm | hm
  ·exact hx hm
  ·have:x=b:=by simpa using hm
   omega
 ⟨h.own,fun x hx=>key x (h.lt.1 x hx).2 (h.nb x hx),fun i a c x hx=>key x (h.lt.2 i a c x hx).2 (h.nm i a c x hx)⟩
theorem EQ.put(h:EQ base bs w o cap ps)(hx:Q0 bs w w')(hb:w.heap.size<=b):EQ base (bs++[b]) w' o cap ps:=⟨(h.step hx).own,(h.add hb).nb,(h.add hb).nm⟩
theorem EQ.sub(h:EQ base bs w o cap ps)(hs:∀x∈cs,x∈bs):EQ base cs w o cap ps:=⟨h.own,fun x hx hm=>h.nb x hx (hs x hm),fun i a c x hx hm=>h.nm i a c x hx (hs x hm)⟩
theorem EQ.nil(base:Nat)(bs:List Nat)(w:Wo):EQ base bs w none 0 []:=⟨⟨.inl ⟨rfl,rfl,rfl⟩,fun i a b=>by simp at b; omega,fun i j a b=>by simp at b; omega⟩,by simp[QB],fun i a b=>by simp at b; omega⟩
theorem zwo{α:Type}[Inhabited α]{l:List α}{x:α}{i:Int}(h0:0<=i)(h1:i<(l.length:Int)):gi (l++[x]) i=gi l i:=by
 obtain⟨k,rfl⟩:=Int.eq_ofNat_of_zero_le h0;rw[J2 (by simp; omega),J2 (by omega),List.getElem_append_left]
theorem zt4{α:Type}[Inhabited α]{l:List α}{x:α}:gi (l++[x]) (l.length:Int)=x:=by
 rw[J2 (by simp)]; simp
theorem EQ.app1{p:ZF×MG}{t':TypeId}{fz:Nat×Nat}(h:EQ base bs w o cap ps)(hs:∀x∈bs,x<w.heap.size)(hbase:base<=w.heap.size)(hp:K6 base w p)(hpb:∀x∈Qt p.2,x∉bs)(hd:∀i:Int,0<=i->i<(ps.length:Int)->∀x∈Qt (gi ps i).2,x∉Qt p.2)(hb:w.heap[b]? = some (.cells (Pf p).toArray t' fz))(h1:Zi (Pf p)=true)(hl:ps.length<=1048576)(tr:TypeId)(cs:Array Bool) :
  ∃o' cap' w',(builtin .append #[QW,QW] tr cs #[.slice o ps.length cap,.slice (some ⟨b,0,none⟩) 1 1]).run Tryz.prog w=.ok (.value (.slice o' (ps++[p]).length cap')) w'/\Q9 bs w w'/\EQ base bs w' o' cap' (ps++[p])/\Q0 (QB o) w w':=by
 obtain⟨o2,c2,w2,hrun,hk,hO,hx⟩:=Ob.app1 X6 KA (⟨h.own.row,h.nb⟩:Ob Pf 14 QN base bs w o cap ps) hs hbase hb h1 hl (by decide) tr cs;have hlen:(ps++[p]).length=ps.length+1:=by simp
 have hcase:∀i:Int,0<=i->i<((ps++[p]).length:Int)->(i<(ps.length:Int)/\gi (ps++[p]) i=gi ps i)\/(i=(ps.length:Int)/\gi (ps++[p]) i=p):=fun i a b=>by
  by_cases e:i<(ps.length:Int)
  ·exact .inl ⟨e,zwo a e⟩
  ·have:i=(ps.length:Int):=by omega
   subst this;exact .inr ⟨rfl,zt4⟩
 refine⟨o2,c2,w2,hrun,hk,⟨⟨hO.own,fun i a b=>?_,fun i j a b c d e=>?_⟩,hO.nb,fun i a b=>?_⟩,hx⟩
 ·rcases hcase i a b with ⟨hi,hg⟩ | ⟨hi,hg⟩
  ·rw[hg]; exact(h.own.each i a hi).ext hx (J3 h.own.row (h.own.each i a hi))
  ·rw[hg]; exact hp.ext hx (J3 h.own.row hp)
 ·rcases hcase i a b with ⟨hi,hg⟩ | ⟨hi,hg⟩ <;> rcases hcase j c d with ⟨hj,hg'⟩ | ⟨hj,hg'⟩
  ·rw[hg,hg']; exact h.own.dj i j a hi c hj e
  ·rw[hg,hg']; exact hd i a hi
  ·rw[hg,hg']; exact fun x hx hm=>hd j c hj x hm hx
  ·omega
 ·rcases hcase i a b with ⟨hi,hg⟩ | ⟨hi,hg⟩
  ·rw[hg]; exact h.nm i a hi
  ·rw[hg]; exact hpb
end
theorem zy7(g:ZF)(m:MG):Zi (YF g m)=true:=rfl
theorem DK{W:Q8}(ha:WA W){k:Int}(k0:0<=k)(k1:k<8):(gi W.groups k).band.dry.length=(gi W.groups k).band.locals.length/\(gi W.groups k).band.locals.length<=4/\(gi W.groups k).shelves.length<=4:=by
 have hg:=ha.grp k k0 k1;have hc:=ha.c2
 cases hu:(gi W.groups k).used with
 | false=>
  have:=hg.1 hu;have hb:=zan this.b;have:=this.l;omega
 | true=>
  have:=hg.2 hu;have hl:=this.len
  by_cases hq:(gi W.groups k).band.quota=0
  ·have hb:=zan (this.none hq).1;omega
  ·have hb:=(this.band hq).1;have h1:=hb.dl;have h2:=hb.l2;omega
section
variable {W:Q8}{m:MW}{w:Wo}{bs:List Nat}
def zhs(W:Q8)(ms:Nat->MG)(k:Nat):List (ZF×MG):=(List.range k).map fun (j:Nat)=>(gi W.groups (j:Int),ms j)
theorem zjv(W:Q8)(ms:Nat->MG)(k:Nat):(zhs W ms k).length=k:=by simp[zhs]
theorem zpv(W:Q8)(ms:Nat->MG)(k:Nat)(p:MG):zhs W (fun j=>if j=k then p else ms j) (k+1)=zhs W ms k++[(gi W.groups (k:Int),p)]:=by
 unfold zhs;rw[List.range_succ,List.map_append]
 congr 1
 ·refine List.map_congr_left fun j hj=>?_
  have:=List.mem_range.1 hj;show (_,if j=k then p else ms j)=_;rw[if_neg (by omega)]
 ·simp
theorem OZ(h:Xt [] w W m)(ha:WA W) :
  Cz Js #[.agg (Qa W m).toArray] w fun e w'=>∃m',e=.returned (.agg (Qa W m').toArray)/\Yu 8 w.heap.size w' W m'/\Q0 [] w w':=by
 refine(zgu W.now m.cO W.cpus.length m.cC m.tO W.tasks.length m.tC m.gO W.groups.length m.gC (R:=fun v w'=>∃m',v=.agg (Qa W m').toArray/\Yu 8 w.heap.size w' W m'/\Q0 [] w w') ?_).mono fun e w' ⟨v,he,m',hv,h3⟩=>⟨m',by rw[he,hv],h3⟩
 have hcl:=ha.c2;have htl:=ha.t;have hgl:=ha.gl;intro x hx x1 hx1 x2 hx2;have s0:Sc w [x,x1,x2] w:=(((Sc.start w).add hx).add hx1).add hx2
 refine⟨fun vs w1=>∃(i:Nat) (cO:OA) (cC:Nat),vs=[.int .i64 (i:Int),.int .i64 W.now,.slice cO (W.cpus.take i).length cC,.slice none 0 0,.slice none 0 0]/\i<=W.cpus.length/\Sc w [x,x1,x2] w1/\Ob KN 5 ZB w.heap.size [x,x1,x2] w1 cO cC (W.cpus.take i),
  Zu W.cpus.length 0,fun wr hx _=>⟨0,none,0,by simp,Nat.zero_le _,s0.call0 hx,⟨.inl ⟨rfl,rfl,rfl⟩,by simp[QB]⟩⟩,?_⟩
 rintro c1 l l1O l1L l1C l2O l2L l2C l3O l3L l3C wv2 hs2 ⟨i,cO,cC,he,hi,s1,hC⟩;simp only[List.cons.injEq,Value.int.injEq,Value.slice.injEq,true_and,and_true] at he;obtain⟨rfl,rfl,⟨rfl,rfl,rfl⟩,⟨rfl,rfl,rfl⟩,rfl,rfl,rfl⟩:=he;refine⟨fun hlt=>?_,fun hge=>?_⟩
 ·have hlt:=Ot hlt;have hr:=h.c.scb s1;refine⟨hr.ix ZH (by omega) hlt,_,_,_,_,_,hr i (by omega) hlt,fun b4 hb4=>⟨rfl,fun wr3 hx3 hs3 hcell=>?_⟩⟩;have s2:=s1.put hx3 hb4;have hC2:=hC.put hx3 hb4;obtain⟨o2,c2,w2,hrun,hk2,hC3,hy2⟩:=hC2.app1 Gc Hl (x:=gi W.cpus (i:Int)) hs3 s2.ext.size hcell (zyj _) (by rw[List.length_take]; omega) (by decide) Ye #[false,false];rw[LV (by omega)] at hrun hC3;have s3:=s2.call hy2 fun y hm=>(hC2.own.lt y hm).1
  refine⟨_,_,_,w2,hrun,hk2,⟨by omega,by omega⟩,fun w5 hx5 _=>⟨⟨i+1,o2,c2,rfl,by omega,(s3.step hx5).sub (by simp),(hC3.step hx5).sub (by simp)⟩,?_⟩⟩;simp only[Zu,Jh,ZZ,List.getElem?_cons_zero]; omega
 have hge:=Ou hge;rw[show W.cpus.take i=W.cpus from List.take_of_length_le (by omega)] at hC ⊢
 refine⟨fun vs w1=>∃(i:Nat) (tO:OA) (tC:Nat),vs=[.int .i64 (i:Int),.int .i64 W.now,.slice l1O W.cpus.length l1C,.slice tO (W.tasks.take i).length tC,.slice none 0 0]/\i<=W.tasks.length/\Sc w [x,x1,x2] w1/\Ob KN 5 ZB w.heap.size [x,x1,x2] w1 l1O l1C W.cpus/\Ob X7 9 QK w.heap.size [x,x1,x2] w1 tO tC (W.tasks.take i),
  Zu W.tasks.length 0,fun wr hx _=>⟨0,none,0,by simp,Nat.zero_le _,s1.step hx,hC.step hx,⟨.inl ⟨rfl,rfl,rfl⟩,by simp[QB]⟩⟩,?_⟩
 clear hC s1 hi hge hs2;rintro t1 l4 l5O l5L l5C l6O l6L l6C l7O l7L l7C wv6 hs6 ⟨i,tO,tC,he,hi,s1,hC,hT⟩;simp only[List.cons.injEq,Value.int.injEq,Value.slice.injEq,true_and,and_true] at he;obtain⟨rfl,rfl,⟨rfl,rfl,rfl⟩,⟨rfl,rfl,rfl⟩,rfl,rfl,rfl⟩:=he;refine⟨fun hlt=>?_,fun hge=>?_⟩
 ·have hlt:=Ot hlt;have hr:=h.t.scb s1;refine⟨hr.ix Qy (by omega) hlt,_,_,_,_,_,_,_,_,_,hr i (by omega) hlt,fun b4 hb4=>⟨rfl,fun wr3 hx3 hs3 hcell=>?_⟩⟩;have s2:=s1.put hx3 hb4;have hC2:=hC.put hx3 hb4;have hT2:=hT.put hx3 hb4;obtain⟨o2,c2,w2,hrun,hk2,hT3,hy2⟩:=hT2.app1 Pe LZ (x:=gi W.tasks (i:Int)) hs3 s2.ext.size hcell (zy8 _) (by rw[List.length_take]; omega) (by decide) Zj #[false,false];rw[LV (by omega)] at hrun hT3;have s3:=s2.call hy2 fun y hm=>(hT2.own.lt y hm).1
  have hC3:=hC2.call hy2 (hC2.own.ty_ne hT2.own (by decide));refine⟨_,_,_,w2,hrun,hk2,⟨by omega,by omega⟩,fun w5 hx5 _=>⟨⟨i+1,o2,c2,rfl,by omega,(s3.step hx5).sub (by simp),(hC3.step hx5).sub (by simp),(hT3.step hx5).sub (by simp)⟩,?_⟩⟩;simp only[Zu,Jh,ZZ,List.getElem?_cons_zero]; omega
 have hge:=Ou hge;rw[show W.tasks.take i=W.tasks from List.take_of_length_le (by omega)] at hT ⊢
 refine⟨fun vs w1=>∃(i:Nat) (gO:OA) (gC:Nat) (ms:Nat->MG),vs=[.int .i64 (i:Int),.int .i64 W.now,.slice l5O W.cpus.length l5C,.slice l6O W.tasks.length l6C,.slice gO (zhs W ms i).length gC]/\i<=W.groups.length/\Sc w [x,x1,x2] w1/\Ob KN 5 ZB w.heap.size [x,x1,x2] w1 l5O l5C W.cpus/\Ob X7 9 QK w.heap.size [x,x1,x2] w1 l6O l6C W.tasks/\EQ w.heap.size [x,x1,x2] w1 gO gC (zhs W ms i),
  Zu W.groups.length 0,fun wr hx _=>⟨0,none,0,fun _=>default,by simp[zhs],Nat.zero_le _,s1.step hx,hC.step hx,hT.step hx,EQ.nil _ _ _⟩,?_⟩
 clear hC hT s1 hi hge hs6;rintro k1 l22 l23O l23L l23C l24O l24L l24C l25O l25L l25C wv15 hs15 ⟨i,gO,gC,ms,he,hi,s1,hC,hT,hG⟩;simp only[List.cons.injEq,Value.int.injEq,Value.slice.injEq,true_and,and_true] at he;obtain⟨rfl,rfl,⟨rfl,rfl,rfl⟩,⟨rfl,rfl,rfl⟩,rfl,rfl,rfl⟩:=he;refine⟨fun hlt=>?_,fun hge=>?_⟩
 ·have hlt:=Ot hlt;have hr:=h.g.ext s1.ext;have hrb:KD [x,x1,x2] wv15 m.gO W.groups m.ms:=(h.g.wide (cs:=[x,x1,x2]) fun y hm=>.inr (s1.new y hm)).ext s1.ext.of_nil;have hix:=hrb.ix (i:=(i:Int)) (by omega) hlt;obtain⟨bl1,bl2,bl3⟩:=DK ha (k:=(i:Int)) (by omega) (by omega);refine⟨hix,_,_,_,_,_,_,_,_,_,_,_,_,_,_,_,_,_,_,_,_,hrb.cells (i:Int) (by omega) hlt,fun b11 hb11=>⟨hix,_,_,_,_,_,_,_,_,_,hrb.band (by omega) hlt,fun wr19 hx19 hs19=>?_⟩⟩;have s2:=s1.put hx19 hb11;have hC2:=hC.put hx19 hb11;have hT2:=hT.put hx19 hb11;have hG2:=hG.put hx19 hb11;have hr2:=h.g.ext s2.ext;refine Calls.mono (Ed (hr2.locals (i:Int) (by omega) hlt) (hr2.dry (i:Int) (by omega) hlt) bl1 (by omega)) ?_;rintro e wv16 ⟨p,he,hB,hy⟩;have s3:=s2.call0 hy;have hC3:=hC2.call0 hy;have hT3:=hT2.call0 hy;have hG3:=hG2.call0 hy;have hBn:∀y∈ZO p,wr19.heap.size<=y:=fun y hm=>(hB.lt y hm).1
  have hBb:∀y∈ZO p,y∉[x,x1,x2]++[b11]:=fun y hm hm'=>by
   have:=hBn y hm;have:=hs19 y hm';omega
  refine⟨_,_,_,_,_,_,_,_,_,he,Qe hy hs19,fun vs w1=>∃(c:Nat) (sO:OA) (sC:Nat),vs=[.int .i64 (c:Int),.bool (gi W.groups (i:Int)).used,.int .i64 (gi W.groups (i:Int)).parent,.string (gi W.groups (i:Int)).name,.int .i64 (gi W.groups (i:Int)).weight,.int .i64 (gi W.groups (i:Int)).cpus,.int .i64 (gi W.groups (i:Int)).period,.int .i64 (gi W.groups (i:Int)).next,.int .i64 (gi W.groups (i:Int)).sum,.int .i64 (gi W.groups (i:Int)).band.quota,.int .i64 (gi W.groups (i:Int)).band.pool,.int .i64 (gi W.groups (i:Int)).band.spent,.slice p.lO (gi W.groups (i:Int)).band.locals.length p.lC,.slice p.dO (gi W.groups (i:Int)).band.dry.length p.dC,.slice sO ((gi W.groups (i:Int)).shelves.take c).length sC]/\c<=(gi W.groups (i:Int)).shelves.length/\Sc w ([x,x1,x2]++[b11]) w1/\wr19.heap.size<=w1.heap.size/\Ob KN 5 ZB w.heap.size ([x,x1,x2]++[b11]) w1 l23O l23C W.cpus/\Ob X7 9 QK w.heap.size ([x,x1,x2]++[b11]) w1 l24O l24C W.tasks/\EQ w.heap.size ([x,x1,x2]++[b11]) w1 l25O l25C (zhs W ms i)/\QY wr19.heap.size w1 (gi W.groups (i:Int)).band p/\Ob MD 5 YE wr19.heap.size ([x,x1,x2]++[b11]) w1 sO sC ((gi W.groups (i:Int)).shelves.take c),
   Zu (gi W.groups (i:Int)).shelves.length 0,fun wr hx _=>⟨0,none,0,by simp,Nat.zero_le _,s3.step hx,Nat.le_trans hy.size hx.size,hC3.step hx,hT3.step hx,hG3.step hx,hB.ext hx hBb,⟨.inl ⟨rfl,rfl,rfl⟩,by simp[QB]⟩⟩,?_⟩
  have hsz:w.heap.size<=wr19.heap.size:=s2.ext.size;have hGlt:=hG2.lt;clear hB s3 hC3 hT3 hG3 hC2 hT2;rintro c4 l26 l27 l28 l29 l30 l31 l32 l33 l34 l35 l36 l37O l37L l37C l38O l38L l38C l39O l39L l39C wv17 hs17 ⟨c,sO,sC,he,hc,s4,hz4,hC4,hT4,hG4,hB4,hS4⟩;simp only[List.cons.injEq,Value.int.injEq,Value.slice.injEq,Value.bool.injEq,Value.string.injEq,true_and,and_true] at he;obtain⟨rfl,rfl,rfl,rfl,rfl,rfl,rfl,rfl,rfl,rfl,rfl,rfl,⟨rfl,rfl,rfl⟩,⟨rfl,rfl,rfl⟩,rfl,rfl,rfl⟩:=he;have hrb4:KD ([x,x1,x2]++[b11]) wv17 m.gO W.groups m.ms:=(h.g.wide (cs:=[x,x1,x2]++[b11]) fun y hm=>.inr (s4.new y hm)).ext s4.ext.of_nil;refine⟨hix,_,_,_,hrb4.shelf (by omega) hlt,fun hlt2=>?_,fun hge2=>?_⟩
  ·have hlt2:=Ot hlt2;have hrs:=hrb4.shelves (i:Int) (by omega) hlt;refine⟨hix,_,_,_,hrb4.shelf (by omega) hlt,hrs.ix ZQ (by omega) hlt2,_,_,_,_,_,hrs c (by omega) hlt2,fun b12 hb12=>⟨rfl,fun wr21 hx21 hs21 hcell=>?_⟩⟩;have s5:=s4.put hx21 hb12;have hS5:=hS4.put hx21 hb12;have hsz21:wr19.heap.size<=wr21.heap.size:=Nat.le_trans hz4 hx21.size;obtain⟨o2,c2,w2,hrun,hk2,hS6,hy2⟩:=hS5.app1 Tr KB (x:=gi (gi W.groups (i:Int)).shelves (c:Int)) hs21 hsz21 hcell (zyk _) (by rw[List.length_take]; omega) (by decide) ZE #[false,false];rw[LV (by omega)] at hrun hS6;have hG5:=hG4.put hx21 hb12;have hC5:=hC4.put hx21 hb12;have hT5:=hT4.put hx21 hb12;have hB5:=hB4.ext hx21 hBb;have s6:=s5.call hy2 fun y hm=>Nat.le_trans hsz (hS5.own.lt y hm).1
   have hC6:=hC5.call hy2 (hC5.own.ty_ne hS5.own (by decide));have hT6:=hT5.call hy2 (hT5.own.ty_ne hS5.own (by decide))
   have hG6:=hG5.ext hy2 (hG5.own.row.ty_ne hS5.own (by decide)) fun j a b y hm hm'=>by
    have:=(hGlt.2 j a b y hm).2;have:=(hS5.own.lt y hm').1;omega
   have hBb5:∀y∈ZO p,y∉[x,x1,x2]++[b11]++[b12]:=fun y hm hm'=>by
    rcases List.mem_append.1 hm' with h2 | h2
    ·exact hBb y hm h2
    ·have:y=b12:=by simpa using h2
     have:=(hB4.lt y hm).2;omega
   have hB6:=hB5.ext hy2 fun y hm=>by
    rcases List.mem_append.1 hm with hm | hm
    ·exact hB5.loc.ty_ne hS5.own (by decide) y hm
    ·exact hB5.dry.ty_ne hS5.own (by decide) y hm
   refine⟨_,_,_,w2,hrun,hk2,⟨by omega,by omega⟩,fun w5 hx5 _=>⟨⟨c+1,o2,c2,rfl,by omega,(s6.step hx5).sub (by simp),?_,(hC6.step hx5).sub (by simp),(hT6.step hx5).sub (by simp),(hG6.step hx5).sub (by simp),hB6.ext hx5 hBb5,(hS6.step hx5).sub (by simp)⟩,?_⟩⟩
   ·have:=hy2.size;have:=hx5.size;omega
   ·simp only[Zu,Jh,ZZ,List.getElem?_cons_zero]; omega
  ·have hge2:=Ou hge2;rw[show (gi W.groups (i:Int)).shelves.take c=(gi W.groups (i:Int)).shelves from List.take_of_length_le (by omega)] at hS4 ⊢;intro b13 hb13 wr23 hx23 hs23 hcell;have s5:=s4.put hx23 hb13;have hG5:=hG4.put hx23 hb13;have hC5:=hC4.put hx23 hb13;have hT5:=hT4.put hx23 hb13;have hB5:=hB4.ext hx23 hBb;have hS5:=hS4.put hx23 hb13
   have hlt17:∀y∈Qt ⟨p.lO,p.lC,p.dO,p.dC,l39O,l39C⟩,wr19.heap.size<=y/\y<wv17.heap.size:=fun y hm=>by
    simp only[Qt,List.mem_append] at hm;rcases hm with (hm | hm) | hm
    ·exact hB4.loc.lt y hm
    ·exact hB4.dry.lt y hm
    ·exact hS4.own.lt y hm
   obtain⟨o2,c2,w2,hrun,hk2,hG6,hy2⟩:=hG5.app1 (p:=(gi W.groups (i:Int),⟨p.lO,p.lC,p.dO,p.dC,l39O,l39C⟩)) hs23 s5.ext.size ⟨(hB5.mono hsz).loc,(hB5.mono hsz).dry,hS5.own.mono hsz⟩ (fun y hm hm'=>by
     have h1:=hlt17 y hm;rcases List.mem_append.1 hm' with h2 | h2
     ·have:=hs19 y h2; omega
     ·have:y=b13:=by simpa using h2
      omega) (fun j a b y hm hm'=>by
     have:=(hGlt.2 j a b y hm).2;have:=(hlt17 y hm').1;omega) hcell (zy7 _ _) (by rw[zjv]; omega) QW #[false,false]
   rw[<-zpv] at hrun hG6;have s6:=s5.call hy2 fun y hm=>(hG5.own.row.lt y hm).1
   have hC6:=hC5.call hy2 (hC5.own.ty_ne hG5.own.row (by decide));have hT6:=hT5.call hy2 (hT5.own.ty_ne hG5.own.row (by decide));refine⟨_,_,_,w2,hrun,hk2,⟨by omega,by omega⟩,fun w5 hx5 _=>⟨⟨i+1,o2,c2,_,rfl,by omega,(s6.step hx5).sub (by simp),(hC6.step hx5).sub (by simp),(hT6.step hx5).sub (by simp),(hG6.step hx5).sub (by simp)⟩,?_⟩⟩;simp only[Zu,Jh,ZZ,List.getElem?_cons_zero]; omega
 ·have hge:=Ou hge;have hi8:i=W.groups.length:=by omega
  subst hi8;refine fun w9 hx9=>⟨⟨l23O,l23C,l24O,l24C,l25O,l25C,ms⟩,?_,⟨(hC.step hx9).own,(hT.step hx9).own,(hG.step hx9).own,hgl⟩,(s1.step hx9).ext⟩
  rw[zjv];rfl
theorem Z5(h:Xt [] w W m)(hl:X5 W) :
  Cz QH #[.agg (Qa W m).toArray] w fun e w'=>(Qv W=false/\e=.returned (.tuple #[.agg (Qa K3 zu0).toArray,.int .i64 1])/\Q0 [] w w')\/(Qv W=true/\∃m',e=.returned (.tuple #[.agg (Qa W m').toArray,.int .i64 (if QG W=true then 0 else 10)])/\Yu 8 w.heap.size w' W m'/\Q0 [] w w'):=by
 refine(NH W.now m.cO W.cpus.length m.cC m.tO W.tasks.length m.tC m.gO W.groups.length m.gC (R:=fun v w'=>(Qv W=false/\v=.tuple #[.agg (Qa K3 zu0).toArray,.int .i64 1]/\Q0 [] w w')\/(Qv W=true/\∃m',v=.tuple #[.agg (Qa W m').toArray,.int .i64 (if QG W=true then 0 else 10)]/\Yu 8 w.heap.size w' W m'/\Q0 [] w w')) ?_).mono fun e w' ⟨v,he,h3⟩=>by
  rw[he];rcases h3 with ⟨a,hv,b⟩ | ⟨a,m',hv,b⟩
  ·exact .inl ⟨a,by rw[hv],b⟩
  ·exact .inr ⟨a,m',by rw[hv],b⟩
 intro x hx x1 hx1;refine⟨_,YJ h hl.c hl.t hl.g hl.f,fun g wr hx=>.inl ⟨by simpa using g,rfl,hx⟩,fun g wr1 hx2 hs1=>?_⟩;have hW:Qv W=true:=by simpa using g
 have wp:=Qh.1 hW;refine Calls.mono (OZ (h.ext hx2) wp.a) ?_;rintro e wv ⟨m',he,hM,hy⟩
 have hnb:∀y∈QL 8 m',y∉[x,x1]:=fun y hy hm=>by
  have:=(hM.lt y hy).1;have:=hs1 y hm;omega
 have hro:=MM (hM.rd hnb) hl;have hfin:∀w2,Q0 [x,x1] wv w2->Yu 8 w.heap.size w2 W m'/\Q0 [] w w2:=fun w2 h2=>⟨(hM.mono hx2.size).ext h2 hnb,(hx2.trans hy).fresh h2 fun y hm=>.inl (YC hx hx1 y hm)⟩
 refine⟨_,_,_,_,_,_,_,_,_,_,he,Qe hy hs1,_,hro,fun g2 w2 h2=>.inr ⟨hW,m',?_,hfin w2 h2⟩,fun g2 w2 h2=>.inr ⟨hW,m',?_,hfin w2 h2⟩⟩
 ·have:¬QG W=true:=fun hr=>by
   rw[show JJ (YW W/\H3 W)=true from Qh.2 ⟨wp,Qh.1 hr⟩] at g2;cases g2
  rw[if_neg this]; rfl
 ·have hd:JJ (YW W/\H3 W)=true:=by simpa using g2
  have:QG W=true:=Qh.2 (Qh.1 hd).2;rw[if_pos this]; rfl
end
structure Wk (n:Nat) (bs:List Nat) (w0 w:Wo) (W:Q8) (m:MW):Prop where
 s:Sc w0 bs w
 o:OW n w0.heap.size bs w W m
section
variable {n:Nat}{bs cs:List Nat}{w0 w w':Wo}{W W':Q8}{m m':MW}{b:Nat}
theorem Wk.step(h:Wk n bs w0 w W m)(hx:Q0 bs w w'):Wk n bs w0 w' W m:=⟨h.s.step hx,h.o.step hx⟩
theorem Wk.call0(h:Wk n bs w0 w W m)(hx:Q0 [] w w'):Wk n bs w0 w' W m:=⟨h.s.call0 hx,h.o.call0 hx⟩
theorem Wk.add(h:Wk n bs w0 w W m)(hb:w.heap.size<=b):Wk n (bs++[b]) w0 w W m:=⟨h.s.add hb,h.o.add hb⟩
theorem Wk.sub(h:Wk n bs w0 w W m)(hs:∀x∈cs,x∈bs):Wk n cs w0 w W m:=⟨h.s.sub hs,h.o.sub hs⟩
theorem Wk.rd(h:Wk n bs w0 w W m):Xt bs w W m:=h.o.rd
theorem Wk.own(h:Wk n bs w0 w W m):Yu n w0.heap.size w W m:=h.o.own
theorem Wk.nb(h:Wk n bs w0 w W m):∀x∈QL n m,x∉bs:=h.o.nb
theorem Wk.base(h:Wk n bs w0 w W m):w0.heap.size<=w.heap.size:=h.s.ext.size
theorem Wk.deed(h:Wk n bs w0 w W m)(k:Mv n w0.heap.size [] w m w' W' m')(hs:∀x∈bs,x<w.heap.size):Wk n bs w0 w' W' m':=
 ⟨h.s.call k.ext fun x hx=>(h.o.own.lt x hx).1,⟨k.own,fun x hx hm=>by
  rcases k.sub x hx with h1 | h1
  ·exact h.o.nb x h1 hm
  ·have:=hs x hm;omega⟩⟩
theorem Wk.kept(h:Wk n bs w0 w W m)(k:Mv n w0.heap.size [] w m w' W' m')(hs:∀x∈bs,x<w.heap.size):Q9 bs w w':=fun x hm=>k.ext.block x (hs x hm) fun hm'=>h.o.nb x hm' hm
theorem Wk.sto(h:Wk n bs w0 w W m)(k:Yu n w0.heap.size w' W' m)(hx:Q0 (QL n m) w w'):Wk n bs w0 w' W' m:=⟨h.s.call hx fun x hx=>(h.o.own.lt x hx).1,⟨k,h.o.nb⟩⟩
theorem Wk.fin(h:Wk n bs w0 w W m):Yu n w0.heap.size w W m/\Q0 [] w0 w:=⟨h.o.own,h.s.ext⟩
end
def QE(r:Q8×Int)(w:Wo)(v:Va)(w':Wo):Prop:=∃n m',v=.tuple #[.agg (Qa r.1 m').toArray,.int .i64 r.2]/\Yu n w.heap.size w' r.1 m'/\Q0 [] w w'
theorem Yu.zero(base:Nat)(w:Wo):Yu 0 base w K3 zu0:=⟨.inl ⟨rfl,rfl,rfl⟩,.inl ⟨rfl,rfl,rfl⟩,⟨.inl ⟨rfl,rfl,rfl⟩,fun i a b=>by simp[zpw,K3] at b; omega,fun i j a b=>by simp[zpw,K3] at b; omega⟩,rfl⟩
section
variable {W W':Q8}{m:MW}{w:Wo}{bar:Int}
theorem QE.bad{w':Wo}(hW:Qv W=false)(hx:Q0 [] w w'):QE (Xc W bar W') w (.tuple #[.agg (Qa K3 zu0).toArray,.int .i64 1]) w':=by
 rw[zto hW];exact⟨0,zu0,rfl,Yu.zero _ _,hx⟩
theorem QE.no{n:Nat}{bs:List Nat}{w':Wo}{m':MW}(hW:Qv W=true)(hb:bar≠0)(hk:Wk n bs w w' W m'){c:Int}(hc:bar=c):QE (Xc W bar W') w (.tuple #[.agg (Qa W m').toArray,.int .i64 c]) w':=by
 rw[ztp hW hb,hc];exact⟨n,m',rfl,hk.fin⟩
theorem QE.ok{n:Nat}{bs:List Nat}{w':Wo}{m':MW}(hW:Qv W=true)(hb:bar=0)(hk:Wk n bs w w' W' m'):QE (Xc W bar W') w (.tuple #[.agg (Qa W' m').toArray,.int .i64 0]) w':=by
 rw[zwc hW hb];exact⟨n,m',rfl,hk.fin⟩
theorem Wk.begin{x x1:Nat}{wr wv:Wo}{m':MW}(hx:w.heap.size<=x)(hx1:w.heap.size<=x1)(hx2:Q0 [] w wr)(hs:∀y∈[x,x1],y<wr.heap.size)(hM:Yu 8 wr.heap.size wv W m')(hy:Q0 [] wr wv):Wk 8 [x,x1] w wv W m':=
 ⟨⟨hx2.trans hy,YC hx hx1⟩,(OW.of hM hs).mono hx2.size⟩
theorem FM{t:Int}(h:Xt [] w W m)(hl:X5 W) :
  Cz VT #[.agg (Qa W m).toArray,.int .i64 t] w fun e w'=>∃v,e=.returned v/\QE (Xc W (Tp W t) (zkw W t)) w v w':=by
 refine Fq W.now m.cO W.cpus.length m.cC m.tO W.tasks.length m.tC m.gO W.groups.length m.gC t (R:=fun v w'=>QE (Xc W (Tp W t) (zkw W t)) w v w') ?_;intro x hx x1 hx1 wr hx2 hs2;refine Calls.mono (Z5 (h.ext hx2) hl) ?_;rintro e wv (⟨hW,he,hy⟩ | ⟨hW,m',he,hM,hy⟩)
 ·exact⟨_,_,_,_,_,_,_,_,_,_,_,he,Qe hy hs2,fun _ wr1 hx3=>QE.bad hW ((hx2.trans hy).fresh hx3 fun y hm=>.inl (YC hx hx1 y hm)),fun g=>by simp at g⟩
 have hK:=Wk.begin hx hx1 hx2 hs2 hM hy;have hr:=hK.rd;refine⟨_,_,_,_,_,_,_,_,_,_,_,he,Qe hy hs2,fun g=>by split at g <;> simp at g,fun _=>⟨_,XL hr hl.t,fun g wr2 hx3=>?_,fun g=>?_⟩⟩
 ·have g:Zz W t=false:=by simpa using g
  have hb:Tp W t=2:=by unfold Tp; rw[if_pos g]
  exact QE.no hW (by rw[hb]; decide) (hK.step hx3) hb
 have g:Zz W t=true:=by simpa using g
 obtain⟨t0,t1,tn⟩:=Yc g;have hix:=hr.t.ix Qy t0 t1;refine⟨hix,_,hr.t.f t0 t1 (j:=0) rfl,fun g2 wr3 hx3=>?_,fun g2=>⟨fun g3 wr4 hx3=>?_,fun g3=>?_⟩⟩
 ·have g2:(Q7 W t).state≠1:=by simpa[Q7] using g2
  have hb:Tp W t=6:=by unfold Tp; rw[if_neg (by rw[g]; decide),if_pos g2]
  exact QE.no hW (by rw[hb]; decide) (hK.step hx3) hb
 ·have g2:¬(Q7 W t).state≠1:=by simpa[Q7] using g2
  have hr0:¬QG W=true:=fun hr=>by rw[if_pos hr] at g3; simp at g3
  have hb:Tp W t=10:=by unfold Tp; rw[if_neg (by rw[g]; decide),if_neg g2,if_pos (by simpa using hr0)]
  rw[if_neg hr0];exact QE.no hW (by rw[hb]; decide) (hK.step hx3) hb
 ·have g2:¬(Q7 W t).state≠1:=by simpa[Q7] using g2
  have hr0:QG W=true:=Decidable.byContradiction fun hr=>by rw[if_neg hr] at g3; simp at g3
  have hb:Tp W t=0:=by unfold Tp; rw[if_neg (by rw[g]; decide),if_neg g2,if_neg (by rw[hr0]; decide)]
  obtain⟨_,_,sw,sw1⟩:=zij hW hb;have hset:Yu 8 w.heap.size _ (setTk W t { Q7 W t with state:=2 }) m':=hK.own.stoT t0 t1 (j:=0) (vs:=[.int .i64 2]) (x:={ Q7 W t with state:=2 }) rfl (by simp);refine⟨hix,zif hK.own hK.nb t0 t1 (by decide),fun wr5 hx5 hs5=>?_⟩;have hK5:=(hK.sto hset GX).step hx5;have hcall:=Qr hK5.own sw1 (by decide) (by decide) hK5.base;have e5:Qa (setTk W t { Q7 W t with state:=2 }) m'=Qa W m':=by simp[Qa,setTk]
  rw[e5] at hcall;refine Calls.mono hcall ?_;rintro e1 wv1 ⟨m1,he1,hy1⟩;exact⟨_,_,_,_,_,_,_,_,_,_,he1,hK5.kept hy1 hs5,fun wr6 hx6=>QE.ok hW hb ((hK5.deed hy1 hs5).step hx6)⟩
end
theorem zj7{α:Type}[Inhabited α]{l:List α}{i:Int}(h0:0<=i)(h1:i<(l.length:Int)):l.set i.toNat (gi l i)=l:=by
 obtain⟨k,rfl⟩:=Int.eq_ofNat_of_zero_le h0;rw[J2 (by omega),Int.toNat_natCast,List.set_getElem_self]
theorem zl7{W:Q8}{k:Int}(h0:0<=k)(h1:k<(W.groups.length:Int)):setBd W k (gi W.groups k).band=W:=by
 show setGr W k (gi W.groups k)=W;unfold setGr;rw[zj7 h0 h1]
section
variable {base:Nat}{W:Q8}{m:MW}{w:Wo}{k:Int}{b:JH}
end
def hB(v:Int):Bool:=decide (v<=Qq)
section
variable {W:Q8}{m:MW}{w:Wo}{bs:List Nat}{p:OA}
end
structure zv9 (base pb:Nat) (ex:List Nat) (w:Wo) (m:MW) (w':Wo) (W':Q8) (m':MW):Prop where
 own:Yu 8 base w' W' m'
 pt:w'.heap[pb]? = some (.cells (Qa W' m').toArray Q4 (0,0))
 ext:Q0 (ex++(pb::QL 8 m)) w w'
 sub:∀x∈QL 8 m',x∈QL 8 m\/w.heap.size<=x
section
variable {W W':Q8}{m:MW}{w:Wo}{bar:Int}
end
def Aq:Mw:=⟨0,0,0,0,0,0,0,0,0⟩
def QQ(W:Q8)(t:Int):Q8:=if (gi W.cpus (Q7 W t).cpu).cur=t then endW W (Q7 W t).cpu else W
noncomputable def OQ(W:Q8)(t:Int):Int:=if Zz W t=false then 2 else if QG W=false then 10 else 0
def CJ(W:Q8)(t:Int):Q8:=Qg (setTk (QQ W t) t Aq)
theorem zji{K:Int}{W:Q8}(h:SW K W){t:Int}(t0:0<=t)(t1:t<12)(n:(Q7 W t).state≠0):SW K (QQ W t):=by
 unfold QQ;split
 ·exact h.endW (h.t t t0 t1 n).2.1 (h.t t t0 t1 n).2.2
 ·exact h
theorem zgv{W:Q8}{t:Int}(hW:Qv W=true)(hb:OQ W t=0):Zz W t=true/\QG W=true/\SW Qq W/\SW Qq (setTk W t Aq)/\SW Qq (setTk (QQ W t) t Aq):=by
 have wp:=Qh.1 hW;unfold OQ at hb
 split at hb
 ·cases hb
 ·rename_i h1
  split at hb
  ·cases hb
  ·rename_i h3;have h1:Zz W t=true:=by simpa using h1
   have h3:QG W=true:=by simpa using h3
   have sw:=PK wp (Qh.1 h3);obtain⟨t0,t1,n⟩:=Yc h1;have hl:=wp.a.t;exact⟨h1,h3,sw,sw.setTk t0 (by omega) (fun h=>absurd rfl h) (by decide) (by decide),(zji sw t0 (by omega) n).setTk t0 (by omega) (fun h=>absurd rfl h) (by decide) (by decide)⟩
section
variable {W:Q8}{m:MW}{w:Wo}{bar:Int}
theorem NR{t:Int}(h:Xt [] w W m)(hl:X5 W) :
  Cz Tu #[.agg (Qa W m).toArray,.int .i64 t] w fun e w'=>∃v,e=.returned v/\QE (Xc W (OQ W t) (CJ W t)) w v w':=by
 refine Nz W.now m.cO W.cpus.length m.cC m.tO W.tasks.length m.tC m.gO W.groups.length m.gC t (R:=fun v w'=>QE (Xc W (OQ W t) (CJ W t)) w v w') ?_;intro x hx x1 hx1 wr hx2 hs2;refine Calls.mono (Z5 (h.ext hx2) hl) ?_;rintro e wv (⟨hW,he,hy⟩ | ⟨hW,m',he,hM,hy⟩)
 ·exact⟨_,_,_,_,_,_,_,_,_,_,_,he,Qe hy hs2,fun _ wr1 hx3=>QE.bad hW ((hx2.trans hy).fresh hx3 fun y hm=>.inl (YC hx hx1 y hm)),fun g=>by simp at g⟩
 have hK:=Wk.begin hx hx1 hx2 hs2 hM hy;have hr:=hK.rd;refine⟨_,_,_,_,_,_,_,_,_,_,_,he,Qe hy hs2,fun g=>by split at g <;> simp at g,fun _=>⟨_,XL hr hl.t,fun g wr2 hx3=>?_,fun g=>?_⟩⟩
 ·have g:Zz W t=false:=by simpa using g
  have hb:OQ W t=2:=by unfold OQ; rw[if_pos g]
  exact QE.no hW (by rw[hb]; decide) (hK.step hx3) hb
 have g:Zz W t=true:=by simpa using g
 obtain⟨t0,t1,tn⟩:=Yc g;have hix:=hr.t.ix Qy t0 t1;refine⟨fun g3 wr4 hx3=>?_,fun g3=>?_⟩
 ·have hr0:¬QG W=true:=fun hr=>by rw[if_pos hr] at g3; simp at g3
  have hb:OQ W t=10:=by unfold OQ; rw[if_neg (by rw[g]; decide),if_pos (by simpa using hr0)]
  rw[if_neg hr0];exact QE.no hW (by rw[hb]; decide) (hK.step hx3) hb
 have hr0:QG W=true:=Decidable.byContradiction fun hr=>by rw[if_neg hr] at g3; simp at g3
 have hb:OQ W t=0:=by unfold OQ; rw[if_neg (by rw[g]; decide),if_neg (by rw[hr0]; decide)]
 obtain⟨_,_,sw,sw1,sw2⟩:=zgv hW hb;obtain⟨_,c0,c1⟩:=sw.t t t0 (by have:=sw.a.t; omega) tn;have hset:Yu 8 w.heap.size (sto wv m'.tO (Int.toNat t*9) (X7 Aq)) (setTk W t Aq) m':=hK.own.stoT t0 t1 (j:=0) (vs:=X7 Aq) (x:=Aq) rfl (by decide);have hKs:=hK.sto hset GX;have e5:∀mm,Qa (setTk W t Aq) mm=Qa W mm:=fun mm=>by simp[Qa,setTk]
 refine⟨hix,_,hr.t.f t0 t1 (j:=2) rfl,hix,zif hK.own hK.nb t0 t1 (j:=0) (by decide),hr.c.ix ZH c0 c1,_,hKs.rd.c.f c0 c1 (j:=1) rfl,fun g4 wr5 hx5 hs5=>?_,fun g4 wr5 hx5 hs5=>?_⟩
 ·have g4:(gi (setTk W t Aq).cpus (Q7 W t).cpu).cur=t:=by simpa using g4
  have hE:CJ W t=Qg (endW (setTk W t Aq) (Q7 W t).cpu):=by unfold CJ QQ; rw[if_pos (show (gi W.cpus (Q7 W t).cpu).cur=t from g4)]; rfl
  rw[hE];have hK5:=hKs.step hx5;have hcall:=Zn hK5.own c0 c1;rw[e5] at hcall;refine Calls.mono hcall ?_;rintro e1 wv1 ⟨he1,hy1⟩;refine⟨_,_,_,_,_,_,_,_,_,_,he1,hK5.kept hy1 hs5,fun wr6 hx6 hs6=>?_⟩;have hK6:=(hK5.deed hy1 hs5).step hx6;refine Calls.mono (Qr hK6.own (sw1.endW c0 c1) (by decide) (by decide) hK6.base) ?_;rintro e2 wv2 ⟨m1,he2,hy2⟩;exact⟨_,_,_,_,_,_,_,_,_,_,he2,hK6.kept hy2 hs6,fun wr7 hx7=>QE.ok hW hb ((hK6.deed hy2 hs6).step hx7)⟩
 ·have g4:¬(gi (setTk W t Aq).cpus (Q7 W t).cpu).cur=t:=by simpa using g4
  have hE:CJ W t=Qg (setTk W t Aq):=by unfold CJ QQ; rw[if_neg (show ¬(gi W.cpus (Q7 W t).cpu).cur=t from g4)]
  rw[hE];have hK5:=hKs.step hx5;have hcall:=Qr hK5.own sw1 (by decide) (by decide) hK5.base;rw[e5] at hcall;refine Calls.mono hcall ?_;rintro e2 wv2 ⟨m1,he2,hy2⟩;exact⟨_,_,_,_,_,_,_,_,_,_,he2,hK5.kept hy2 hs5,fun wr7 hx7=>QE.ok hW hb ((hK5.deed hy2 hs5).step hx7)⟩
end
abbrev MS(W:Q8)(t n:Int):Int:=(Qb W (Q7 W t).group (Q7 W t).cpu).floor+Xh ((Q7 W t).v-(Qb W (Q7 W t).group (Q7 W t).cpu).floor) (Qc n)
def XZ(W:Q8)(t n:Int):Mw:={ Q7 W t with nice:=n,v:=if (Q7 W t).state=1 then MS W t n else (Q7 W t).v }
noncomputable def PC(W:Q8)(t n:Int):Int:=if Qc n=0 then 1 else OQ W t
def Hi(W:Q8)(t n:Int):Q8:=Qg (if (Q7 W t).state=1 then QQ (setTk W t (XZ W t n)) t else setTk W t (XZ W t n))
theorem znt{W:Q8}{t n:Int}(h:(Q7 W t).state=1):XZ W t n={ Q7 W t with nice:=n,v:=MS W t n }:=by unfold XZ; rw[if_pos h]
theorem zns{W:Q8}{t n:Int}(h:¬(Q7 W t).state=1):XZ W t n={ Q7 W t with nice:=n }:=by unfold XZ; rw[if_neg h]
theorem BB{W:Q8}{t:Int}{x:Mw}(t0:0<=t)(t1:t<(W.tasks.length:Int)):Q7 (setTk W t x) t=x:=by
 show gi (W.tasks.set t.toNat x) t=x;rw[QA _ _ t0 t1 t0,if_pos rfl]
theorem set_set{W:Q8}{t:Int}{x y:Mw}:setTk (setTk W t x) t y=setTk W t y:=by simp[setTk]
abbrev K1:Int:=Qq+Ql
structure zx1 (W:Q8) (t n:Int):Prop where
 th:Zz W t=true
 room:QG W=true
 sw:SW Qq W
 f:(Q7 W t).state=1->0<=(Qb W (Q7 W t).group (Q7 W t).cpu).floor/\(Qb W (Q7 W t).group (Q7 W t).cpu).floor<=Qq/\0<=MS W t n/\MS W t n<=K1
 s1:SW K1 (setTk W t (XZ W t n))
 s2:SW K1 (QQ (setTk W t (XZ W t n)) t)
theorem znu{W:Q8}{t n:Int}(hW:Qv W=true)(hb:PC W t n=0):zx1 W t n:=by
 have hw:¬Qc n=0:=fun h=>by unfold PC at hb; rw[if_pos h] at hb; cases hb
 have hb:OQ W t=0:=by unfold PC at hb; rwa[if_neg hw] at hb
 obtain⟨h1,h3,sw,_,_⟩:=zgv hW hb;obtain⟨t0,t1,tn⟩:=Yc h1;have hl:=sw.a.t;have hg:=sw.t t t0 (by omega) tn;have hv:=sw.tv t t0 (by omega);have hf:=sw.s _ _ hg.1 hg.2.1 hg.2.2;have lc:=ZW ((Q7 W t).v-(Qb W (Q7 W t).group (Q7 W t).cpu).floor) (Qc n);have lm:=ZT (Qc n);have f:0<=MS W t n/\MS W t n<=K1:=by unfold MS; simp only[K1,Ql]; omega
 have f1:0<=(XZ W t n).v/\(XZ W t n).v<=K1:=by
  unfold XZ
  dsimp only
  split
  ·exact f
  ·simp only[K1,Ql]; omega
 have s1:SW K1 (setTk W t (XZ W t n)):=(sw.mono (by decide)).setTk t0 (by omega) (fun _=>hg) f1.1 f1.2;exact⟨h1,h3,sw,fun _=>⟨hf.1,hf.2.1,f⟩,s1,zji s1 t0 (by omega) (by rw[BB t0 t1]; exact tn)⟩
section
variable {W:Q8}{m:MW}{w:Wo}{bar:Int}
theorem Hg{bs:List Nat}{t:Int}(h:Xt bs w W m)(t0:0<=t)(t1:t<(W.tasks.length:Int))(g0:0<=(Q7 W t).group)(g1:(Q7 W t).group<(W.groups.length:Int))(c0:0<=(Q7 W t).cpu)(c1:(Q7 W t).cpu<((gi W.groups (Q7 W t).group).shelves.length:Int))(hr:Qj .i64 ((Q7 W t).v-(Qb W (Q7 W t).group (Q7 W t).cpu).floor)) :
  PX bs VW #[.agg (Qa W m).toArray,.int .i64 t] w (.int .i64 (Xh ((Q7 W t).v-(Qb W (Q7 W t).group (Q7 W t).cpu).floor) (Qc (Q7 W t).nice))):=
 zd0 W.now m.cO W.cpus.length m.cC m.tO W.tasks.length m.tC m.gO W.groups.length m.gC t fun wr hx=>by
  have h:=(h.ext hx).less (cs:=[]) (by simp);intro b hb;exact⟨h.t.ix Qy t0 t1,_,_,_,_,_,_,_,_,_,h.t t t0 t1,fun b1 hb1=>⟨h.g.ix g0 g1,_,_,_,h.g.shelf g0 g1,(h.g.shelves _ g0 g1).ix ZQ c0 c1,_,(h.g.shelves _ g0 g1).f c0 c1 (j:=0) rfl,hr,_,Zh,_,Mq,rfl⟩⟩
theorem NT{t n:Int}(h:Xt [] w W m)(hl:X5 W) :
  Cz Tw #[.agg (Qa W m).toArray,.int .i64 t,.int .i64 n] w fun e w'=>∃v,e=.returned v/\QE (Xc W (PC W t n) (Hi W t n)) w v w':=by
 refine NC W.now m.cO W.cpus.length m.cC m.tO W.tasks.length m.tC m.gO W.groups.length m.gC t n (R:=fun v w'=>QE (Xc W (PC W t n) (Hi W t n)) w v w') ?_;intro x hx x1 hx1 wr hx2 hs2;refine Calls.mono (Z5 (h.ext hx2) hl) ?_;rintro e wv (⟨hW,he,hy⟩ | ⟨hW,m',he,hM,hy⟩)
 ·exact⟨_,_,_,_,_,_,_,_,_,_,_,he,Qe hy hs2,0,fun g=>by simp at g,fun _ wr1 hx3=>QE.bad hW ((hx2.trans hy).fresh hx3 fun y hm=>.inl (YC hx hx1 y hm)),fun g=>by simp at g⟩
 have hK:=Wk.begin hx hx1 hx2 hs2 hM hy;have hr:=hK.rd;have hc1:((if QG W=true then 0 else 10:Int)==1)=false:=by split <;> rfl
 refine⟨_,_,_,_,_,_,_,_,_,_,_,he,Qe hy hs2,_,fun _=>Zh (n:=n),fun g wr1 hx3=>?_,fun g0=>⟨_,XL hr hl.t,fun g wr2 hx3=>?_,fun g=>?_⟩⟩
 ·rw[hc1] at g;have g:Qc n=0:=by simpa using g
  have hb:PC W t n=1:=by unfold PC; rw[if_pos g]
  exact QE.no hW (by rw[hb]; decide) (hK.step hx3) hb
 ·rw[hc1] at g0;have g0:¬Qc n=0:=by simpa using g0
  have g:Zz W t=false:=by simpa using g
  have hb:PC W t n=2:=by unfold PC OQ; rw[if_neg g0,if_pos g]
  exact QE.no hW (by rw[hb]; decide) (hK.step hx3) hb
 rw[hc1] at g0;have gw:¬Qc n=0:=by simpa using g0
 have g:Zz W t=true:=by simpa using g
 obtain⟨t0,t1,tn⟩:=Yc g;have hix:=hr.t.ix Qy t0 t1;refine⟨fun g3 wr4 hx3=>?_,fun g3=>?_⟩
 ·have hr0:¬QG W=true:=fun hr=>by rw[if_pos hr] at g3; simp at g3
  have hb:PC W t n=10:=by unfold PC OQ; rw[if_neg gw,if_neg (by rw[g]; decide),if_pos (by simpa using hr0)]
  rw[if_neg hr0];exact QE.no hW (by rw[hb]; decide) (hK.step hx3) hb
 have hr0:QG W=true:=Decidable.byContradiction fun hr=>by rw[if_neg hr] at g3; simp at g3
 have hb:PC W t n=0:=by unfold PC OQ; rw[if_neg gw,if_neg (by rw[g]; decide),if_neg (by rw[hr0]; decide)]
 have hN:=znu hW hb;have sw:=hN.sw;have htl:=sw.a.t;obtain⟨hu,c0,c1⟩:=sw.t t t0 (by omega) tn;obtain⟨q0,q1,_⟩:=Q5.1 hu;have hsl:=sw.a.sl hu;have hK2:Wk 8 [x,x1] w (sto wv m'.tO (Int.toNat t*9) (X7 { Q7 W t with nice:=n })) (setTk W t { Q7 W t with nice:=n }) m':=hK.sto (hK.own.stoT t0 t1 (j:=0) (vs:=X7 { Q7 W t with nice:=n }) (x:={ Q7 W t with nice:=n }) rfl (by show 0+9<=9; decide)) GX;have e5:∀x mm,Qa (setTk W t x) mm=Qa W mm:=fun x mm=>by simp[Qa,setTk]
 refine⟨hix,_,_,_,_,_,_,_,_,_,hr.t t t0 t1,fun b2 hb2=>⟨hix,zif hK.own hK.nb t0 t1 (j:=0) (by decide),fun g4=>?_,fun g4 wr9 hx9 hs9=>?_⟩⟩
 ·have g4:(Q7 W t).state=1:=by simpa[Q7] using g4
  have hT:=znt (n:=n) g4;obtain⟨f0,f1,v0,v1⟩:=hN.f g4;have hv:=sw.tv t t0 (by omega);have hh:Qq=50000000000000000:=rfl;have hk:K1=50000034686091440:=rfl;have hr2:=hK2.rd;have etk:Q7 (setTk W t { Q7 W t with nice:=n }) t={ Q7 W t with nice:=n }:=BB t0 t1;have t1':t<((setTk W t { Q7 W t with nice:=n }).tasks.length:Int):=by simpa[setTk] using t1
  have hlag:=Hg (t:=t) hr2 t0 t1' (by rw[etk]; exact q0) (by rw[etk]; exact q1) (by rw[etk]; exact c0) (by rw[etk]; show (Q7 W t).cpu<(((gi W.groups (Q7 W t).group).shelves.length:Nat):Int); omega) (by rw[etk]; exact⟨by show _<=(Q7 W t).v-(Qb W (Q7 W t).group (Q7 W t).cpu).floor; omega,by show (Q7 W t).v-(Qb W (Q7 W t).group (Q7 W t).cpu).floor<=_; omega⟩);rw[etk,e5] at hlag;have lc:=ZW ((Q7 W t).v-(Qb W (Q7 W t).group (Q7 W t).cpu).floor) (Qc n);have lm:=ZT (Qc n);have hset:Yu 8 w.heap.size (sto (sto wv m'.tO (Int.toNat t*9) (X7 { Q7 W t with nice:=n })) m'.tO (Int.toNat t*9) (X7 { Q7 W t with nice:=n,v:=MS W t n })) (setTk (setTk W t { Q7 W t with nice:=n }) t { Q7 W t with nice:=n,v:=MS W t n }) m':=hK2.own.stoT t0 t1' (j:=0) (vs:=X7 { Q7 W t with nice:=n,v:=MS W t n }) (x:={ Q7 W t with nice:=n,v:=MS W t n }) (by rw[show gi (setTk W t { Q7 W t with nice:=n }).tasks t={ Q7 W t with nice:=n } from etk]; rfl) (by show 0+9<=9; decide);rw[set_set,<-hT] at hset;have hK3:Wk 8 ([x,x1]++[b2]) w _ (setTk W t (XZ W t n)) m':=(hK.add hb2).sto hset (GX.trans GX)
  have hst:∀vs0 vs:List Va,X7 { Q7 W t with nice:=n }=vs0->X7 (XZ W t n)=vs->Wk 8 ([x,x1]++[b2]) w (sto (sto wv m'.tO (Int.toNat t*9) vs0) m'.tO (Int.toNat t*9) vs) (setTk W t (XZ W t n)) m':=fun vs0 vs h0 h1=>by
   subst h0;subst h1;rw[hT] at hK3 ⊢;exact hK3
  have sub3:∀y∈[x,x1],y∈[x,x1]++[b2]:=fun y hy=>List.mem_append_left _ hy
  have hK3':Wk 8 [x,x1] w _ (setTk W t (XZ W t n)) m':=hK3.sub sub3;have hflo:Q2 [x,x1] (sto wv m'.tO (Int.toNat t*9) (X7 { Q7 W t with nice:=n })) (m'.ms (Q7 W t).group.toNat).sO (Int.toNat (Q7 W t).cpu*5+0) [.int .i64 (Qb W (Q7 W t).group (Q7 W t).cpu).floor]:=(hr2.g.shelves _ q0 q1).f c0 (by show (Q7 W t).cpu<(((gi W.groups (Q7 W t).group).shelves.length:Nat):Int); omega) (j:=0) rfl;have ecp:(Q7 (setTk W t (XZ W t n)) t).cpu=(Q7 W t).cpu:=by rw[BB t0 t1]; rfl
  refine⟨hr.g.ix q0 q1,_,_,_,hr2.g.shelf q0 q1,(hr2.g.shelves _ q0 q1).ix ZQ c0 (by show (Q7 W t).cpu<(((gi W.groups (Q7 W t).group).shelves.length:Nat):Int); omega),(Qb W (Q7 W t).group (Q7 W t).cpu).floor,hflo,Xh ((Q7 W t).v-(Qb W (Q7 W t).group (Q7 W t).cpu).floor) (Qc n),hlag,⟨?_,?_⟩,hix,zif hK2.own hK2.nb t0 t1' (j:=0) (by decide),hr.c.ix ZH c0 c1,(gi W.cpus (Q7 W t).cpu).cur,?_,fun g5 wr4 hx4 hs4=>?_,fun g5 wr7 hx7 hs7=>?_⟩
  ·show _<=MS W t n; omega
  ·show MS W t n<=_; omega
  ·rw[hT] at hK3';exact hK3'.rd.c.f c0 c1 (j:=1) rfl
  ·have g5:(gi W.cpus (Q7 W t).cpu).cur=t:=by simpa using g5
   have hE:Hi W t n=Qg (endW (setTk W t (XZ W t n)) (Q7 W t).cpu):=by unfold Hi QQ; rw[if_pos g4,ecp,if_pos (show (gi (setTk W t (XZ W t n)).cpus (Q7 W t).cpu).cur=t from g5)]
   rw[hE];have hK5:=(hst _ _ (by rfl) (by rw[hT]; rfl)).step (hx4.mono sub3);have hcall:=Zn hK5.own c0 c1;rw[e5] at hcall;refine Calls.mono hcall ?_;rintro e1 wv1 ⟨he1,hy1⟩;refine⟨_,_,_,_,_,_,_,_,_,_,he1,hK5.kept hy1 hs4,fun wr6 hx6 hs6=>?_⟩;have hK6:=(hK5.deed hy1 hs4).step hx6;refine Calls.mono (Qr hK6.own (hN.s1.endW c0 c1) (by decide) (by decide) hK6.base) ?_;rintro e2 wv2 ⟨m1,he2,hy2⟩;exact⟨_,_,_,_,_,_,_,_,_,_,he2,hK6.kept hy2 hs6,fun wr7 hx7=>QE.ok hW hb ((hK6.deed hy2 hs6).step hx7)⟩
  ·have g5:¬(gi W.cpus (Q7 W t).cpu).cur=t:=by simpa using g5
   have hE:Hi W t n=Qg (setTk W t (XZ W t n)):=by unfold Hi QQ; rw[if_pos g4,ecp,if_neg (show ¬(gi (setTk W t (XZ W t n)).cpus (Q7 W t).cpu).cur=t from g5)]
   rw[hE];have hK5:=(hst _ _ (by rfl) (by rw[hT]; rfl)).step (hx7.mono sub3);have hcall:=Qr hK5.own hN.s1 (by decide) (by decide) hK5.base;rw[e5] at hcall;refine Calls.mono hcall ?_;rintro e2 wv2 ⟨m1,he2,hy2⟩;exact⟨_,_,_,_,_,_,_,_,_,_,he2,hK5.kept hy2 hs7,fun wr7 hx7=>QE.ok hW hb ((hK5.deed hy2 hs7).step hx7)⟩
 ·have g4:¬(Q7 W t).state=1:=by simpa[Q7] using g4
  have hE:Hi W t n=Qg (setTk W t (XZ W t n)):=by unfold Hi; rw[if_neg g4]
  have hs1:=hN.s1;rw[hE,zns g4];rw[zns g4] at hs1;have hK3:Wk 8 ([x,x1]++[b2]) w _ (setTk W t { Q7 W t with nice:=n }) m':=(hK.add hb2).sto hK2.own GX;have hK5:=hK3.step (hx9.mono fun y hy=>List.mem_append_left _ hy);have hcall:=Qr hK5.own hs1 (by decide) (by decide) hK5.base;rw[e5] at hcall;refine Calls.mono hcall ?_;rintro e2 wv2 ⟨m1,he2,hy2⟩;exact⟨_,_,_,_,_,_,_,_,_,_,he2,hK5.kept hy2 hs9,fun wr7 hx7=>QE.ok hW hb ((hK5.deed hy2 hs9).step hx7)⟩
end
noncomputable def Mk(W:Q8)(g:Int)(ok:Bool):Int:=if ok=false\/g=0 then 1 else if Q6 W.groups g=false then 2 else if QG W=false then 10 else 0
theorem zg1{W:Q8}{g:Int}{ok:Bool}(h:Mk W g ok=0):ok=true/\g≠0/\Q6 W.groups g=true/\QG W=true:=by
 unfold Mk at h
 split at h
 ·cases h
 ·rename_i h1
  split at h
  ·cases h
  ·rename_i h2
   split at h
   ·cases h
   ·rename_i h3;exact⟨by cases ok <;> simp_all,fun e=>h1 (.inr e),by simpa using h2,by simpa using h3⟩
def zvs:JH:=⟨0,0,0,[],[]⟩
def XY(q:Int)(n:Nat):JH:=⟨q,q,0,List.replicate n 0,List.replicate n false⟩
def Hj(q p:Int):Bool:=q==0&&p==0
def ze0(q p:Int):Bool:=Hj q p||(Yh q 1 10000&&Yh p 1 1000)
def Mr(W:Q8)(g q p:Int):ZF:=if Hj q p=true then { gi W.groups g with period:=0,next:=0,band:=zvs } else { gi W.groups g with period:=p,next:=W.now+p,band:=XY q W.cpus.length }
noncomputable def zlk(W:Q8)(g q p:Int):Int:=Mk W g (ze0 q p)
def zw5(W:Q8)(g q p:Int):Q8:=Qg (setGr W g (Mr W g q p))
theorem Bv(n:Nat):∀k:Nat,k<=n->Xl (List.replicate n (0:Int)) k=0
 | 0,_=>rfl
 | k+1,hk=>by
  simp only[Xl];rw[Bv n k (by omega),OC _ _ (by omega) (by omega)]; rfl
theorem ze5{q:Int}{n:Nat}(q1:1<=q)(q2:q<=10000)(n1:1<=n)(n2:n<=4):Tc (XY q n):=by
 refine⟨q1,q2,by simpa[XY] using n1,by simpa[XY] using n2,by simp[XY],by simp only[XY]; omega,Int.le_refl _,by simp[XY],by simp only[XY]; omega,fun c c0 c1=>?_,?_⟩
 ·simp only[XY,List.length_replicate] at c1 ⊢;rw[OC _ _ c0 c1,OC _ _ c0 c1];exact⟨Int.le_refl _,by omega,fun h=>by cases h⟩
 ·simp only[XY,List.length_replicate];rw[Bv n n (Nat.le_refl _)]; omega
theorem zg9{W:Q8}{g q p:Int}:(Mr W g q p).used=(gi W.groups g).used/\(Mr W g q p).parent=(gi W.groups g).parent/\(Mr W g q p).name=(gi W.groups g).name/\(Mr W g q p).shelves=(gi W.groups g).shelves/\(Mr W g q p).weight=(gi W.groups g).weight/\(Mr W g q p).cpus=(gi W.groups g).cpus/\(Mr W g q p).sum=(gi W.groups g).sum:=by
 unfold Mr; split <;> exact⟨rfl,rfl,rfl,rfl,rfl,rfl,rfl⟩
theorem SW.setGr{K:Int}{W:Q8}(h:SW K W){g:Int}{x:ZF}(hu:Q6 W.groups g=true)(u:x.used=(gi W.groups g).used)(p:x.parent=(gi W.groups g).parent)(n:x.name=(gi W.groups g).name)(s:x.shelves=(gi W.groups g).shelves)(hx:zkp W g x):SW K (setGr W g x):=by
 obtain⟨u0,u1,ut⟩:=Q5.1 hu;have hl:=h.a.gl;have hT:=Jw (x:=x) u0 u1 u p n
 have es:∀k c:Int,0<=k->Qb (YtclpmgfpjeaibaaGreat.setGr W g x) k c=Qb W k c:=fun k c k0=>by
  unfold Qb;rw[Yt u0 u1 k0];split
  ·rename_i e; subst e; rw[s]
  ·rfl
 refine⟨h.a.set u0 (by omega) u p n (fun hn=>by rw[u,ut] at hn; cases hn) fun _=>hx,fun t a b n=>by rw[hT.usd]; exact h.t t a b n,h.tv,fun k c uk a b=>?_,h.cu⟩;rw[hT.usd] at uk;rw[es k c (Q5.1 uk).1];exact h.s k c uk a b
theorem zrr{W:Q8}{g q p:Int}(hW:Qv W=true)(hb:zlk W g q p=0):Q6 W.groups g=true/\g≠0/\ze0 q p=true/\QG W=true/\SW Qq W/\SW Qq (setGr W g (Mr W g q p)):=by
 obtain⟨h1,h2,h3,h4⟩:=zg1 hb;have wp:=Qh.1 hW;have sw:=PK wp (Qh.1 h4);obtain⟨u0,u1,hg⟩:=wp.a.u h3;have hl:=zg9 (W:=W) (g:=g) (q:=q) (p:=p);have hc1:=wp.a.c1;have hc2:=wp.a.c2;refine⟨h3,h2,h1,h4,sw,sw.setGr h3 hl.1 hl.2.1 hl.2.2.1 hl.2.2.2.1 ⟨by rw[hl.2.2.2.2.1]; exact hg.w1,by rw[hl.2.2.2.2.1]; exact hg.w2,by rw[hl.2.2.2.2.2.1]; exact hg.m,by rw[hl.2.2.2.2.2.1]; exact hg.m0,by rw[hl.2.2.2.2.2.2]; exact hg.s,by rw[hl.2.2.2.1]; exact hg.len,fun h=>absurd h h2,fun hq=>?_,fun hq=>?_⟩⟩
 ·unfold Mr at hq ⊢;split
  ·exact⟨show TN zvs=true by decide,rfl,rfl⟩
  ·rename_i hn;rw[if_neg hn] at hq;unfold ze0 at h1;rw[show Hj q p=false by simpa using hn,Bool.false_or,Bool.and_eq_true] at h1;have:=Qm.1 h1.1;have:q=0:=hq;omega
 ·unfold Mr at hq ⊢;split
  ·rename_i hn;rw[if_pos hn] at hq;exact absurd rfl hq
  ·rename_i hn;unfold ze0 at h1;rw[show Hj q p=false by simpa using hn,Bool.false_or,Bool.and_eq_true] at h1;have h5:=Qm.1 h1.1;have h6:=Qm.1 h1.2;exact⟨ze5 h5.1 h5.2 hc1 hc2,by simp[XY],h6.1,h6.2,by show W.now<W.now+p; omega,by show W.now+p-W.now<=p; omega⟩
theorem znk{W:Q8}{g q p:Int}(h:Hj q p=true):Mr W g q p={ gi W.groups g with period:=0,next:=0,band:=zvs }:=by unfold Mr; rw[if_pos h]
theorem zjj{W:Q8}{g q p:Int}(h:Hj q p=false):Mr W g q p={ gi W.groups g with period:=p,next:=W.now+p,band:=XY q W.cpus.length }:=by unfold Mr; rw[if_neg (by rw[h]; decide)]
def A3:MG:=⟨none,0,none,0,none,0⟩
theorem zu2(base:Nat)(w:Wo):QY base w zvs A3:=⟨.inl ⟨rfl,rfl,rfl⟩,.inl ⟨rfl,rfl,rfl⟩⟩
theorem zpm:∀x∈ZO A3,False:=fun x hx=>by simp[ZO,A3,QB] at hx
section
variable {W W':Q8}{m:MW}{w:Wo}{bar:Int}
theorem zxd{b:Nat}{bs:List Nat}{w w1 w2 w3:Wo}{q:Int}{n:Nat}(s:Sc w [b] w1)(h2:Q0 [b] (w1.alloc (.cells ((List.replicate n (0:Int)).flatMap Ji).toArray Qd)) w2)(hs1:∀y∈[b],y<w1.heap.size)(hs2:∀y∈[b],y<w2.heap.size)(h3:Q0 [b] (w2.alloc (.cells ((List.replicate n false).flatMap KM).toArray YD)) w3)(_:bs=[]) :
  QY w.heap.size w3 (XY q n) ⟨some ⟨w1.heap.size,0,none⟩,n,some ⟨w2.heap.size,0,none⟩,n,none,0⟩/\Q0 [] w w3:=by
 have hL0:Ob Ji 1 Qd w1.heap.size [b] _ (some ⟨w1.heap.size,0,none⟩) n (List.replicate n (0:Int)):=Ob.of (Oh (enc:=Ji) Y5.len Qd n (0:Int) w1) hs1;have s1:=(s.call0 (Zc w1 (.cells ((List.replicate n (0:Int)).flatMap Ji).toArray Qd))).step h2;have hL1:=((hL0.step h2).call0 (Zc w2 (.cells ((List.replicate n false).flatMap KM).toArray YD))).step h3;have hD0:Ob KM 1 YD w2.heap.size [b] _ (some ⟨w2.heap.size,0,none⟩) n (List.replicate n false):=Ob.of (Oh (enc:=KM) Xw.len YD n false w2) hs2;have hD1:=hD0.step h3;have s2:=(s1.call0 (Zc w2 (.cells ((List.replicate n false).flatMap KM).toArray YD))).step h3;exact⟨⟨hL1.own.mono s.ext.size,hD1.own.mono s1.ext.size⟩,s2.ext⟩
theorem zuz{b:Nat}{w w1 w2 w3:Wo}{q:Int}{n:Nat}(s:Sc w [b] w1)(h2:Q0 [b] (w1.alloc (.cells ((List.replicate n false).flatMap KM).toArray YD)) w2)(hs1:∀y∈[b],y<w1.heap.size)(hs2:∀y∈[b],y<w2.heap.size)(h3:Q0 [b] (w2.alloc (.cells ((List.replicate n (0:Int)).flatMap Ji).toArray Qd)) w3) :
  QY w.heap.size w3 (XY q n) ⟨some ⟨w2.heap.size,0,none⟩,n,some ⟨w1.heap.size,0,none⟩,n,none,0⟩/\Q0 [] w w3:=by
 have hL0:Ob KM 1 YD w1.heap.size [b] _ (some ⟨w1.heap.size,0,none⟩) n (List.replicate n false):=Ob.of (Oh (enc:=KM) Xw.len YD n false w1) hs1;have s1:=(s.call0 (Zc w1 (.cells ((List.replicate n false).flatMap KM).toArray YD))).step h2;have hL1:=((hL0.step h2).call0 (Zc w2 (.cells ((List.replicate n (0:Int)).flatMap Ji).toArray Qd))).step h3;have hD0:Ob Ji 1 Qd w2.heap.size [b] _ (some ⟨w2.heap.size,0,none⟩) n (List.replicate n (0:Int)):=Ob.of (Oh (enc:=Ji) Y5.len Qd n (0:Int) w2) hs2;have hD1:=hD0.step h3;have s2:=(s1.call0 (Zc w2 (.cells ((List.replicate n (0:Int)).flatMap Ji).toArray Qd))).step h3;exact⟨⟨hD1.own.mono s1.ext.size,hL1.own.mono s.ext.size⟩,s2.ext⟩
theorem Ls{q:Int}{n:Nat}(hq:Yh q 1 10000=true)(hn:Yh (n:Int) 1 4=true) :
  Cz Qz #[.int .i64 q,.int .i64 (n:Int)] w fun e w'=>∃p:MG,e=.returned (.tuple #[.agg (Z6 (XY q n) p).toArray,.bool true])/\QY w.heap.size w' (XY q n) p/\Q0 [] w w':=by
 refine(Cv q (n:Int) (R:=fun v w'=>∃p:MG,v=.tuple #[.agg (Z6 (XY q n) p).toArray,.bool true]/\QY w.heap.size w' (XY q n) p/\Q0 [] w w') ?_).mono fun e w' ⟨v,he,p,hv,h3⟩=>⟨p,by rw[he,hv],h3⟩
 have hm9:=Zl;have h4:=(Qm.1 hn).2;intro b hb;have s0:Sc w [b] w:=(Sc.start w).add hb;have k1:=Qi (n:=q) (a:=1) (b:=10000) (w:=w) (bs:=[]);have k2:=Qi (n:=(n:Int)) (a:=1) (b:=4) (w:=w) (bs:=[]);rw[hq] at k1;rw[hn] at k2;refine⟨true,k1,true,fun _=>k2,fun g=>by simp at g,fun _=>⟨fun wr1 hx1 hs1=>⟨_,_,_,_,LP Y5 PM n (by omega) (by omega) wr1,Qe (Zc _ _) hs1,fun wr2 hx2 hs2=>⟨_,_,_,_,LP Xw BD n (by omega) (by omega) wr2,Qe (Zc _ _) hs2,fun wr3 hx3=>?_⟩⟩,fun wr1 hx1 hs1=>⟨_,_,_,_,LP Xw BD n (by omega) (by omega) wr1,Qe (Zc _ _) hs1,fun wr2 hx2 hs2=>⟨_,_,_,_,LP Y5 PM n (by omega) (by omega) wr2,Qe (Zc _ _) hs2,fun wr3 hx3=>?_⟩⟩⟩⟩
 ·exact⟨_,by simp[Z6,XY],zxd (bs:=[]) (s0.call0 hx1) hx2 hs1 hs2 hx3 rfl⟩
 ·exact⟨_,by simp[Z6,XY],zuz (s0.call0 hx1) hx2 hs1 hs2 hx3⟩
theorem zxa{base:Nat}(h:Yu 8 base w W m){g:Int}(u0:0<=g)(u1:g<8){G:ZF}{p:MG}(hp:QY base w G.band p)(hb:∀x∈ZO p,x∉QL 8 m)(es:G.shelves=(gi W.groups g).shelves){j:Nat}{vs:List Va}(he:YF G (PG (m.ms g.toNat) p)=(YF (gi W.groups g) (m.ms g.toNat)).take j++vs++(YF (gi W.groups g) (m.ms g.toNat)).drop (j+vs.length))(hj:j+vs.length<=14) :
  Yu 8 base (sto w m.gO (Int.toNat g*14+j) vs) (setGr W g G) (P2 m g.toNat (PG (m.ms g.toNat) p)):=
 h.stoG u0 u1 (g:=G) (p:=PG (m.ms g.toNat) p) ⟨hp.loc,hp.dry,by rw[es]; exact(h.each u0 u1).shl⟩ (fun x hx=>by
  rcases TP x hx with h1 | h1
  ·exact .inl (hb x h1)
  ·exact .inr h1) he hj
theorem Wk.gr{bs:List Nat}{w0:Wo}(h:Wk 8 bs w0 w W m){g:Int}(u0:0<=g)(u1:g<8){G:ZF}{p:MG}(hp:QY w0.heap.size w G.band p)(hb:∀x∈ZO p,x∉QL 8 m/\x∉bs)(es:G.shelves=(gi W.groups g).shelves){j:Nat}{vs:List Va}(he:YF G (PG (m.ms g.toNat) p)=(YF (gi W.groups g) (m.ms g.toNat)).take j++vs++(YF (gi W.groups g) (m.ms g.toNat)).drop (j+vs.length))(hj:j+vs.length<=14) :
  Wk 8 bs w0 (YtclpmgfpjeaibaaGreat.sto w m.gO (Int.toNat g*14+j) vs) (setGr W g G) (P2 m g.toNat (PG (m.ms g.toNat) p)):=
 ⟨h.s.call Bu fun x hx=>(h.own.lt x hx).1,⟨zxa h.own u0 u1 hp (fun x hx=>(hb x hx).1) es he hj,fun x hx=>by
  rcases TQ x hx with h1 | h1
  ·exact h.nb x h1
  ·rcases TP x h1 with h2 | h2
   ·exact(hb x h2).2
   ·exact h.nb x (JX (by omega) h2)⟩⟩
theorem UV{g:Int}{ok:Bool}(h:Xt [] w W m)(hl:X5 W) :
  Cz X9 #[.agg (Qa W m).toArray,.int .i64 g,.bool ok] w fun e w'=>(Qv W=false/\e=.returned (.tuple #[.agg (Qa K3 zu0).toArray,.int .i64 1])/\Q0 [] w w')\/(Qv W=true/\∃m',e=.returned (.tuple #[.agg (Qa W m').toArray,.int .i64 (Mk W g ok)])/\Yu 8 w.heap.size w' W m'/\Q0 [] w w'):=by
 refine(NI W.now m.cO W.cpus.length m.cC m.tO W.tasks.length m.tC m.gO W.groups.length m.gC g ok (R:=fun v w'=>(Qv W=false/\v=.tuple #[.agg (Qa K3 zu0).toArray,.int .i64 1]/\Q0 [] w w')\/(Qv W=true/\∃m',v=.tuple #[.agg (Qa W m').toArray,.int .i64 (Mk W g ok)]/\Yu 8 w.heap.size w' W m'/\Q0 [] w w')) ?_).mono fun e w' ⟨v,he,h3⟩=>by
  rw[he];rcases h3 with ⟨a,b,c⟩ | ⟨a,m',b,c⟩
  ·exact .inl ⟨a,by rw[b],c⟩
  ·exact .inr ⟨a,m',by rw[b],c⟩
 intro x hx x1 hx1 wr hx2 hs2;refine Calls.mono (Z5 (h.ext hx2) hl) ?_;rintro e wv (⟨hW,he,hy⟩ | ⟨hW,m',he,hM,hy⟩)
 ·exact⟨_,_,_,_,_,_,_,_,_,_,_,he,Qe hy hs2,fun _ wr1 hx3=>.inl ⟨hW,rfl,(hx2.trans hy).fresh hx3 fun y hm=>.inl (YC hx hx1 y hm)⟩,fun g=>by simp at g⟩
 have hK:=Wk.begin hx hx1 hx2 hs2 hM hy;have hc1:((if QG W=true then 0 else 10:Int)==1)=false:=by split <;> rfl
 refine⟨_,_,_,_,_,_,_,_,_,_,_,he,Qe hy hs2,fun g1 wr1 hx3=>.inr ⟨hW,m',?_,(hK.step hx3).fin⟩,fun g1=>⟨_,X4 hK.rd.g,fun g2 wr2 hx3=>.inr ⟨hW,m',?_,(hK.step hx3).fin⟩,fun g2 wr3 hx3=>.inr ⟨hW,m',?_,(hK.step hx3).fin⟩⟩⟩
 ·have hb:Mk W g ok=1:=by
   unfold Mk;rw[if_pos];rw[hc1] at g1
   simpa using g1
  rw[hb]; rfl
 ·rw[hc1] at g1;have g1:¬(ok=false\/g=0):=by simpa using g1
  have hb:Mk W g ok=2:=by unfold Mk; rw[if_neg g1,if_pos (by simpa using g2)]
  rw[hb]; rfl
 ·rw[hc1] at g1;have g1:¬(ok=false\/g=0):=by simpa using g1
  have hb:Mk W g ok=if QG W=true then 0 else 10:=by
   unfold Mk; rw[if_neg g1,if_neg (by simpa using g2)]
   cases QG W <;> rfl
  rw[hb]; rfl
theorem E9{g q p:Int}(h:Xt [] w W m)(hl:X5 W) :
  Cz Vc #[.agg (Qa W m).toArray,.int .i64 g,.int .i64 q,.int .i64 p] w fun e w'=>∃v,e=.returned v/\QE (Xc W (zlk W g q p) (zw5 W g q p)) w v w':=by
 refine DQ W.now m.cO W.cpus.length m.cC m.tO W.tasks.length m.tC m.gO W.groups.length m.gC g q p (R:=fun v w'=>QE (Xc W (zlk W g q p) (zw5 W g q p)) w v w') ?_;intro x hx x1 hx1;refine⟨_,fun _=>Qi,_,fun _ _=>Qi,fun wr hx2 hs2=>?_⟩;refine Calls.mono (UV (g:=g) (ok:=ze0 q p) (h.ext hx2) hl) ?_;rintro e wv (⟨hW,he,hy⟩ | ⟨hW,m',he,hM,hy⟩)
 ·exact⟨_,_,_,_,_,_,_,_,_,_,_,he,Qe hy hs2,fun _ wr1 hx3=>QE.bad hW ((hx2.trans hy).fresh hx3 fun y hm=>.inl (YC hx hx1 y hm)),fun g=>by simp at g⟩
 have hK:=Wk.begin hx hx1 hx2 hs2 hM hy;refine⟨_,_,_,_,_,_,_,_,_,_,_,he,Qe hy hs2,fun g1 wr1 hx3=>QE.no hW (by simpa[zlk] using g1) (hK.step hx3) rfl,fun g1=>?_⟩;have hb:zlk W g q p=0:=by simpa[zlk] using g1
 have hr:=hK.rd;obtain⟨hu,hz,hok,hroom,sw,s1⟩:=zrr hW hb;obtain⟨u0,u1,_⟩:=Q5.1 hu;have hgl:=sw.a.gl;have hc1:=sw.a.c1;have hc2:=sw.a.c2;have hn1:=sw.a.n1;have hn2:=sw.a.n2;have hix:=hr.g.ix (i:=g) u0 u1;have e5:∀G mm,mm={ m' with ms:=mm.ms }->Qa (setGr W g G) mm=Qa W m':=fun G mm hm=>by rw[hm]; simp[Qa,setGr]
 have eb:Qa W m'=Qa W m':=rfl;refine⟨hix,_,_,_,_,_,_,_,_,_,_,_,_,_,_,_,_,_,_,_,_,hr.g.cells g u0 u1,fun b2 hb2=>⟨fun g2 wr2 hx3 hs3=>?_,fun g2=>?_⟩⟩
 ·have g2:Hj q p=false:=by unfold Hj; simpa only[Bool.not_eq_true'] using g2
  have hlm:Yh q 1 10000=true/\Yh p 1 1000=true:=by unfold ze0 at hok; rw[g2,Bool.false_or,Bool.and_eq_true] at hok; exact hok
  have hp:=Qm.1 hlm.2;have hK2:=(hK.add hb2).step (hx3.mono fun y hy=>List.mem_append_left _ hy);refine Calls.mono (Ls (n:=W.cpus.length) hlm.1 (Qm.2 ⟨by omega,by omega⟩)) ?_;rintro e1 wv1 ⟨pb,he1,hO,hy1⟩;refine⟨_,_,_,_,_,_,_,_,_,_,he1,Qe hy1 hs3,fun b3 hb3=>⟨⟨by omega,by omega⟩,hix,?_,fun wr3 hx4 hs4=>?_⟩⟩
  ·exact zee (hK2.call0 hy1).own (hK2.call0 hy1).nb u0 (by omega) (j:=0) (by decide)
  have hK3:=(hK2.call0 hy1).add hb3
  have hK4:=(hK3.gr u0 (by omega) (G:=Mr W g q p) (p:=pb) (j:=0) (vs:=YF (Mr W g q p) (PG (m'.ms g.toNat) pb)) (by rw[zjj g2]; exact hO.mono hK2.base) (fun y hy=>?_) zg9.2.2.2.1 (by simp[YF]) (by simp[YF])).step (w':=wr3) (by
   rw[zjj g2];exact hx4.mono fun y hy=>List.mem_append_left _ hy)
  ·have hcall:=Qr hK4.own s1 (by decide) (by decide) hK4.base;rw[e5 _ _ rfl] at hcall;refine Calls.mono hcall ?_;rintro e2 wv2 ⟨m2,he2,hy2⟩;exact⟨_,_,_,_,_,_,_,_,_,_,he2,hK4.kept hy2 hs4,fun wr4 hx5=>QE.ok hW hb ((hK4.deed hy2 hs4).step hx5)⟩
  ·have:=hO.lt y hy;refine⟨fun hm=>?_,fun hm=>?_⟩
   ·have:=(hK2.own.lt y hm).2; omega
   ·rcases List.mem_append.1 hm with h1 | h1
    ·have:=hs3 y h1; omega
    ·have:y=b3:=by simpa using h1
     omega
 ·have g2:Hj q p=true:=by unfold Hj; simpa only[Bool.not_eq_false'] using g2
  refine⟨hix,?_,fun wr3 hx4 hs4=>?_⟩
  ·exact zee hK.own hK.nb u0 (by omega) (j:=0) (by decide)
  have hK3:=hK.add hb2
  have hK4:=(hK3.gr u0 (by omega) (G:=Mr W g q p) (p:=A3) (j:=0) (vs:=YF (Mr W g q p) (PG (m'.ms g.toNat) A3)) (by rw[znk g2]; exact zu2 _ _) (fun y hy=>(zpm y hy).elim) zg9.2.2.2.1 (by simp[YF]) (by simp[YF])).step (w':=wr3) (by
   rw[znk g2];exact hx4.mono fun y hy=>List.mem_append_left _ hy)
  have hcall:=Qr hK4.own s1 (by decide) (by decide) hK4.base;rw[e5 _ _ rfl] at hcall;refine Calls.mono hcall ?_;rintro e2 wv2 ⟨m2,he2,hy2⟩;exact⟨_,_,_,_,_,_,_,_,_,_,he2,hK4.kept hy2 hs4,fun wr4 hx5=>QE.ok hW hb ((hK4.deed hy2 hs4).step hx5)⟩
theorem zv9.post{base pb:Nat}{ex:List Nat}{w w' w1:Wo}{W':Q8}{m m':MW}(h:zv9 base pb ex w m w' W' m')(hx:Q0 [] w' w1):zv9 base pb ex w m w1 W' m':=
 ⟨h.own.ext0 hx,Zd h.pt hx (by simp),h.ext.trans hx.of_nil,h.sub⟩
end
def FSx(W:Q8)(t:Int):Int:=Xh ((Q7 W t).v-(Qb W (Q7 W t).group (Q7 W t).cpu).floor) (Qc (Q7 W t).nice)
def Mt(W:Q8)(t g c:Int):Mw:={ Q7 W t with group:=g,cpu:=c,v:=(Qb W g c).floor+FSx W t }
def Vk(W:Q8)(t g c:Int):Q8:=if (Q7 W t).state=1 then endW (setTk W t (Mt W t g c)) c else setTk W t (Mt W t g c)
theorem zab(W:Q8)(t:Int):0<=FSx W t/\FSx W t<=Ql:=by
 have lc:=ZW ((Q7 W t).v-(Qb W (Q7 W t).group (Q7 W t).cpu).floor) (Qc (Q7 W t).nice);have lm:=ZT (Qc (Q7 W t).nice);unfold FSx;simp only[Ql];omega
theorem SF.setTk{F K:Int}{W:Q8}(h:SF F K W){t:Int}(t0:0<=t)(t1:t<12){x:Mw}(hx:x.state≠0->Q6 W.groups x.group=true/\0<=x.cpu/\x.cpu<(W.cpus.length:Int))(v0:0<=x.v)(v1:x.v<=K):SF F K (setTk W t x):=⟨h.w.setTk t0 t1 hx v0 v1,h.f⟩
theorem SF.endW{F K:Int}{W:Q8}(h:SF F K W){c:Int}(c0:0<=c)(c1:c<(W.cpus.length:Int)):SF F K (endW W c):=
 ⟨h.w.endW c0 c1,fun k d u a b=>h.f k d u a (by
  have b:d<(((W.cpus.set c.toNat (XK (gi W.cpus c))).length:Nat):Int):=b
  rwa[List.length_set] at b)⟩
theorem znz{F K:Int}{W:Q8}(h:SF F K W)(hk:F+Ql<=K){t g c:Int}(hg:Q6 W.groups g=true)(c0:0<=c)(c1:c<(W.cpus.length:Int)):0<=(Mt W t g c).v/\(Mt W t g c).v<=K:=by
 have hf:=h.f g c hg c0 c1;have hs:=h.w.s g c hg c0 c1;have hl:=zab W t;show 0<=(Qb W g c).floor+FSx W t/\(Qb W g c).floor+FSx W t<=K;omega
theorem AE{F K:Int}{W:Q8}(h:SF F K W)(hk:F+Ql<=K){t g c:Int}(t0:0<=t)(t1:t<12)(hg:Q6 W.groups g=true)(c0:0<=c)(c1:c<(W.cpus.length:Int)):SF F K (setTk W t (Mt W t g c))/\SF F K (Vk W t g c):=by
 have hv:=znz h hk (t:=t) hg c0 c1;have h1:=h.setTk t0 t1 (x:=Mt W t g c) (fun _=>⟨hg,c0,c1⟩) hv.1 hv.2;refine⟨h1,?_⟩;unfold Vk;split
 ·exact h1.endW c0 c1
 ·exact h1
theorem zsh(W:Q8)(t g c:Int):(Vk W t g c).now=W.now/\(Vk W t g c).cpus.length=W.cpus.length/\(Vk W t g c).tasks.length=W.tasks.length/\(Vk W t g c).groups=W.groups:=by
 unfold Vk;split
 ·exact⟨rfl,by simp[endW,setCp,setTk],by simp[endW,setCp,setTk],rfl⟩
 ·exact⟨rfl,rfl,by simp[setTk],rfl⟩
def GM(m:Int):Int:=if QP m 0=true then 0 else if QP m 1=true then 1 else if QP m 2=true then 2 else if QP m 3=true then 3 else -1
theorem zt3:∀a:Fin 16,a.val≠0->QP (a.val:Int) (GM (a.val:Int))=true:=by decide +kernel
theorem Ei{m:Int}(h:P0 m=true)(h0:m≠0):QP m (GM m)=true:=by
 obtain⟨f,rfl⟩:=M5 h;exact zt3 f fun e=>h0 (by rw[e]; rfl)
theorem zxh(gs:List ZF)(g u:Int):P0 (VB gs g u)=true:=by
 unfold VB;rw[List.foldl_append];exact AB _ _
theorem G5{W:Q8}(ha:WA W)(g mask:Int):P0 (Qp W g mask)=true/\Qp W g mask≠0:=by
 unfold Qp;split
 ·rename_i h; exact⟨AB _ _,h⟩
 ·split
  ·rename_i h;refine⟨?_,h⟩;exact zxh _ _ _
  ·exact⟨zvm ha.c2,ha.ups⟩
theorem Gv{W:Q8}(ha:WA W)(g mask:Int):0<=GM (Qp W g mask)/\GM (Qp W g mask)<(W.cpus.length:Int):=by
 have h:=G5 ha g mask;exact L9 ha (Ei h.1 h.2)
def LE(W:Q8)(t:Int):Bool:=((Q7 W t).state != 0) && !QP (Qp W (Q7 W t).group (Q7 W t).mask) (Q7 W t).cpu
def U0(W:Q8):Nat->Q8
 | 0=>W
 | t+1=>if LE (U0 W t) (t:Int)=true then Vk (U0 W t) (t:Int) (Q7 (U0 W t) (t:Int)).group (GM (Qp (U0 W t) (Q7 (U0 W t) (t:Int)).group (Q7 (U0 W t) (t:Int)).mask)) else U0 W t
def GT(W:Q8):Q8:=U0 W 12
structure BU (W W':Q8):Prop where
 n:W'.now=W.now
 c:W'.cpus.length=W.cpus.length
 t:W'.tasks.length=W.tasks.length
 g:W'.groups=W.groups
theorem BU.refl(W:Q8):BU W W:=⟨rfl,rfl,rfl,rfl⟩
theorem BU.trans{A B C:Q8}(h:BU A B)(k:BU B C):BU A C:=⟨k.n.trans h.n,k.c.trans h.c,k.t.trans h.t,k.g.trans h.g⟩
theorem BU.put(W:Q8)(t g c:Int):BU W (Vk W t g c):=by
 obtain⟨h1,h2,h3,h4⟩:=zsh W t g c;exact⟨h1,h2,h3,h4⟩
theorem zhw{F K:Int}{W:Q8}(h:SF F K W)(hk:F+Ql<=K):∀t:Nat,t<=12->SF F K (U0 W t)/\BU W (U0 W t)
 | 0,_=>⟨h,BU.refl _⟩
 | t+1,ht=>by
  obtain⟨a,b⟩:=zhw h hk t (by omega);simp only[U0];split
  ·rename_i hm;unfold LE at hm;simp only[Bool.and_eq_true,bne_iff_ne,ne_eq] at hm;have hg:=a.w.t (t:Int) (by omega) (by omega) hm.1;have hf:=Gv a.w.a (Q7 (U0 W t) (t:Int)).group (Q7 (U0 W t) (t:Int)).mask;exact⟨(AE a hk (by omega) (by omega) hg.1 hf.1 hf.2).2,b.trans (BU.put _ _ _ _)⟩
  ·exact⟨a,b⟩
theorem Gl{F K:Int}{W:Q8}(h:SF F K W)(hk:F+Ql<=K):SF F K (GT W)/\BU W (GT W):=zhw h hk 12 (Nat.le_refl _)
theorem zut{m:Int}{k:Nat}(h4:k<4)(hno:∀j:Nat,j<k->QP m (j:Int)=false)(h:QP m (k:Int)=true):GM m=(k:Int):=by
 have h0:=hno 0;have h1:=hno 1;have h2:=hno 2;have:k=0\/k=1\/k=2\/k=3:=by omega
 unfold GM;rcases this with rfl | rfl | rfl | rfl
 ·rw[if_pos (show QP m 0=true from h)]; rfl
 ·rw[if_neg (by rw[show QP m 0=false from h0 (by decide)]; decide),if_pos (show QP m 1=true from h)]; rfl
 ·rw[if_neg (by rw[show QP m 0=false from h0 (by decide)]; decide),if_neg (by rw[show QP m 1=false from h1 (by decide)]; decide),if_pos (show QP m 2=true from h)]; rfl
 ·rw[if_neg (by rw[show QP m 0=false from h0 (by decide)]; decide),if_neg (by rw[show QP m 1=false from h1 (by decide)]; decide),if_neg (by rw[show QP m 2=false from h2 (by decide)]; decide),if_pos (show QP m 3=true from h)]; rfl
theorem zuu{m:Int}(hno:∀j:Nat,j<4->QP m (j:Int)=false):GM m = -1:=by
 unfold GM;rw[if_neg (by rw[show QP m 0=false from hno 0 (by decide)]; decide),if_neg (by rw[show QP m 1=false from hno 1 (by decide)]; decide),if_neg (by rw[show QP m 2=false from hno 2 (by decide)]; decide),if_neg (by rw[show QP m 3=false from hno 3 (by decide)]; decide)]
section
variable {base:Nat}{W W':Q8}{m:MW}{w:Wo}{bar:Int}
theorem ML{x:Int}{bs:List Nat}:PX bs JA #[.int .i64 x] w (.int .i64 (GM x)):=
 Bf x fun wr hx=>by
  refine Xi 4 0 rfl (fun k=>k<=4/\∀j:Nat,j<k->QP x (j:Int)=false) ⟨by decide,fun j hj=>absurd hj (Nat.not_lt_zero j)⟩ fun k ⟨hk,hno⟩=>⟨fun hlt=>?_,fun hge=>?_⟩
  ·have hlt:=Ot hlt;refine⟨_,Zy,fun g=>?_,fun g=>⟨⟨by omega,by omega⟩,Qs (by omega) ⟨by omega,fun j hj=>?_⟩⟩⟩
   ·rw[zut (by omega) hno g]
   ·by_cases e:j=k
    ·rw[e]; exact g
    ·exact hno j (by omega)
  ·have hge:=Ou hge;have:k=4:=by omega
   subst this;rw[zuu hno]
theorem E1(W:Q8)(t:Int)(x:Mw)(m:MW):Qa (setTk W t x) m=Qa W m:=by simp[Qa,setTk]
theorem UE{F K:Int}(h:Yu 8 base w W m)(hsw:SF F K W)(hk:F+Ql<=K)(hK:K<=1000000000000000000){t g c:Int}(t0:0<=t)(t1:t<12)(hs:(Q7 W t).state≠0)(hg:Q6 W.groups g=true)(c0:0<=c)(c1:c<(W.cpus.length:Int)) :
  Cz Xd #[.agg (Qa W m).toArray,.int .i64 t,.int .i64 g,.int .i64 c] w fun e w'=>e=.returned (.agg (Qa W m).toArray)/\Mv 8 base [] w m w' (Vk W t g c) m:=by
 refine(zc3 W.now m.cO W.cpus.length m.cC m.tO W.tasks.length m.tC m.gO W.groups.length m.gC t g c (R:=fun v w'=>v=.agg (Qa W m).toArray/\Mv 8 base [] w m w' (Vk W t g c) m) ?_).mono fun e w' ⟨v,he,hv,h3⟩=>⟨by rw[he,hv],h3⟩
 intro y hy y1 hy1;obtain⟨g0,g1,_⟩:=Q5.1 hg;have htl:=hsw.w.a.t;have hgl:=hsw.w.a.gl;have hsl:=hsw.w.a.sl hg;have hl1:t<(W.tasks.length:Int):=by omega
 obtain⟨hu,d0,d1⟩:=hsw.w.t t t0 t1 hs;obtain⟨q0,q1,_⟩:=Q5.1 hu;have hql:=hsw.w.a.sl hu;have s1:=hsw.w.s g c hg c0 c1;have s2:=hsw.w.s _ _ hu d0 d1;have hv:=hsw.w.tv t t0 t1;have hlr:=zab W t;simp only[Ql] at hlr;have hM:=Mv.two h hy hy1;have hr:=(Mv.start h).rd;have hix:=hr.t.ix Qy t0 hl1;have hset:=h.stoT t0 hl1 (j:=0) (vs:=X7 (Mt W t g c)) (x:=Mt W t g c) (by simp[X7]) (by simp[X7]);have e5:Qa (setTk W t (Mt W t g c)) m=Qa W m:=E1 _ _ _ _;have e6:Qa (endW (setTk W t (Mt W t g c)) c) m=Qa W m:=(OU (CT _ _)).trans e5;refine⟨FSx W t,Hg hr t0 hl1 q0 q1 d0 (by omega) ⟨by show _<=(Q7 W t).v-(Qb W (Q7 W t).group (Q7 W t).cpu).floor; omega,by show (Q7 W t).v-(Qb W (Q7 W t).group (Q7 W t).cpu).floor<=_; omega⟩,hix,_,_,_,_,_,_,_,_,_,hr.t t t0 hl1,fun b2 hb2=>⟨hr.g.ix g0 g1,_,_,_,hr.g.shelf g0 g1,(hr.g.shelves g g0 g1).ix ZQ c0 (by omega),(Qb W g c).floor,zkn.f (hr.g.shelves g g0 g1) c0 (by omega) (j:=0) rfl,⟨by omega,by omega⟩,hix,zif h (by simp) t0 hl1 (j:=0) (by decide),fun g4 wr hx hs4=>?_,fun g4 wr hx=>⟨rfl,?_⟩⟩⟩
 ·have g4:(Q7 W t).state=1:=eq_of_beq g4;have hM2:=((hM.add hb2).deed hset GX).step (hx.of_nil);have hcall:=Zn hM2.own (W:=setTk W t (Mt W t g c)) c0 c1;rw[e5,e6] at hcall;refine Calls.mono hcall ?_;rintro e wv ⟨he1,hy2⟩;refine⟨_,_,_,_,_,_,_,_,_,_,he1,hM2.kept hy2 hs4,fun wr2 hx4=>⟨rfl,?_⟩⟩;unfold Vk;rw[if_pos g4];exact((hM2.call hy2 hs4).step hx4).close
 ·have g4:¬(Q7 W t).state=1:=ne_of_beq_false g4;unfold Vk;rw[if_neg g4];exact((Mv.start h).deed hset GX).call0 hx
theorem Jd{F K:Int}(h:Yu 8 base w W m)(hsw:SF F K W)(hk:F+Ql<=K)(hK:K<=1000000000000000000) :
  Cz Yg #[.agg (Qa W m).toArray] w fun e w'=>e=.returned (.agg (Qa W m).toArray)/\Mv 8 base [] w m w' (GT W) m:=by
 refine(HG W.now m.cO W.cpus.length m.cC m.tO W.tasks.length m.tC m.gO W.groups.length m.gC (R:=fun v w'=>v=.agg (Qa W m).toArray/\Mv 8 base [] w m w' (GT W) m) ?_).mono fun e w' ⟨v,he,hv,h3⟩=>⟨by rw[he,hv],h3⟩
 intro y hy y1 hy1;have htl:=hsw.w.a.t;refine⟨fun vs w1=>∃(k:Nat),vs=.int .i64 (k:Int)::Qa W m/\k<=12/\Mv 8 base [y,y1] w m w1 (U0 W k) m,Zu 12 0,fun w1 hx0 _=>⟨0,rfl,by decide,(Mv.two h hy hy1).call0 hx0⟩,?_⟩;rintro c1 l l1O l1L l1C l2O l2L l2C l3O l3L l3C wv2 hs2 ⟨k,he,hk12,hM⟩;obtain⟨hS,hF⟩:=zhw hsw hk k hk12;have hdef:U0 W (k+1)=if LE (U0 W k) (k:Int)=true then Vk (U0 W k) (k:Int) (Q7 (U0 W k) (k:Int)).group (GM (Qp (U0 W k) (Q7 (U0 W k) (k:Int)).group (Q7 (U0 W k) (k:Int)).mask)) else U0 W k:=rfl;have hend:k=12->GT W=U0 W k:=fun e=>by rw[e]; rfl
 have e0:Qa (U0 W k) m=Qa W m:=by simp only[Qa,hF.n,hF.c,hF.t,hF.g]
 have eC:=hF.c;have eT:=hF.t;simp only[Qa,List.cons.injEq,Value.int.injEq,Value.slice.injEq,true_and,and_true] at he;obtain⟨rfl,rfl,⟨rfl,rfl,rfl⟩,⟨rfl,rfl,rfl⟩,rfl,rfl,rfl⟩:=he;generalize U0 W k=V at hM hS hF hdef hend e0 eC eT;have hr:=hM.rd;refine⟨fun hlt=>?_,fun hge w3 hx3=>⟨rfl,?_⟩⟩
 ·have hlt:=Ot hlt;have t1:(k:Int)<(V.tasks.length:Int):=by omega
  have hix:Ix m.tO W.tasks.length (k:Int):=by have:=hr.t.ix Qy (i:=(k:Int)) (by omega) t1; rwa[eT] at this
  have next:∀{w9 w8:Wo},Q0 [y,y1] wv2 w9->LE V (k:Int)=false->(∃(k':Nat),[Value.int .i64 ((k:Int)+1),.int .i64 W.now,.slice m.cO W.cpus.length m.cC,.slice m.tO W.tasks.length m.tC,.slice m.gO W.groups.length m.gC]=.int .i64 (k':Int)::Qa W m/\k'<=12/\Mv 8 base [y,y1] w m w9 (U0 W k') m)/\Zu 12 0 [.int .i64 ((k:Int)+1),.int .i64 W.now,.slice m.cO W.cpus.length m.cC,.slice m.tO W.tasks.length m.tC,.slice m.gO W.groups.length m.gC] w9<Zu 12 0 [.int .i64 (k:Int),.int .i64 W.now,.slice m.cO W.cpus.length m.cC,.slice m.tO W.tasks.length m.tC,.slice m.gO W.groups.length m.gC] w8:=fun {w9 w8} hx hm=>by
   refine⟨⟨k+1,rfl,by omega,?_⟩,?_⟩
   ·rw[hdef,if_neg (by rw[hm]; decide)];exact hM.step hx
   ·simp only[Zu,Jh,ZZ,List.getElem?_cons_zero]; omega
  refine⟨hix,_,ztd.f hr.t (by omega) t1 (j:=0) rfl,fun g=>⟨⟨by omega,by omega⟩,fun wr4 hx4 _=>next hx4 (by unfold LE; rw[show (Q7 V (k:Int)).state=0 from eq_of_beq g]; rfl)⟩,fun g=>?_⟩;have hst:(Q7 V (k:Int)).state≠0:=ne_of_beq_false g;obtain⟨hu,d0,d1⟩:=hS.w.t (k:Int) (by omega) (by omega) hst;have hwh:=Xg (g:=(Q7 V (k:Int)).group) (mask:=(Q7 V (k:Int)).mask) hr hS.w.a.c2 hS.w.a.tree hu;rw[e0] at hwh;have hf:=Gv hS.w.a (Q7 V (k:Int)).group (Q7 V (k:Int)).mask;refine⟨hix,_,ztd.f hr.t (by omega) t1 (j:=1) rfl,hix,_,ztd.f hr.t (by omega) t1 (j:=4) rfl,_,hwh,hix,_,ztd.f hr.t (by omega) t1 (j:=2) rfl,_,Zy,fun g2=>⟨hix,_,ztd.f hr.t (by omega) t1 (j:=1) rfl,_,ML,fun wr5 hx5 hs5=>?_⟩,fun g2=>⟨⟨by omega,by omega⟩,fun wr4 hx4 _=>next hx4 (by unfold LE; rw[show QP (Qp V (Q7 V (k:Int)).group (Q7 V (k:Int)).mask) (Q7 V (k:Int)).cpu=true from (by have h:=g2; rw[Bool.not_eq_false'] at h; exact h)]; simp)⟩⟩;have hM5:=hM.step hx5;have hcall:=UE hM5.own hS hk hK (t:=(k:Int)) (g:=(Q7 V (k:Int)).group) (c:=GM (Qp V (Q7 V (k:Int)).group (Q7 V (k:Int)).mask)) (by omega) (by omega) hst hu hf.1 hf.2;rw[e0] at hcall;refine Calls.mono hcall ?_;rintro e1 wv3 ⟨he1,hy3⟩;refine⟨_,_,_,_,_,_,_,_,_,_,he1,hM5.kept hy3 hs5,⟨by omega,by omega⟩,fun wr6 hx6 _=>⟨⟨k+1,rfl,by omega,?_⟩,?_⟩⟩
  ·have hm:LE V (k:Int)=true:=by
    unfold LE;rw[Bool.and_eq_true];exact⟨by simpa using hst,g2⟩
   rw[hdef,if_pos hm];exact(hM5.call hy3 hs5).step hx6
  ·simp only[Zu,Jh,ZZ,List.getElem?_cons_zero]; omega
 ·have hge:=Ou hge;rw[hend (by omega)];exact(hM.step hx3).close
section
variable {pb:Nat}
end
end
theorem MY{W:Q8}(sw:SW Qq W):SF Qq (Qq+Ql) W:=sw.sf.mono (Int.le_refl _) (by simp only[Ql]; decide)
noncomputable def Ex(W:Q8)(t x:Int):Int:=if P0 x=false\/x=0 then 1 else if Zz W t=false then 2 else if QG W=false then 10 else 0
def zlv(W:Q8)(t x:Int):Mw:={ Q7 W t with mask:=x }
def zu8(W:Q8)(t x:Int):Q8:=Qg (GT (setTk W t (zlv W t x)))
theorem zsg{W:Q8}{t x:Int}(hW:Qv W=true)(hb:Ex W t x=0):Zz W t=true/\SF Qq (Qq+Ql) W/\SF Qq (Qq+Ql) (setTk W t (zlv W t x)):=by
 have wp:=Qh.1 hW;unfold Ex at hb
 split at hb
 ·cases hb
 ·split at hb
  ·cases hb
  ·rename_i h2
   split at hb
   ·cases hb
   ·rename_i h3;have h1:Zz W t=true:=by simpa using h2
    have h3:QG W=true:=by simpa using h3
    have sw:=PK wp (Qh.1 h3);obtain⟨t0,t1,n⟩:=Yc h1;have hl:=wp.a.t;have hv:=sw.tv t t0 (by omega);exact⟨h1,MY sw,MY (sw.setTk t0 (by omega) (fun _=>sw.t t t0 (by omega) n) hv.1 hv.2)⟩
theorem E0{W:Q8}{m:MW}{F K:Int}(sf:SF F K W)(hk:F+Ql<=K):Qa (GT W) m=Qa W m:=by
 have hF:=(Gl sf hk).2;simp only[Qa,hF.n,hF.c,hF.t,hF.g]
section
variable {base pb:Nat}{W W':Q8}{m:MW}{w:Wo}{bar:Int}
theorem Lu{t x:Int}(h:Xt [] w W m)(hl:X5 W) :
  Cz UN #[.agg (Qa W m).toArray,.int .i64 t,.int .i64 x] w fun e w'=>∃v,e=.returned v/\QE (Xc W (Ex W t x) (zu8 W t x)) w v w':=by
 refine Cw W.now m.cO W.cpus.length m.cC m.tO W.tasks.length m.tC m.gO W.groups.length m.gC t x (R:=fun v w'=>QE (Xc W (Ex W t x) (zu8 W t x)) w v w') ?_;intro y hy y1 hy1 wr hx2 hs2;refine Calls.mono (Z5 (h.ext hx2) hl) ?_;rintro e wv (⟨hW,he,hy2⟩ | ⟨hW,m',he,hM,hy2⟩)
 ·exact⟨_,_,_,_,_,_,_,_,_,_,_,he,Qe hy2 hs2,false,fun g=>by simp at g,fun _ wr1 hx3=>QE.bad hW ((hx2.trans hy2).fresh hx3 fun z hm=>.inl (YC hy hy1 z hm)),fun g=>by simp at g⟩
 have hK:=Wk.begin hy hy1 hx2 hs2 hM hy2;have hr:=hK.rd;have hc1:((if QG W=true then 0 else 10:Int)==1)=false:=by split <;> rfl
 refine⟨_,_,_,_,_,_,_,_,_,_,_,he,Qe hy2 hs2,_,fun _=>X3,fun g wr1 hx3=>?_,fun g0=>⟨_,XL hr hl.t,fun g wr2 hx3=>?_,fun g=>⟨fun g3 wr4 hx3=>?_,fun g3=>?_⟩⟩⟩
 ·rw[hc1] at g;have g:P0 x=false\/x=0:=by simpa using g
  have hb:Ex W t x=1:=by unfold Ex; rw[if_pos g]
  exact QE.no hW (by rw[hb]; decide) (hK.step hx3) hb
 ·rw[hc1] at g0;have g0:¬(P0 x=false\/x=0):=by simpa using g0
  have g:Zz W t=false:=by simpa using g
  have hb:Ex W t x=2:=by unfold Ex; rw[if_neg g0,if_pos g]
  exact QE.no hW (by rw[hb]; decide) (hK.step hx3) hb
 ·rw[hc1] at g0;have g0:¬(P0 x=false\/x=0):=by simpa using g0
  have g:Zz W t=true:=by simpa using g
  have hr0:¬QG W=true:=fun hr=>by rw[if_pos hr] at g3; simp at g3
  have hb:Ex W t x=10:=by unfold Ex; rw[if_neg g0,if_neg (by rw[g]; decide),if_pos (by simpa using hr0)]
  rw[if_neg hr0];exact QE.no hW (by rw[hb]; decide) (hK.step hx3) hb
 rw[hc1] at g0;have g0:¬(P0 x=false\/x=0):=by simpa using g0
 have g:Zz W t=true:=by simpa using g
 have hr0:QG W=true:=Decidable.byContradiction fun hr=>by rw[if_neg hr] at g3; simp at g3
 have hb:Ex W t x=0:=by unfold Ex; rw[if_neg g0,if_neg (by rw[g]; decide),if_neg (by rw[hr0]; decide)]
 obtain⟨_,sf0,sf⟩:=zsg hW hb;obtain⟨t0,t1,tn⟩:=Yc g;have hset:Wk 8 [y,y1] w (sto wv m'.tO (Int.toNat t*9+4) [.int .i64 x]) (setTk W t (zlv W t x)) m':=hK.sto (hK.own.stoT t0 t1 (j:=4) (vs:=[.int .i64 x]) (x:=zlv W t x) rfl (by simp)) GX;refine⟨hr.t.ix Qy t0 t1,zif hK.own hK.nb t0 t1 (j:=4) (by decide),fun wr4 hx4 hs4=>?_⟩;have e5:Qa (setTk W t (zlv W t x)) m'=Qa W m':=E1 _ _ _ _;have hE:zu8 W t x=Qg (GT (setTk W t (zlv W t x))):=rfl;rw[hE];generalize setTk W t (zlv W t x)=V at hset sf e5;have hK4:=hset.step hx4;have hcall:=Jd hK4.own sf (Int.le_refl _) (by simp only[Ql]; decide);rw[e5] at hcall;refine Calls.mono hcall ?_;rintro e1 wv1 ⟨he1,hy3⟩;refine⟨_,_,_,_,_,_,_,_,_,_,he1,hK4.kept hy3 hs4,fun wr5 hx5 hs5=>?_⟩;have hK5:=(hK4.deed hy3 hs4).step hx5;have hcall2:=Qr hK5.own (Gl sf (Int.le_refl _)).1.w (by simp only[Ql]; decide) (by simp only[Ql]; decide) hK5.base;rw[E0 sf (Int.le_refl _),e5] at hcall2;refine Calls.mono hcall2 ?_;rintro e2 wv2 ⟨m2,he2,hy4⟩;exact⟨_,_,_,_,_,_,_,_,_,_,he2,hK5.kept hy4 hs5,fun wr6 hx6=>QE.ok hW hb ((hK5.deed hy4 hs5).step hx6)⟩
def zg0(W:Q8)(g x:Int):ZF:={ gi W.groups g with cpus:=x }
noncomputable def zla(W:Q8)(g x:Int):Int:=Mk W g (P0 x&&(x != 0))
def zt6(W:Q8)(g x:Int):Q8:=Qg (GT (setGr W g (zg0 W g x)))
theorem zrc{W:Q8}{g x:Int}(hW:Qv W=true)(hb:zla W g x=0):Q6 W.groups g=true/\QG W=true/\SF Qq (Qq+Ql) W/\SF Qq (Qq+Ql) (setGr W g (zg0 W g x))/\QR W.groups (setGr W g (zg0 W g x)).groups:=by
 obtain⟨h1,h2,h3,h4⟩:=zg1 hb;have wp:=Qh.1 hW;have sw:=PK wp (Qh.1 h4);obtain⟨u0,u1,hg⟩:=wp.a.u h3;have hl:=wp.a.gl;simp only[Bool.and_eq_true,bne_iff_ne,ne_eq] at h1;exact⟨h3,h4,MY sw,MY (sw.setGr (x:=zg0 W g x) h3 rfl rfl rfl rfl ⟨hg.w1,hg.w2,h1.1,h1.2,hg.s,hg.len,fun h=>absurd h h2,hg.none,hg.band⟩),Jw u0 (by omega) rfl rfl rfl⟩
theorem NQ{g x:Int}(h:Xt [] w W m)(hl:X5 W) :
  Cz Tt #[.agg (Qa W m).toArray,.int .i64 g,.int .i64 x] w fun e w'=>∃v,e=.returned v/\QE (Xc W (zla W g x) (zt6 W g x)) w v w':=by
 refine Ny W.now m.cO W.cpus.length m.cC m.tO W.tasks.length m.tC m.gO W.groups.length m.gC g x (R:=fun v w'=>QE (Xc W (zla W g x) (zt6 W g x)) w v w') ?_;intro y hy y1 hy1;refine⟨_,X3,fun wr hx2 hs2=>?_⟩;refine Calls.mono (UV (g:=g) (ok:=P0 x&&(x != 0)) (h.ext hx2) hl) ?_;rintro e wv (⟨hW,he,hy2⟩ | ⟨hW,m',he,hM,hy2⟩)
 ·exact⟨_,_,_,_,_,_,_,_,_,_,_,he,Qe hy2 hs2,fun _ wr1 hx3=>QE.bad hW ((hx2.trans hy2).fresh hx3 fun z hm=>.inl (YC hy hy1 z hm)),fun g=>by simp at g⟩
 have hK:=Wk.begin hy hy1 hx2 hs2 hM hy2;refine⟨_,_,_,_,_,_,_,_,_,_,_,he,Qe hy2 hs2,fun g1 wr1 hx3=>QE.no hW (by simpa[zla] using g1) (hK.step hx3) rfl,fun g1=>?_⟩;have hb:zla W g x=0:=by simpa[zla] using g1
 have hr:=hK.rd;obtain⟨hu,hroom,sf0,sf,hT⟩:=zrc hW hb;obtain⟨u0,u1,_⟩:=Q5.1 hu;have hgl:=sf0.w.a.gl;have hset:Wk 8 [y,y1] w (sto wv m'.gO (Int.toNat g*14+4) [.int .i64 x]) (setGr W g (zg0 W g x)) m':=hK.sto (hK.own.stoG0 u0 (by omega) (g:=zg0 W g x) rfl rfl rfl (j:=4) (vs:=[.int .i64 x]) rfl (by simp)) Bu;refine⟨hr.g.ix (i:=g) u0 u1,zee hK.own hK.nb (i:=g) u0 (by omega) (j:=4) (k:=1) (by decide),fun wr4 hx4 hs4=>?_⟩;have e5:Qa (setGr W g (zg0 W g x)) m'=Qa W m':=by simp[Qa,setGr]
 have hE:zt6 W g x=Qg (GT (setGr W g (zg0 W g x))):=rfl;rw[hE];generalize setGr W g (zg0 W g x)=V at hset sf e5;have hK4:=hset.step hx4;have hcall:=Jd hK4.own sf (Int.le_refl _) (by simp only[Ql]; decide);rw[e5] at hcall;refine Calls.mono hcall ?_;rintro e1 wv1 ⟨he1,hy3⟩;refine⟨_,_,_,_,_,_,_,_,_,_,he1,hK4.kept hy3 hs4,fun wr5 hx5 hs5=>?_⟩;have hK5:=(hK4.deed hy3 hs4).step hx5;have hcall2:=Qr hK5.own (Gl sf (Int.le_refl _)).1.w (by simp only[Ql]; decide) (by simp only[Ql]; decide) hK5.base;rw[E0 sf (Int.le_refl _),e5] at hcall2;refine Calls.mono hcall2 ?_;rintro e2 wv2 ⟨m2,he2,hy4⟩;exact⟨_,_,_,_,_,_,_,_,_,_,he2,hK5.kept hy4 hs5,fun wr6 hx6=>QE.ok hW hb ((hK5.deed hy4 hs5).step hx6)⟩
end
def zxv(W:Q8)(c:Int)(j:Nat):Bool:=((Q7 W (j:Int)).state==1)&&((Q7 W (j:Int)).cpu==c)
def zhv(W:Q8)(c:Int)(j:Nat):Int:=if zxv W c j=true then 1 else 0
def zg6(W:Q8)(c:Int)(j:Nat):Int:=if zxv W c j=true then (Q7 W (j:Int)).load else 0
def zjy(W:Q8)(c:Int):Int:=XM (zhv W c) W.tasks.length
def zg7(W:Q8)(c:Int):Int:=XM (zg6 W c) W.tasks.length
def zus(W:Q8)(a b:Int):Bool:=decide (zg7 W a<zg7 W b)||((zg7 W a==zg7 W b)&&decide (zjy W a<zjy W b))
def PF(W:Q8)(m:Int):Nat->Int
 | 0 => -1
 | k+1=>if (QP m (k:Int)&&(decide (PF W m k<0)||zus W (k:Int) (PF W m k)))=true then (k:Int) else PF W m k
def PU(W:Q8)(m:Int):Int:=PF W m W.cpus.length
theorem zju{W:Q8}{m:Int}{k:Nat}(h:(QP m (k:Int)&&(decide (PF W m k<0)||zus W (k:Int) (PF W m k)))=true):PF W m (k+1)=(k:Int):=if_pos h
theorem zny{W:Q8}{m:Int}{k:Nat}(h:(QP m (k:Int)&&(decide (PF W m k<0)||zus W (k:Int) (PF W m k)))=false):PF W m (k+1)=PF W m k:=if_neg (by rw[h]; decide)
theorem za9(W:Q8)(m:Int):∀k:Nat,-1<=PF W m k/\PF W m k<(k:Int)/\(0<=PF W m k->QP m (PF W m k)=true)
 | 0=>⟨Int.le_refl _,by show (-1:Int)<0; decide,fun h=>by have:(0:Int)<=-1:=h; omega⟩
 | k+1=>by
  have ih:=za9 W m k;simp only[PF];split
  ·rename_i h;simp only[Bool.and_eq_true] at h;exact⟨by omega,by omega,fun _=>h.1⟩
  ·exact⟨ih.1,by omega,ih.2.2⟩
theorem zfd{W:Q8}{m:Int}{j:Nat}(h:QP m (j:Int)=true):∀k:Nat,j<k->0<=PF W m k
 | 0,hk=>absurd hk (Nat.not_lt_zero j)
 | k+1,hk=>by
  by_cases e:j=k
  ·subst e
   by_cases hn:PF W m j<0
   ·rw[zju (by rw[h,decide_eq_true hn]; rfl)]; omega
   ·simp only[PF]; split <;> omega
  ·have:=zfd (W:=W) h k (by omega);simp only[PF]
   split <;> omega
theorem zxi{W:Q8}(ha:WA W){m:Int}(hm:P0 m=true)(h0:m≠0)(hs:∀c:Int,QP m c=true->0<=c/\c<(W.cpus.length:Int)):0<=PU W m/\PU W m<(W.cpus.length:Int)/\QP m (PU W m)=true:=by
 have hf:=Ei hm h0;have hr:=hs _ hf;have e:((GM m).toNat:Int)=GM m:=by omega
 have h1:=zfd (W:=W) (m:=m) (j:=(GM m).toNat) (by rw[e]; exact hf) W.cpus.length (by omega);have h2:=za9 W m W.cpus.length;exact⟨h1,h2.2.1,h2.2.2 h1⟩
theorem Gk{W:Q8}(ha:WA W)(g mask:Int):0<=PU W (Qp W g mask)/\PU W (Qp W g mask)<(W.cpus.length:Int)/\QP (Qp W g mask) (PU W (Qp W g mask))=true:=
 zxi ha (G5 ha g mask).1 (G5 ha g mask).2 fun _ h=>L9 ha h
def HT(m:Int):Nat->Int
 | 0=>0
 | k+1=>if QP m (k:Int)=true then HT m k+1 else HT m k
theorem zah(m:Int):∀k:Nat,0<=HT m k/\HT m k<=(k:Int)
 | 0=>by simp[HT]
 | k+1=>by
  have:=zah m k;simp only[HT]
  split <;> omega
def zyw(W:Q8):Prop:=∀t:Int,0<=t->t<12->0<=(Q7 W t).load/\(Q7 W t).load<=8000000
theorem zrq{W:Q8}(wp:YW W):zyw W:=fun t t0 t1=>by
 rcases wp.t t t0 t1 with h | ⟨_,h⟩
 ·rw[h.2]; decide
 ·exact⟨h.l1,h.l2⟩
theorem zl1(W:Q8)(c:Int)(j:Nat):0<=zhv W c j/\zhv W c j<=1:=by unfold zhv; split <;> omega
theorem zl2{W:Q8}(c:Int)(k:Nat):0<=XM (zhv W c) k/\XM (zhv W c) k<=(k:Int)*1:=Vo (zl1 W c) k
theorem zac{W:Q8}(hl:zyw W)(c:Int):∀k:Nat,k<=12->0<=XM (zg6 W c) k/\XM (zg6 W c) k<=(k:Int)*8000000
 | 0,_=>by simp[XM]
 | k+1,hk=>by
  have ih:=zac hl c k (by omega);have h1:=hl (k:Int) (by omega) (by omega);simp only[XM];have h2:0<=zg6 W c k/\zg6 W c k<=8000000:=by unfold zg6; split <;> omega
  omega
section
variable {W:Q8}{m:MW}{w:Wo}{bs:List Nat}{p:OA}
theorem OG{c:Int}(h:Xt bs w W m)(htl:W.tasks.length=12):PX bs XV #[.agg (Qa W m).toArray,.int .i64 c] w (.int .i64 (zjy W c)):=
 Ad W.now m.cO W.cpus.length m.cC m.tO W.tasks.length m.tC m.gO W.groups.length m.gC c fun wr hx=>by
  have h:=(h.ext hx).less (cs:=[]) (by simp);intro _ _;refine T3 W.tasks.length 0 rfl (fun x k=>k<=W.tasks.length/\x=XM (zhv W c) k) ⟨Nat.zero_le _,rfl⟩ fun x k ⟨hk,hx2⟩=>⟨fun hlt=>?_,fun hge=>?_⟩
  ·have hlt:=Ot hlt;have hr:=zl2 (W:=W) c k;refine⟨h.t.ix Qy (by omega) hlt,_,h.t.f (by omega) hlt (j:=0) rfl,fun _=>h.t.ix Qy (by omega) hlt,_,fun _=>h.t.f (by omega) hlt (j:=2) rfl,fun g2=>⟨⟨by omega,by omega⟩,⟨by omega,by omega⟩,Qw (by omega) ⟨by omega,?_⟩⟩,fun g2=>⟨⟨by omega,by omega⟩,Qw (by omega) ⟨by omega,?_⟩⟩⟩
   ·have g2:zxv W c k=true:=g2;simp only[XM,zhv]; rw[if_pos g2,hx2]
   ·have g2:zxv W c k=false:=g2;simp only[XM,zhv]; rw[if_neg (by rw[g2]; decide),hx2,Int.add_zero]
  ·have hge:=Ou hge;have:k=W.tasks.length:=by omega
   subst this;rw[hx2]; rfl
theorem UU{c:Int}(h:Xt bs w W m)(htl:W.tasks.length=12)(hl:zyw W):PX bs X8 #[.agg (Qa W m).toArray,.int .i64 c] w (.int .i64 (zg7 W c)):=
 Ab W.now m.cO W.cpus.length m.cC m.tO W.tasks.length m.tC m.gO W.groups.length m.gC c fun wr hx=>by
  have h:=(h.ext hx).less (cs:=[]) (by simp);intro _ _;refine T3 W.tasks.length 0 rfl (fun x k=>k<=W.tasks.length/\x=XM (zg6 W c) k) ⟨Nat.zero_le _,rfl⟩ fun x k ⟨hk,hx2⟩=>⟨fun hlt=>?_,fun hge=>?_⟩
  ·have hlt:=Ot hlt;have hr:=zac hl c k (by omega);have hl1:=hl (k:Int) (by omega) (by omega);refine⟨h.t.ix Qy (by omega) hlt,_,h.t.f (by omega) hlt (j:=0) rfl,fun _=>h.t.ix Qy (by omega) hlt,_,fun _=>h.t.f (by omega) hlt (j:=2) rfl,fun g2=>⟨h.t.ix Qy (by omega) hlt,(Q7 W (k:Int)).load,h.t.f (by omega) hlt (j:=8) rfl,⟨by omega,by omega⟩,⟨by omega,by omega⟩,Qw (by omega) ⟨by omega,?_⟩⟩,fun g2=>⟨⟨by omega,by omega⟩,Qw (by omega) ⟨by omega,?_⟩⟩⟩
   ·have g2:zxv W c k=true:=g2;simp only[XM,zg6]; rw[if_pos g2,hx2]
   ·have g2:zxv W c k=false:=g2;simp only[XM,zg6]; rw[if_neg (by rw[g2]; decide),hx2,Int.add_zero]
  ·have hge:=Ou hge;have:k=W.tasks.length:=by omega
   subst this;rw[hx2]; rfl
theorem Kw{x:Int}(h:Xt bs w W m)(ha:WA W)(hl:zyw W):PX bs Ua #[.agg (Qa W m).toArray,.int .i64 x] w (.int .i64 (PU W x)):=
 Ac W.now m.cO W.cpus.length m.cC m.tO W.tasks.length m.tC m.gO W.groups.length m.gC x fun wr hx=>by
  have h:=(h.ext hx).less (cs:=[]) (by simp);have hcl:=ha.c2;have htl:=ha.t;intro _ _;refine T3 W.cpus.length 0 rfl (fun b k=>k<=W.cpus.length/\b=PF W x k) ⟨Nat.zero_le _,rfl⟩ fun b k ⟨hk,hb⟩=>⟨fun hlt=>?_,fun hge=>?_⟩
  ·have hlt:=Ot hlt;have key:(((decide (b<0))||(decide (zg7 W (k:Int)<zg7 W b)))||((zg7 W (k:Int)==zg7 W b)&&(decide (zjy W (k:Int)<zjy W b))))=(decide (PF W x k<0)||zus W (k:Int) (PF W x k)):=by rw[hb,Bool.or_assoc]; rfl
   refine⟨_,Zy,fun g=>⟨⟨by omega,by omega⟩,Qw (by omega) ⟨by omega,?_⟩⟩,fun g=>⟨_,fun _=>UU h htl hl,_,fun _=>UU h htl hl,_,fun _=>UU h htl hl,_,fun _=>UU h htl hl,_,fun _ _=>OG h htl,_,fun _ _=>OG h htl,fun g2=>⟨⟨by omega,by omega⟩,Qw (by omega) ⟨by omega,?_⟩⟩,fun g2=>⟨⟨by omega,by omega⟩,Qw (by omega) ⟨by omega,?_⟩⟩⟩⟩
   ·have g:QP x (k:Int)=false:=by simpa using g
    rw[hb,zny (by rw[g]; rfl)]
   ·have g:QP x (k:Int)=true:=by simpa using g
    rw[zju (by rw[g,<-key,g2]; rfl)]
   ·have g:QP x (k:Int)=true:=by simpa using g
    rw[hb,zny (by rw[g,<-key,g2]; rfl)]
  ·have hge:=Ou hge;have:k=W.cpus.length:=by omega
   subst this;rw[hb]; rfl
theorem FL{x:Int}:PX bs VR #[.int .i64 x] w (.int .i64 (HT x 4)):=
 Be x fun wr hx=>by
  refine T3 4 0 rfl (fun n k=>k<=4/\n=HT x k) ⟨by decide,rfl⟩ fun n k ⟨hk,hn⟩=>⟨fun hlt=>?_,fun hge=>?_⟩
  ·have hlt:=Ot hlt;have hr:=zah x k;refine⟨_,Zy,fun g=>⟨⟨by omega,by omega⟩,⟨by omega,by omega⟩,Qw (by omega) ⟨by omega,?_⟩⟩,fun g=>⟨⟨by omega,by omega⟩,Qw (by omega) ⟨by omega,?_⟩⟩⟩
   ·simp only[HT]; rw[if_pos g,hn]
   ·simp only[HT]; rw[if_neg (by rw[g]; decide),hn]
  ·have hge:=Ou hge;have:k=4:=by omega
   subst this;rw[hn]
end
def KO(n:Int):Int:=if Yh n 1 4=true then (if n=1 then 0 else if n=2 then 1 else 2) else 0
theorem zpg{n:Int}(h:Yh n 1 4=true):(n=1/\KO n=0)\/(n=2/\KO n=1)\/(n=3/\KO n=2)\/(n=4/\KO n=2):=by
 have:=Qm.1 h;have:n=1\/n=2\/n=3\/n=4:=by omega
 rcases this with rfl | rfl | rfl | rfl
 ·exact .inl ⟨rfl,by decide⟩
 ·exact .inr (.inl ⟨rfl,by decide⟩)
 ·exact .inr (.inr (.inl ⟨rfl,by decide⟩))
 ·exact .inr (.inr (.inr ⟨rfl,by decide⟩))
def ze4(c lv j:Int):Bool:=Int.fdiv j (2 ^ (min (Int.toNat (lv+1)) 64))==Int.fdiv c (2 ^ (min (Int.toNat (lv+1)) 64))
def zmb(c lv:Int):Nat->Int
 | 0=>0
 | k+1=>if ze4 c lv (k:Int)=true then zmb c lv k+Xs k else zmb c lv k
theorem zh1(c lv:Int):∀k:Nat,k<=4->0<=zmb c lv k/\zmb c lv k<Xs k
 | 0,_=>by simp[zmb,Xs]
 | k+1,h=>by
  have ih:=zh1 c lv k (by omega)
  have hb:Xs (k+1)=2*Xs k/\0<=Xs k:=by
   have:k=0\/k=1\/k=2\/k=3:=by omega
   rcases this with rfl | rfl | rfl | rfl <;> decide
  simp only[zmb]
  split <;> omega
def Kl(n c lv:Int):Bool:=(Yh n 1 4&&Yh c 0 (n-1))&&Yh lv 0 (KO n-1)
def Gp(n c lv:Int):Int:=if Kl n c lv=true then zmb c lv n.toNat else 0
theorem zvh:∀(m:Fin 16) (c:Fin 4),(m.val:Int)<Xs c.val->QP (m.val:Int) (c.val:Int)=false:=by decide +kernel
theorem zsp{n:Nat}{c lv:Int}{b:Nat}(hn:n<=b)(hb:b<4):QP (Gp (n:Int) c lv) (b:Int)=false:=by
 have h:0<=Gp (n:Int) c lv/\Gp (n:Int) c lv<Xs b:=by
  unfold Gp;split
  ·rename_i hs;rw[Int.toNat_natCast];have h1:=zh1 c lv n (by omega)
   have:Xs n<=Xs b:=by
    have key:∀x y:Fin 4,x.val<=y.val->Xs x.val<=Xs y.val:=by decide +kernel
    exact key ⟨n,by omega⟩ ⟨b,hb⟩ hn
   omega
  ·have:=Mg (k:=b) (by omega);omega
 have h2:=Mg (k:=b) (by omega);have:=zvh ⟨(Gp (n:Int) c lv).toNat,by omega⟩ ⟨b,hb⟩ (by show ((Gp (n:Int) c lv).toNat:Int)<Xs b; omega);have e:((Gp (n:Int) c lv).toNat:Int)=Gp (n:Int) c lv:=by omega
 simp only[e] at this;exact this
section
variable {w:Wo}{bs:List Nat}{n c lv:Int}
theorem znm{n:Int}{k:Nat}(h:Yh n 1 4=true)(hk:(k:Int)<=KO n):(decide ((1*2 ^ (min (Int.toNat (k:Int)) 64):Int)<n)=true->(k:Int)+1<=KO n)/\(decide ((1*2 ^ (min (Int.toNat (k:Int)) 64):Int)<n)=false->(k:Int)=KO n):=by
 rcases zpg h with ⟨rfl,e⟩ | ⟨rfl,e⟩ | ⟨rfl,e⟩ | ⟨rfl,e⟩ <;> rw[e] at hk ⊢
 ·have:k=0:=by omega
  subst this; decide
 ·have:k=0\/k=1:=by omega
  rcases this with rfl | rfl <;> decide
 ·have:k=0\/k=1\/k=2:=by omega
  rcases this with rfl | rfl | rfl <;> decide
 ·have:k=0\/k=1\/k=2:=by omega
  rcases this with rfl | rfl | rfl <;> decide
theorem zag(n:Int):0<=KO n/\KO n<=2:=by
 unfold KO;split
 ·split
  ·omega
  ·split <;> omega
 ·omega
theorem OS:PX bs XA #[.int .i64 n] w (.int .i64 (KO n)):=
 GS n fun wr hx=>by
  refine⟨_,Qi,fun q=>?_,fun q=>?_⟩
  ·have q:Yh n 1 4=false:=by simpa using q
   have:KO n=0:=if_neg (by rw[q]; decide);rw[this]
  ·have q:Yh n 1 4=true:=by simpa using q
   have hl:=zag n;refine⟨fun vs=>∃k:Nat,vs=[.int .i64 (k:Int)]/\(k:Int)<=KO n,fun vs=>(2-ZZ 0 vs).toNat,⟨0,rfl,hl.1⟩,?_⟩;rintro k' ⟨k,he,hk⟩;simp only[List.cons.injEq,Value.int.injEq,true_and,and_true] at he;subst he;have hb:=Mg (k:=k) (by omega);have hbd:(1*2 ^ (min (Int.toNat (k:Int)) 64):Int)=Xs k:=rfl;obtain⟨s1,s2⟩:=znm q hk;refine⟨⟨by omega,by omega⟩,⟨by omega,by rw[hbd]; exact⟨by omega,by omega⟩⟩,fun g=>⟨⟨by omega,by omega⟩,⟨k+1,by simp,by have:=s1 g; omega⟩,?_⟩,fun g=>by rw[<-s2 g]⟩;have:=s1 g;show (2-((k:Int)+1)).toNat<(2-(k:Int)).toNat;omega
theorem OR:PX bs Xx #[.int .i64 n] w (.int .i64 (KO n)):=
 GO n fun wr hx=>by
  refine⟨_,Qu,fun q=>?_,fun q=>?_⟩
  ·have q:Yh n 1 4=false:=by simpa using q
   have:KO n=0:=if_neg (by rw[q]; decide);rw[this]
  ·have q:Yh n 1 4=true:=by simpa using q
   have hl:=zag n;refine⟨fun vs=>∃k:Nat,vs=[.int .i64 (k:Int)]/\(k:Int)<=KO n,fun vs=>(2-ZZ 0 vs).toNat,⟨0,rfl,hl.1⟩,?_⟩;rintro k' ⟨k,he,hk⟩;simp only[List.cons.injEq,Value.int.injEq,true_and,and_true] at he;subst he;have hb:=Mg (k:=k) (by omega);have hbd:(1*2 ^ (min (Int.toNat (k:Int)) 64):Int)=Xs k:=rfl;obtain⟨s1,s2⟩:=znm q hk;refine⟨⟨by omega,by rw[hbd]; exact⟨by omega,by omega⟩⟩,fun g=>⟨⟨by omega,by omega⟩,⟨k+1,by simp,by have:=s1 g; omega⟩,?_⟩,fun g=>by rw[<-s2 g]⟩;have:=s1 g;show (2-((k:Int)+1)).toNat<(2-(k:Int)).toNat;omega
theorem zfm(h:Kl n c lv=true):Yh n 1 4=true/\0<=c/\c<n/\0<=lv/\lv<=1:=by
 unfold Kl at h;simp only[Bool.and_eq_true] at h;have h1:=Qm.1 h.1.2;have h2:=Qm.1 h.2;have:=zag n;exact⟨h.1.1,h1.1,by omega,h2.1,by omega⟩
theorem E8:PX bs Vb #[.int .i64 n,.int .i64 c,.int .i64 lv] w (.int .i64 (Gp n c lv)):=
 Eu n c lv fun wr hx=>by
  have hl:=zag n
  have e:(((!Yh n 1 4)||(!Yh c 0 (n-1)))||(!Yh lv 0 (KO n-1))) = !Kl n c lv:=by
   unfold Kl; rw[Bool.not_and,Bool.not_and]
  refine⟨_,Qi,fun q=>?_,_,fun _=>Qi,_,fun _=>OS,fun _=>⟨by omega,by omega⟩,_,fun _=>Qi,fun q=>?_,fun q=>?_⟩
  ·have q:=Qm.1 (by simpa using q:Yh n 1 4=true);exact⟨by omega,by omega⟩
  ·rw[e] at q;have:Gp n c lv=0:=if_neg (by simpa using q);rw[this]
  ·rw[e] at q;have q:Kl n c lv=true:=by simpa using q
   obtain⟨h1,c0,c1,l0,l1⟩:=zfm q;have hn:=Qm.1 h1;obtain⟨N,rfl⟩:∃N:Nat,n=(N:Int):=⟨n.toNat,by omega⟩;have hD:Gp (N:Int) c lv=zmb c lv N:=by unfold Gp; rw[if_pos q,Int.toNat_natCast]
   rw[hD];refine T3 N 0 rfl (fun x k=>k<=N/\x=zmb c lv k) ⟨Nat.zero_le _,rfl⟩ fun x k ⟨hk,hx2⟩=>⟨fun hlt=>?_,fun hge=>?_⟩
   ·have hlt:=Ot hlt;have hb:=Mg (k:=k) (by omega);have hs:=zh1 c lv k (by omega);have hbd:(1*2 ^ (min (Int.toNat (k:Int)) 64):Int)=Xs k:=rfl;refine⟨⟨by omega,by omega⟩,⟨by omega,by omega⟩,by omega,⟨by omega,by omega⟩,⟨by omega,by omega⟩,by omega,fun hu=>?_,fun hu=>?_⟩
    ·rw[hbd,hx2];refine⟨⟨by omega,by omega⟩,⟨by omega,by omega,by omega⟩,⟨by omega,by omega⟩,⟨by omega,by omega⟩,Qw (by omega) ⟨by omega,?_⟩⟩;simp only[zmb]; rw[if_pos (show ze4 c lv (k:Int)=true from hu)]
    ·refine⟨⟨by omega,by omega⟩,Qw (by omega) ⟨by omega,?_⟩⟩;rw[hx2]; simp only[zmb]; rw[if_neg (by rw[show ze4 c lv (k:Int)=false from hu]; decide)]
   ·have hge:=Ou hge;have:k=N:=by omega
    subst this;rw[hx2]
def zko(c lv:Int)(k i:Nat):Bool:=decide (i<k)&&ze4 c lv (i:Int)
theorem FG{N:Nat}(hN:N<=4)(l0:0<=lv)(l1:lv<=1):PX bs VL #[.int .i64 (N:Int),.int .i64 c,.int .i64 lv] w (.agg #[.bool (zko c lv N 0),.bool (zko c lv N 1),.bool (zko c lv N 2),.bool (zko c lv N 3)]):=
 Bc (N:Int) c lv fun wr hx=>by
  refine fun _ _ _ _=>⟨fun vs=>∃k:Nat,vs=[.int .i64 (k:Int),.bool (zko c lv k 0),.bool (zko c lv k 1),.bool (zko c lv k 2),.bool (zko c lv k 3)]/\k<=N,fun vs=>(4-ZZ 0 vs).toNat,⟨0,rfl,Nat.zero_le _⟩,?_⟩
  rintro k' b0 b1 b2 b3 ⟨k,he,hk⟩;simp only[List.cons.injEq,Value.int.injEq,Value.bool.injEq,true_and,and_true] at he;obtain⟨rfl,rfl,rfl,rfl,rfl⟩:=he;refine⟨fun hlt=>?_,fun hge=>?_⟩
  ·have hlt:=Ot hlt;have hk4:k<4:=by omega
   refine⟨⟨by omega,by omega⟩,by omega,⟨by omega,by omega⟩,by omega,⟨by omega,by omega⟩,by omega,zko c lv (k+1) 0,zko c lv (k+1) 1,zko c lv (k+1) 2,zko c lv (k+1) 3,?_,⟨by omega,by omega⟩,⟨k+1,by simp,by omega⟩,?_⟩
   ·rw[Int.toNat_natCast,Nat.add_zero];have:k=0\/k=1\/k=2\/k=3:=by omega
    rcases this with rfl | rfl | rfl | rfl <;> simp[zko,ze4]
   ·show (4-((k:Int)+1)).toNat<(4-(k:Int)).toNat;omega
  ·have hge:=Ou hge;have:k=N:=by omega
   subst this;rfl
theorem E6:PX bs V3 #[.int .i64 n,.int .i64 c,.int .i64 lv] w (.int .i64 (Gp n c lv)):=
 Em n c lv fun wr hx=>by
  have hl:=zag n
  have e:(((!Yh n 1 4)||(!Yh c 0 (n-1)))||(!Yh lv 0 (KO n-1))) = !Kl n c lv:=by
   unfold Kl; rw[Bool.not_and,Bool.not_and]
  refine⟨_,Qu,fun q=>?_,_,fun _=>Qu,_,fun _=>OR,fun _=>⟨by omega,by omega⟩,_,fun _=>Qu,fun q=>?_,fun q=>?_⟩
  ·have q:=Qm.1 (by simpa using q:Yh n 1 4=true);exact⟨by omega,by omega⟩
  ·rw[e] at q;have:Gp n c lv=0:=if_neg (by simpa using q);rw[this]
  ·rw[e] at q;have q:Kl n c lv=true:=by simpa using q
   obtain⟨h1,c0,c1,l0,l1⟩:=zfm q;have hn:=Qm.1 h1;obtain⟨N,rfl⟩:∃N:Nat,n=(N:Int):=⟨n.toNat,by omega⟩;have hD:Gp (N:Int) c lv=zmb c lv (min 4 N):=by unfold Gp; rw[if_pos q,Int.toNat_natCast,Nat.min_eq_right (by omega)]
   rw[hD];refine⟨_,_,_,_,FG (by omega) l0 l1,?_⟩;refine T3 4 0 rfl (fun x k=>k<=4/\x=zmb c lv (min k N)) ⟨Nat.zero_le _,by rw[Nat.zero_min]; rfl⟩ fun x k ⟨hk,hx2⟩=>⟨fun hlt=>?_,fun hge=>?_⟩
   ·have hlt:=Ot hlt;have hk4:k<4:=by omega
    have hb:=Mg (k:=k) (by omega);have hbd:(1*2 ^ (min (Int.toNat (k:Int)) 64):Int)=Xs k:=rfl;refine⟨zko c lv N k,⟨by omega,by omega,?_⟩,fun hu=>?_,fun hu=>?_⟩
    ·rw[Int.toNat_natCast];have:k=0\/k=1\/k=2\/k=3:=by omega
     rcases this with rfl | rfl | rfl | rfl <;> rfl
    ·unfold zko at hu;simp only[Bool.and_eq_true,decide_eq_true_eq] at hu;have hm:min k N=k:=Nat.min_eq_left (by omega);have hs:=zh1 c lv k (by omega);rw[hbd,hx2,hm,zr9 hk4 hs.1 hs.2];refine⟨⟨by omega,by omega,by omega⟩,⟨by omega,by omega⟩,Qw hk4 ⟨by omega,?_⟩⟩;rw[Nat.min_eq_left (by omega)];simp only[zmb]; rw[if_pos hu.2]
    ·refine⟨⟨by omega,by omega⟩,Qw hk4 ⟨by omega,?_⟩⟩;rw[hx2]
     by_cases hkN:k<N
     ·have hn:ze4 c lv (k:Int)=false:=by
       unfold zko at hu;rw[decide_eq_true hkN,Bool.true_and] at hu;exact hu
      rw[Nat.min_eq_left (by omega),Nat.min_eq_left (by omega)];simp only[zmb]; rw[if_neg (by rw[hn]; decide)]
     ·rw[Nat.min_eq_right (by omega),Nat.min_eq_right (by omega)]
   ·have hge:=Ou hge;have:k=4:=by omega
    subst this;rw[hx2]
end
def Ap(W:Q8)(g:Int):List Int:=QX W.groups g++[0]
def HE(W:Q8)(g c:Int):Bool:=(Ap W g).any fun x=>UB W x c
theorem zbt(W:Q8):Ap W 0=[0]:=by unfold Ap; rw[show QX W.groups 0=[] from Za W.groups 3]; rfl
theorem zbu{W:Q8}(ht:ZX W.groups){g:Int}(hu:Q6 W.groups g=true)(hz:g≠0):Ap W g=g::Ap W (gi W.groups g).parent:=by
 unfold Ap;rw[Ys ht hu hz,List.cons_append]
theorem zs7{W:Q8}(ht:ZX W.groups){g:Int}(hu:Q6 W.groups g=true):∀x∈Ap W g,Q6 W.groups x=true:=by
 have hr:Q6 W.groups 0=true:=Q5.2 ⟨by decide,by have:=ht.len; omega,ht.ru⟩;refine PD ht (Q:=fun h=>∀x∈Ap W h,Q6 W.groups x=true) ?_ (fun h hu hz ih=>?_) g hu
 ·rw[zbt];intro x hx;have:x=0:=by simpa using hx
  rw[this]; exact hr
 ·rw[zbu ht hu hz];intro x hx;rcases List.mem_cons.1 hx with rfl | hx
  ·exact hu
  ·exact ih x hx
theorem za6(gs:List ZF):∀(f:Nat) (g:Int),(Um f gs g).length<=f
 | 0,_=>Nat.le_refl _
 | f+1,g=>by
  simp only[Um];split
  ·simp
  ·have:=za6 gs f (gi gs g).parent;simp; omega
theorem zod(W:Q8)(g:Int):(Ap W g).length<=4:=by
 unfold Ap;have:=za6 W.groups 3 g;simp; omega
theorem zeo(W:Q8)(c:Int):HE W 0 c=UB W 0 c:=by
 unfold HE; rw[zbt]; simp
theorem zep{W:Q8}(ht:ZX W.groups){g c:Int}(hu:Q6 W.groups g=true)(hz:g≠0):HE W g c=(UB W g c||HE W (gi W.groups g).parent c):=by
 unfold HE;rw[zbu ht hu hz]; rfl
def ZP(W:Q8)(t c:Int):Bool:=
 (!(((((((Q7 W t).state != 1)||((Q7 W t).cpu==c))||((gi W.cpus (Q7 W t).cpu).cur==t))||(!Z9 W t))||(!QP (Qp W (Q7 W t).group (Q7 W t).mask) c)))) && !HE W (Q7 W t).group c
def KK(W:Q8)(b c:Int):Bool:=Tg (fun t=>((Q7 W (t:Int)).cpu==b)&&ZP W (t:Int) c) 12
theorem M2{W:Q8}{t c:Int}(h:ZP W t c=true):(Q7 W t).state=1/\(Q7 W t).cpu≠c:=by
 unfold ZP at h;simp only[Bool.and_eq_true,Bool.not_eq_true',Bool.or_eq_false_iff,bne_eq_false_iff_eq,beq_eq_false_iff_ne] at h;exact⟨h.1.1.1.1.1,h.1.1.1.1.2⟩
section
variable {W:Q8}{m:MW}{w:Wo}{bs:List Nat}{p:OA}
def zj0(W:Q8)(g:Int):List Int:=if g=0 then [] else Ap W (gi W.groups g).parent
theorem zfg{W:Q8}(ht:ZX W.groups){g:Int}(hu:Q6 W.groups g=true):g::zj0 W g=Ap W g:=by
 unfold zj0
 by_cases hz:g=0
 ·subst hz; rw[if_pos rfl,zbt]
 ·rw[if_neg hz,zbu ht hu hz]
theorem Kz{t:Int}(h:Xt [] w W m)(ht:ZX W.groups)(t0:0<=t)(t1:t<(W.tasks.length:Int))(hu:Q6 W.groups (Q7 W t).group=true) :
  Cz Ud #[.agg (Qa W m).toArray,.int .i64 t] w fun e w'=>∃o c',e=.returned (.slice o (Ap W (Q7 W t).group).length c')/\U4 Ji 1 Qd w.heap.size w' o c' (Ap W (Q7 W t).group)/\Q0 [] w w':=by
 refine(NN W.now m.cO W.cpus.length m.cC m.tO W.tasks.length m.tC m.gO W.groups.length m.gC t (R:=fun v w'=>∃o c',v=.slice o (Ap W (Q7 W t).group).length c'/\U4 Ji 1 Qd w.heap.size w' o c' (Ap W (Q7 W t).group)/\Q0 [] w w') ?_).mono fun e w' ⟨v,he,o,c',hv,h1⟩=>⟨o,c',by rw[he,hv],h1⟩
 intro b hb;refine⟨h.t.ix Qy t0 t1,_,h.t.f t0 t1 (j:=1) rfl,fun b1 wb hx1 hb1 hcell hn=>?_⟩;have hlen:=zod W (Q7 W t).group;have hO0:U4 Ji 1 Qd w.heap.size wb (some ⟨b1,0,none⟩) 1 [(Q7 W t).group]:=.inr ⟨b1,[],rfl,hb1,hcell,by simp[Ji],by simp⟩;have hbn:∀x∈[b],w.heap.size<=x:=by simpa using hb
 refine⟨fun vs w1=>∃(g:Int) (l:List Int) (o:OA) (c':Nat),vs=[.int .i64 g,.slice o l.length c']/\Q6 W.groups g=true/\l++zj0 W g=Ap W (Q7 W t).group/\Sc w [b] w1/\Ob Ji 1 Qd w.heap.size [b] w1 o c' l,fun vs _=>(dep 3 W.groups (ZZ 0 vs)).toNat,
  fun wr hx _=>⟨_,[(Q7 W t).group],_,1,rfl,hu,zfg ht hu,(Sc.mk hx1 hbn).step hx,⟨hO0.ext hx (by simp[QB]; exact fun e=>hn (by simp[e])),by simp[QB]; exact fun e=>hn (by simp[e])⟩⟩,?_⟩
 rintro g oO oL oC w1 hs1 ⟨g',l,o',c',he,hug,hI,s1,hO⟩;simp only[List.cons.injEq,Value.int.injEq,Value.slice.injEq,true_and,and_true] at he;obtain⟨rfl,rfl,rfl,rfl⟩:=he;have hg:=((h.wide (cs:=[b]) fun x hm=>.inr (hbn x hm)).ext s1.ext.of_nil).g
 have hll:l.length<=4:=by
  have:=congrArg List.length hI;simp at this;omega
 refine⟨fun hz=>?_,fun hz wr hx=>?_⟩
 ·have hz:g≠0:=by simpa using hz
  obtain⟨hp,a,b',d,e,e2,hd⟩:=ZY ht hug hz;refine⟨hg.ix a b',_,hg.parent a b',fun b2 hb2 wr1 hx2 hs2 hcell2=>?_⟩;have s2:=s1.put hx2 hb2;have hO2:=hO.put hx2 hb2;obtain⟨o2,c2,w2,hrun,hk2,hO3,hx3⟩:=hO2.app1 Y5 PM (x:=(gi W.groups g).parent) hs2 s2.ext.size hcell2 (zxe _) (by omega) (by decide) Zs #[false,false];have s3:=s2.call hx3 fun x hm=>(hO2.own.lt x hm).1
  refine⟨_,_,_,w2,hrun,hk2,fun wr2 hx4 _=>⟨⟨_,l++[(gi W.groups g).parent],o2,c2,rfl,hp,?_,(s3.step hx4).sub (by simp),(hO3.step hx4).sub (by simp)⟩,?_⟩⟩
  ·rw[List.append_assoc,List.singleton_append,zfg ht hp,<-hI];unfold zj0;rw[if_neg hz]
  ·show (dep 3 W.groups (gi W.groups g).parent).toNat<(dep 3 W.groups g).toNat;omega
 ·have hz:g=0:=by simpa using hz
  subst hz
  have hl:l=Ap W (Q7 W t).group:=by
   rw[<-hI];unfold zj0;rw[if_pos rfl,List.append_nil]
  subst hl;exact⟨oO,oC,rfl,(hO.step hx).own,(s1.step hx).ext⟩
theorem Kx{t c:Int}(h:Xt bs w W m)(wp:YW W)(t0:0<=t)(t1:t<(W.tasks.length:Int))(c0:0<=c)(c1:c<(W.cpus.length:Int)):PX bs Ub #[.agg (Qa W m).toArray,.int .i64 t,.int .i64 c] w (.bool (ZP W t c)):=by
 refine Oi fun wr0 hx0=>NJ W.now m.cO W.cpus.length m.cC m.tO W.tasks.length m.tC m.gO W.groups.length m.gC t c (R:=fun v w'=>v=.bool (ZP W t c)/\Q0 [] wr0 w') ?_
 have h:=(h.ext hx0).less (cs:=[]) (by simp);have li:((Q7 W t).state != 1)=false->Q6 W.groups (Q7 W t).group=true/\0<=(Q7 W t).cpu/\(Q7 W t).cpu<(W.cpus.length:Int):=fun hs=>wp.li t0 t1 (by simpa using hs)
 intro b hb;refine⟨h.t.ix Qy t0 t1,_,_,_,_,_,_,_,_,_,h.t t t0 t1,fun b1 hb1=>?_⟩;refine⟨fun g=>?_,(gi W.cpus (Q7 W t).cpu).cur,fun g=>?_,Z9 W t,fun g=>?_,Qp W (Q7 W t).group (Q7 W t).mask,fun g=>?_,_,fun g=>Zy,fun g wr hx=>?_,fun g wr1 hx1 hs1=>?_⟩
 ·have g:(((Q7 W t).state != 1)||((Q7 W t).cpu==c))=false:=g;simp only[Bool.or_eq_false_iff] at g;have:=li g.1;exact h.c.ix ZH this.2.1 this.2.2
 ·have g:(((Q7 W t).state != 1)||((Q7 W t).cpu==c))=false:=g;simp only[Bool.or_eq_false_iff] at g;have:=li g.1;exact(h.c _ this.2.1 this.2.2).get 1 _ rfl
 ·exact UW h wp.a t0 t1 fun hs=>wp.li t0 t1 hs
 ·have g:(((((Q7 W t).state != 1)||((Q7 W t).cpu==c))||((gi W.cpus (Q7 W t).cpu).cur==t))||(!Z9 W t))=false:=g;simp only[Bool.or_eq_false_iff] at g;exact Xg h wp.a.c2 wp.a.tree (li g.1.1.1).1
 ·have:ZP W t c=false:=by
   unfold ZP;rw[show ((((((Q7 W t).state != 1)||((Q7 W t).cpu==c))||((gi W.cpus (Q7 W t).cpu).cur==t))||(!Z9 W t))||(!QP (Qp W (Q7 W t).group (Q7 W t).mask) c))=true from g];rfl
  rw[this]; exact⟨rfl,hx⟩
 have g:((((((Q7 W t).state != 1)||((Q7 W t).cpu==c))||((gi W.cpus (Q7 W t).cpu).cur==t))||(!Z9 W t))||(!QP (Qp W (Q7 W t).group (Q7 W t).mask) c))=false:=g;have eC:ZP W t c = !HE W (Q7 W t).group c:=by unfold ZP; rw[g]; rfl
 simp only[Bool.or_eq_false_iff] at g;obtain⟨hu,_,_⟩:=li g.1.1.1.1;rw[eC]
 have hbn:∀x∈[b,b1],wr0.heap.size<=x:=by
  intro x hm;simp only[List.mem_cons,List.not_mem_nil,or_false] at hm;rcases hm with rfl | rfl
  ·exact hb
  ·exact hb1
 refine(Kz (h.ext hx1) wp.a.tree t0 t1 hu).mono fun e w2 ⟨o,c',he,hO,hx2⟩=>⟨_,_,_,he,Qe hx2 hs1,?_⟩
 have hplen:=zod W (Q7 W t).group;have s2:Sc wr0 [b,b1] w2:=⟨hx1.trans hx2,hbn⟩;have hO2:Ob Ji 1 Qd wr1.heap.size [b,b1] w2 o c' (Ap W (Q7 W t).group):=Ob.of hO hs1
 refine TM (Ap W (Q7 W t).group).length 0 rfl (fun k w3=>k<=(Ap W (Q7 W t).group).length/\Sc wr0 [b,b1] w3/\Ob Ji 1 Qd wr1.heap.size [b,b1] w3 o c' (Ap W (Q7 W t).group)/\∀j:Nat,j<k->UB W (gi (Ap W (Q7 W t).group) (j:Int)) c=false)
  (fun w3 hx3 _=>⟨Nat.zero_le _,s2.step hx3,hO2.step hx3,fun j hj=>absurd hj (Nat.not_lt_zero j)⟩) fun k w3 _ ⟨hk,s3,hO3,hI⟩=>⟨fun hlt=>?_,fun hge wr hx=>?_⟩
 ·have hlt:=Ot hlt;have hR:=hO3.rd Y5.len;have hgm:=FB (l:=Ap W (Q7 W t).group) (i:=(k:Int)) (by omega) hlt;have hW3:=(h.wide (cs:=[b,b1]) fun x hm=>.inr (hbn x hm)).ext s3.ext.of_nil;refine⟨hR.ix VI (by omega) hlt,_,hR (k:Int) (by omega) hlt,_,Kc hW3 wp.a (zs7 wp.a.tree hu _ hgm) c0 c1,fun gd wr hx=>⟨?_,(s3.step hx).ext⟩,fun gd=>⟨⟨by omega,by omega⟩,fun wr hx _=>QM (by omega) ⟨by omega,s3.step hx,hO3.step hx,fun j hj=>?_⟩⟩⟩
  ·have:HE W (Q7 W t).group c=true:=List.any_eq_true.2 ⟨_,hgm,gd⟩;rw[this]; rfl
  ·by_cases hjk:j<k
   ·exact hI j hjk
   ·have:j=k:=by omega
    subst this; exact gd
 ·have hge:=Ou hge;have hkn:k=(Ap W (Q7 W t).group).length:=by omega
  have:HE W (Q7 W t).group c=false:=by
   cases hd:HE W (Q7 W t).group c with
   | false=>rfl
   | true=>
    obtain⟨x,hx,hdx⟩:=List.any_eq_true.1 hd;obtain⟨j,hj,hjx⟩:=List.getElem_of_mem hx;have:=hI j (by omega);rw[J2 hj,hjx,hdx] at this;cases this
  rw[this]; exact⟨rfl,(s3.step hx).ext⟩
theorem Ks{t c:Int}(h:TW bs w p W m)(wp:YW W)(t0:0<=t)(t1:t<(W.tasks.length:Int))(c0:0<=c)(c1:c<(W.cpus.length:Int)):PX bs Xq #[.agg #[.pointer p,.int .i64 c],.int .i64 t] w (.bool (ZP W t c)):=
 LN p c t fun wr hx=>by
  have h:=(h.ext hx).less (cs:=[]) (by simp);have li:((Q7 W t).state != 1)=false->Q6 W.groups (Q7 W t).group=true/\0<=(Q7 W t).cpu/\(Q7 W t).cpu<(W.cpus.length:Int):=fun hs=>wp.li t0 t1 (by simpa using hs)
  refine fun _ _=>⟨h.some,_,_,_,h.tasks,h.rd.t.ix Qy t0 t1,_,_,_,_,_,_,_,_,_,h.rd.t t t0 t1,fun _ _=>⟨fun g=>?_,fun g=>?_⟩⟩
  ·have g:(((Q7 W t).state != 1)||((Q7 W t).cpu==c))=true:=g;have:ZP W t c=false:=by unfold ZP; rw[g]; rfl
   rw[this]
  have g1:(((Q7 W t).state != 1)||((Q7 W t).cpu==c))=false:=g;have g2:=g1;simp only[Bool.or_eq_false_iff] at g2;obtain⟨hu,k0,k1⟩:=li g2.1;have eL:(((Q7 W t).cpu==(Q7 W t).cpu)&&Z9 W t)=Z9 W t:=by rw[beq_self_eq_true,Bool.true_and]
  have hin:=Mn (c:=(Q7 W t).cpu) h wp.a t0 t1 k0 k1 (fun hs=>(wp.li t0 t1 hs).1);rw[eL] at hin;refine⟨p,_,XD,fun _ _=>⟨Z9 W t,hin,_,fun _=>zlg h k0 k1,fun _=>?_,(gi W.cpus (Q7 W t).cpu).cur,fun _=>?_,_,fun _=>Lq h wp.a.c2 wp.a.tree t0 t1 hu,_,fun _=>Lo,fun g=>?_,fun g=>?_⟩⟩
  ·obtain⟨a,ha,_⟩:=(h.rd.c _ k0 k1).get 0 _ rfl;rw[ha]; rfl
  ·exact zin (h.rd.c _ k0 k1) (j:=1) rfl
  ·have g:((((!Z9 W t))||((gi W.cpus (Q7 W t).cpu).cur==t))||(!QP (Qp W (Q7 W t).group (Q7 W t).mask) c))=true:=g
   have:ZP W t c=false:=by
    unfold ZP;rw[g1,Bool.false_or]
    revert g
    cases Z9 W t <;> cases ((gi W.cpus (Q7 W t).cpu).cur==t) <;> cases QP (Qp W (Q7 W t).group (Q7 W t).mask) c <;> simp
   rw[this]
  have g:((((!Z9 W t))||((gi W.cpus (Q7 W t).cpu).cur==t))||(!QP (Qp W (Q7 W t).group (Q7 W t).mask) c))=false:=g
  have eC:ZP W t c = !HE W (Q7 W t).group c:=by
   unfold ZP;rw[g1,Bool.false_or]
   revert g
   cases Z9 W t <;> cases ((gi W.cpus (Q7 W t).cpu).cur==t) <;> cases QP (Qp W (Q7 W t).group (Q7 W t).mask) c <;> simp
  rw[eC];have ht:=wp.a.tree;refine⟨fun vs=>∃x:Int,vs=[.int .i64 x]/\((x = -1/\HE W (Q7 W t).group c=false)\/(Q6 W.groups x=true/\HE W x c=HE W (Q7 W t).group c)),fun vs=>if ZZ 0 vs = -1 then 0 else (dep 3 W.groups (ZZ 0 vs)).toNat+1,⟨_,rfl,.inr ⟨hu,rfl⟩⟩,?_⟩;rintro x ⟨x',he,hI⟩;simp only[List.cons.injEq,Value.int.injEq,true_and,and_true] at he;subst he;refine⟨fun hne=>?_,fun heq=>?_⟩
  ·have hne:x≠-1:=by simpa using hne
   rcases hI with ⟨h1,_⟩ | ⟨hux,hI⟩
   ·exact absurd h1 hne
   ·obtain⟨x0,x1,_⟩:=Q5.1 hux;refine⟨_,y9 h wp.a hux c0 c1,fun gd=>?_,fun gd=>⟨h.some,_,_,_,h.groups,h.rd.g.ix x0 x1,_,h.rd.g.parent x0 x1,?_,?_⟩⟩
    ·have:HE W (Q7 W t).group c=true:=by
      rw[<-hI]
      by_cases hz:x=0
      ·subst hz; rw[zeo,gd]
      ·rw[zep ht hux hz,gd]; rfl
     rw[this]; rfl
    ·by_cases hz:x=0
     ·subst hz;exact⟨_,rfl,.inl ⟨ht.rp,by rw[<-hI,zeo,gd]⟩⟩
     ·refine⟨_,rfl,.inr ⟨(ZY ht hux hz).1,?_⟩⟩;rw[<-hI,zep ht hux hz,gd]; rfl
    ·show (if (gi W.groups x).parent = -1 then 0 else (dep 3 W.groups (gi W.groups x).parent).toNat+1)<(if x = -1 then 0 else (dep 3 W.groups x).toNat+1);rw[if_neg hne]
     by_cases hz:x=0
     ·subst hz; rw[if_pos ht.rp]; omega
     ·obtain⟨_,_,_,d,e,e2,_⟩:=ZY ht hux hz
      split <;> omega
  ·have heq:x = -1:=by simpa using heq
   rcases hI with ⟨_,h2⟩ | ⟨hux,_⟩
   ·rw[h2]; rfl
   ·have:=(Q5.1 hux).1;omega
end
end Go.Proofs.YtclpmgfpjeaibaaGreat
