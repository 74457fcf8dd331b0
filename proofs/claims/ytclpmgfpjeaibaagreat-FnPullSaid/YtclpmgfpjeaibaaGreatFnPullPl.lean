/- Part 12 of what the law FnPull needs: the engine, the functions' propositions, the contracts. -/
import Derived.Test.YtclpmgfpjeaibaaGreatFnPullPk
namespace Go.Proofs.YtclpmgfpjeaibaaGreat
open Go.RowKit
set_option linter.unusedVariables false
set_option linter.unusedSimpArgs false
set_option maxRecDepth 10000
set_option maxHeartbeats 8000000
structure zte (W:Q8):Prop where
 n1:0<=W.now
 n2:W.now<=100000000000000000
 c1:1<=W.cpus.length
 c2:W.cpus.length<=4
 t:W.tasks.length=12
 tree:ZX W.groups
 ups:Jr W.cpus≠0
structure zx2 (W:Q8) (g:ZF):Prop where
 none:g.band.quota=0->TN g.band=true/\g.period=0/\g.next=0
 band:g.band.quota≠0->Tc g.band/\g.band.locals.length=W.cpus.length/\1<=g.period/\g.period<=1000/\W.now<g.next/\g.next-W.now<=g.period
structure zx0 (W:Q8) (g:ZF):Prop where
 w1:1<=g.weight
 w2:g.weight<=20
 m:P0 g.cpus=true
 m0:g.cpus≠0
 s:ZA g.sum=true
 len:g.shelves.length=W.cpus.length
 q:zx2 W g
def ztj(W:Q8)(k:Int):Prop:=((gi W.groups k).used=false->zqh (gi W.groups k))/\((gi W.groups k).used=true->zx0 W (gi W.groups k))
theorem E4{W:Q8}{k:Int}:Md W k↔ztj W k/\((gi W.groups k).used=true->k=0->(gi W.groups k).weight=10/\(gi W.groups k).cpus=15/\(gi W.groups k).band.quota=0):=by
 constructor
 ·intro p;exact⟨⟨p.1,fun hu=>by have q:=p.2 hu; exact⟨q.w1,q.w2,q.m,q.m0,q.s,q.len,⟨q.none,q.band⟩⟩⟩,fun hu=>(p.2 hu).root⟩
 ·rintro⟨p,r⟩;exact⟨p.1,fun hu=>by have q:=p.2 hu; exact⟨q.w1,q.w2,q.m,q.m0,q.s,q.len,r hu,q.q.none,q.q.band⟩⟩
section
variable {W:Q8}{m:MW}{w:Wo}{bs:List Nat}{p:OA}
theorem z5{k:Int}(h:TW bs w p W m)(n1:0<=W.now)(n2:W.now<=100000000000000000)(k0:0<=k)(k1:k<(W.groups.length:Int))(hf:zfy (gi W.groups k)) :
  PX bs Xn #[.pointer p,.agg (YF (gi W.groups k) (m.ms k.toNat)).toArray] w (.bool (JJ (zx2 W (gi W.groups k)))):=
 LK p (gi W.groups k).used (gi W.groups k).parent (gi W.groups k).name (gi W.groups k).weight (gi W.groups k).cpus (gi W.groups k).period (gi W.groups k).next (gi W.groups k).sum (gi W.groups k).band.quota (gi W.groups k).band.pool (gi W.groups k).band.spent (m.ms k.toNat).lO (gi W.groups k).band.locals.length (m.ms k.toNat).lC (m.ms k.toNat).dO (gi W.groups k).band.dry.length (m.ms k.toNat).dC (m.ms k.toNat).sO (gi W.groups k).shelves.length (m.ms k.toNat).sC fun wr hx=>by
  have h:=(h.ext hx).less (cs:=[]) (by simp)
  have hp:((JJ (Tc (gi W.groups k).band)&&(((gi W.groups k).band.locals.length:Nat):Int)==((W.cpus.length:Nat):Int))&&Yh (gi W.groups k).period 1 1000)=true->1<=(gi W.groups k).period/\(gi W.groups k).period<=1000:=fun q=>by
   simp only[Bool.and_eq_true] at q;exact Qm.1 q.2
  refine fun _ _=>⟨_,Kr (b:=(gi W.groups k).band) (m:=m.ms k.toNat),fun g=>OM ?_,fun g=>⟨_,zc7 (b:=(gi W.groups k).band) (m:=m.ms k.toNat) (h.rd.g.locals k k0 k1) (h.rd.g.dry k k0 k1) hf.lo,fun _=>h.some,_,_,_,fun _=>h.cpus,_,fun _=>Qu,fun _=>h.some,_,fun _=>h.now,fun _=>⟨by omega,by omega⟩,fun _=>h.some,_,fun _=>h.now,fun q=>⟨by have:=hp q; omega,by have:=hp q; omega⟩,_,fun _=>Qu,OM ?_⟩⟩
  ·have q0:=(zan g).1;simp only[Bool.and_eq_true,beq_iff_eq];exact⟨fun e=>⟨fun _=>⟨g,e.1,e.2⟩,fun hne=>absurd q0 hne⟩,fun q=>(q.none q0).2⟩
  ·simp only[Bool.and_eq_true,beq_iff_eq,Qh,Qm];constructor
   ·rintro⟨⟨⟨e1,e2⟩,e3⟩,e4⟩;have:=e1.q1;exact⟨fun hz=>by omega,fun _=>⟨e1,by omega,e3.1,e3.2,by omega,by omega⟩⟩
   ·intro q
    have hq:(gi W.groups k).band.quota≠0:=fun e=>by
     have:=(q.none e).1;rw[this] at g; cases g
    have r:=q.band hq;exact⟨⟨⟨r.1,by have:=r.2.1; omega⟩,r.2.2.1,r.2.2.2.1⟩,by have:=r.2.2.2.2.1; omega,by have:=r.2.2.2.2.2; omega⟩
theorem NP(h:TW bs w p W m)(hs:zte W)(hf:∀i:Int,0<=i->i<(W.groups.length:Int)->zfy (gi W.groups i)):PX bs YY #[.pointer p] w (.bool (JJ (∀k:Int,0<=k->k<8->Md W k))):=
 KS p fun wr hx=>by
  have h:=(h.ext hx).less (cs:=[]) (by simp);have hgl:=hs.tree.len;refine⟨h.some,_,_,_,h.groups,?_⟩;refine Xi W.groups.length 0 rfl (fun k=>k<=W.groups.length/\∀j:Int,0<=j->j<(k:Int)->ztj W j) ⟨Nat.zero_le _,fun j h0 h1=>by omega⟩ fun k ⟨hk,hI⟩=>⟨fun hlt=>?_,fun hge=>?_⟩
  ·have hlt:=Ot hlt;have k0:(0:Int)<=(k:Int):=by omega
   have nxt:ztj W (k:Int)->∀j:Int,0<=j->j<((k+1:Nat):Int)->ztj W j:=fun hq j h0 h1=>by
    by_cases hjk:j<(k:Int)
    ·exact hI j h0 hjk
    ·have:j=(k:Int):=by omega
     subst this; exact hq
   refine⟨h.rd.g.ix k0 hlt,_,_,_,_,_,_,_,_,_,_,_,_,_,_,_,_,_,_,_,_,h.rd.g.cells k k0 hlt,fun _ _=>⟨fun g=>?_,fun g=>?_⟩⟩
   ·have hu:(gi W.groups (k:Int)).used=false:=by simpa using g
    refine⟨_,FF (g:=gi W.groups (k:Int)) (m:=m.ms (k:Int).toNat) hu,fun g2=>KQ fun pp=>?_,fun g2=>⟨⟨by omega,by omega⟩,Qs (by omega) ⟨by omega,nxt ⟨fun _=>Qh.1 (by simpa using g2),fun hu'=>by rw[hu'] at hu; cases hu⟩⟩⟩⟩;have g2:JJ (zqh (gi W.groups (k:Int)))=false:=by simpa using g2
    exact HC.1 g2 ((E4.1 (pp (k:Int) k0 (by omega))).1.1 hu)
   ·have hu:(gi W.groups (k:Int)).used=true:=by simpa using g
    have bad:¬zx0 W (gi W.groups (k:Int))->¬∀k:Int,0<=k->k<8->Md W k:=fun hn pp=>hn ((E4.1 (pp (k:Int) k0 (by omega))).1.2 hu)
    refine⟨_,OE,_,fun _=>Ku,fun g2 b1 hb1=>⟨ZA (gi W.groups (k:Int)).sum,fun _ wx hxw hcx=>zy9 hcx,fun _=>h.some,_,_,_,fun _=>h.cpus,_,fun _=>z5 h hs.n1 hs.n2 k0 hlt (hf _ k0 hlt),fun g3=>KQ (bad fun q=>?_),fun g3=>⟨⟨by omega,by omega⟩,Qs (by omega) ⟨by omega,nxt ⟨fun hu'=>(by rw[hu'] at hu; cases hu),fun _=>?_⟩⟩⟩⟩,fun g2=>⟨fun e=>(by cases e),none,0,0,fun e=>(by cases e),false,fun e=>(by simp at e),fun g3=>KQ (bad fun q=>g2 ?_),fun g3=>(by simp at g3)⟩⟩
    ·have e1:Yh (gi W.groups (k:Int)).weight 1 20=true:=Qm.2 ⟨q.w1,q.w2⟩;have e2:((gi W.groups (k:Int)).cpus != 0)=true:=by simpa using q.m0
     have e5:(((gi W.groups (k:Int)).shelves.length:Nat):Int)=((W.cpus.length:Nat):Int):=by have:=q.len; omega
     rw[e1,e2,q.m,q.s,e5,Qh.2 q.q] at g3;simp at g3
    ·simp only[Bool.or_eq_false_iff,Bool.not_eq_false',bne_eq_false_iff_eq,Qm,Bool.and_eq_true,bne_iff_ne,Qh] at g3;obtain⟨⟨⟨⟨a1,a2⟩,a3⟩,a4⟩,a5⟩:=g3;exact⟨a1.1,a1.2,a2.2,a2.1,a3,by omega,a5⟩
    ·have e1:Yh (gi W.groups (k:Int)).weight 1 20=true:=Qm.2 ⟨q.w1,q.w2⟩;have e2:((gi W.groups (k:Int)).cpus != 0)=true:=by simpa using q.m0
     rw[e1,e2,q.m]; rfl
  ·have hge:=Ou hge;have h0:(0:Int)<(W.groups.length:Int):=by omega
   refine⟨h.some,_,_,_,h.groups,h.rd.g.ix (by decide) h0,_,_,_,_,_,_,_,_,_,_,_,_,_,_,_,_,_,_,_,_,h.rd.g.cells 0 (by decide) h0,fun _ _=>OM ?_⟩;simp only[Bool.and_eq_true,beq_iff_eq];constructor
   ·rintro⟨⟨e1,e2⟩,e3⟩ j j0 j1;exact E4.2 ⟨hI j j0 (by omega),fun _ hj=>by subst hj; exact⟨e1,e2,e3⟩⟩
   ·intro pp;have r:=(E4.1 (pp 0 (by decide) (by decide))).2 hs.tree.ru rfl;exact⟨⟨r.1,r.2.1⟩,r.2.2⟩
theorem zte.wa(hs:zte W)(hg:∀k:Int,0<=k->k<8->Md W k):WA W:=⟨hs.n1,hs.n2,hs.c1,hs.c2,hs.t,hs.tree,hs.ups,hg⟩
theorem zr6{n:Int}:Yh n (-10) 9=true↔Qc n≠0:=by
 unfold Qc
 cases h:Yh n (-10) 9 with
 | true=>
  have:=Qm.1 h;simp; omega
 | false=>simp
def AL(W:Q8)(t:Int):Prop:=BV W t/\((Q7 W t).state=1->ZA (Qb W (Q7 W t).group (Q7 W t).cpu).floor=true)
theorem z7(h:TW bs w p W m)(ha:WA W)(lg:W.groups.length<=maxLen):PX bs Xp #[.pointer p] w (.bool (JJ (∀t:Int,0<=t->t<12->AL W t))):=
 LM p fun wr hx=>by
  have h:=(h.ext hx).less (cs:=[]) (by simp);have hgl:=ha.gl;have htl:=ha.t;refine⟨h.some,_,_,_,h.tasks,?_⟩;refine Xi W.tasks.length 0 rfl (fun k=>k<=W.tasks.length/\∀j:Int,0<=j->j<(k:Int)->AL W j) ⟨Nat.zero_le _,fun j h0 h1=>by omega⟩ fun k ⟨hk,hI⟩=>⟨fun hlt=>?_,fun hge=>?_⟩
  ·have hlt:=Ot hlt;have k0:(0:Int)<=(k:Int):=by omega
   have nxt:AL W (k:Int)->Qj .i64 ((k:Int)+1)/\zos (fun k=>k<=W.tasks.length/\∀j:Int,0<=j->j<(k:Int)->AL W j) [.int .i64 ((k:Int)+1)]/\Jh W.tasks.length 0 [.int .i64 ((k:Int)+1)]<Jh W.tasks.length 0 [.int .i64 (k:Int)]:=fun hq=>⟨⟨by omega,by omega⟩,Qs (by omega) ⟨by omega,fun j h0 h1=>by
    by_cases hjk:j<(k:Int)
    ·exact hI j h0 hjk
    ·have:j=(k:Int):=by omega
     subst this; exact hq⟩⟩
   have bad:¬AL W (k:Int)->¬∀t:Int,0<=t->t<12->AL W t:=fun hn pp=>hn (pp (k:Int) k0 (by omega))
   refine⟨h.rd.t.ix Qy k0 hlt,_,_,_,_,_,_,_,_,_,h.rd.t k k0 hlt,fun _ _=>⟨_,fun wq=>zbf zet (zm6 (gi W.tasks (k:Int)) Tm) _ _ wq,fun g=>?_,fun g=>?_⟩⟩
   ·rw[zh5,decide_eq_true_eq] at g;have hz:Q7 W (k:Int)=Tm:=g;exact nxt ⟨.inl ⟨by rw[hz]; rfl,hz⟩,fun e=>by rw[hz] at e; cases e⟩
   ·rw[zh5,decide_eq_false_iff_not] at g;have hz:¬Q7 W (k:Int)=Tm:=g
    have get:AL W (k:Int)->ztm W (gi W.tasks (k:Int)):=fun q=>by
     rcases q.1 with ⟨_,e⟩ | ⟨_,q⟩
     ·exact absurd e hz
     ·exact q
    refine⟨fun _=>h.some,_,_,_,fun _=>h.groups,_,fun _=>MJ (c:=m.gC) h.rd.g lg,_,fun _=>Hb,_,fun _=>Ku,fun g2=>KQ (bad fun q=>?_),fun g2 b1 hb1=>?_⟩
    ·have q:=get q;have e3:Yh (gi W.tasks (k:Int)).nice (-10) 9=true:=zr6.2 q.n;have e4:((gi W.tasks (k:Int)).mask != 0)=true:=by simpa using q.m0
     rw[q.g,e3,q.m,e4] at g2;simp only[Bool.not_true,Bool.or_false,Bool.and_true,Bool.and_eq_true,bne_iff_ne] at g2;have:=q.st;omega
    ·simp only[Bool.or_eq_false_iff,Bool.not_eq_false',Bool.and_eq_true,bne_iff_ne] at g2;obtain⟨⟨⟨a1,a2⟩,a3⟩,a4⟩:=g2
     have st:(gi W.tasks (k:Int)).state=1\/(gi W.tasks (k:Int)).state=2:=by
      by_cases h1:(gi W.tasks (k:Int)).state=1
      ·exact .inl h1
      ·refine .inr ?_;have:((gi W.tasks (k:Int)).state != 1)=true:=by simpa using h1
       rw[this,Bool.true_and] at a1
       simpa using a1
     refine⟨_,fun wx hxw hcx=>zzi hcx,_,fun _=>zdc,_,fun _=>Lq h ha.c2 ha.tree k0 hlt a2,_,fun _=>Lo,fun g3=>KQ (bad fun q=>?_),fun g3=>?_⟩
     ·have q:=get q;have e4:Yh (gi W.tasks (k:Int)).load 0 8000000=true:=Qm.2 ⟨q.l1,q.l2⟩;have e5:QP (Qp W (Q7 W (k:Int)).group (Q7 W (k:Int)).mask) (gi W.tasks (k:Int)).cpu=true:=q.c;rw[q.v,q.s,q.u,e4,e5] at g3;cases g3
     ·simp only[Bool.or_eq_false_iff,Bool.not_eq_false',Qm,Bool.and_eq_true] at g3;obtain⟨⟨b1',b2⟩,b3⟩:=g3;obtain⟨u1,u2,_⟩:=Q5.1 a2;obtain⟨c0,c1⟩:=L9 ha b3;have hsl:=ha.sl a2;have c2:(gi W.tasks (k:Int)).cpu<((gi W.groups (gi W.tasks (k:Int)).group).shelves.length:Int):=by omega
      have sh:=h.sh (g:=(gi W.tasks (k:Int)).group) u1 u2 c0 c2
      have mk:(((Q7 W (k:Int)).state=1->ZA (Qb W (Q7 W (k:Int)).group (Q7 W (k:Int)).cpu).floor=true/\Mu (gi W.tasks (k:Int)).v (Qb W (gi W.tasks (k:Int)).group (gi W.tasks (k:Int)).cpu).floor (Qc (gi W.tasks (k:Int)).nice)=true))->AL W (k:Int):=fun hf=>⟨.inr ⟨fun e=>by
        have e:(gi W.tasks (k:Int)).state=0:=e;omega,⟨st,a2,zr6.1 a3,a4.2,a4.1,b1'.1,b1'.2.1,b1'.2.2,b2.1,b2.2,b3,fun e=>(hf e).2⟩⟩,fun e=>(hf e).1⟩
      refine⟨_,_,XD,_,YZ h u1 u2 c0 c2,sh.1,_,sh.2 (j:=0) rfl,fun _ b2 hb2=>⟨ZA (Qb W (gi W.tasks (k:Int)).group (gi W.tasks (k:Int)).cpu).floor,fun _ wx hxw hcx=>zy9 hcx,_,fun _ _=>OD,_,fun g4 _=>Lr b1'.1 (by simpa using g4),fun g4=>KQ (bad fun q=>?_),fun g4=>nxt (mk fun e=>?_)⟩,fun g4=>⟨fun e=>(by cases e),fun _=>nxt (mk fun e=>absurd (beq_iff_eq.2 e) g4)⟩⟩
      ·simp only[Bool.and_eq_true,beq_iff_eq,Bool.or_eq_true,Bool.not_eq_true'] at g4;have e1:=(get q).f g4.1;have e2:=q.2 g4.1;rcases g4.2 with g5 | g5
       ·have e2:ZA (Qb W (gi W.tasks (k:Int)).group (gi W.tasks (k:Int)).cpu).floor=true:=e2;rw[e2] at g5; cases g5
       ·rw[e1] at g5; cases g5
      ·have e':((gi W.tasks (k:Int)).state==1)=true:=beq_iff_eq.2 e;rw[e',Bool.true_and] at g4;simp only[Bool.or_eq_false_iff,Bool.not_eq_false'] at g4;exact g4
  ·have hge:=Ou hge;exact zkl fun t h0 h1=>hI t h0 (by omega)
theorem FH(h:TW bs w p W m)(ha:WA W)(hf:∀i:Int,0<=i->i<(W.groups.length:Int)->zfy (gi W.groups i)):PX bs YN #[.pointer p] w (.bool (JJ (∀k c:Int,0<=k->k<8->0<=c->c<((gi W.groups k).shelves.length:Int)->Me W k c))):=
 Kh p fun wr hx=>by
  have h:=(h.ext hx).less (cs:=[]) (by simp);have hgl:=ha.gl;have hcl:=ha.c2
  let TS:=fun (k c:Int)=>ZA (Qb W k c).floor=true/\ZA (Qb W k c).v=true/\ZA (Qb W k c).sum=true/\1<=(Qb W k c).w/\(Qb W k c).w<=20
  have ts:(∀k c:Int,0<=k->k<8->0<=c->c<((gi W.groups k).shelves.length:Int)->Me W k c)->∀k c:Int,0<=k->k<8->0<=c->c<((gi W.groups k).shelves.length:Int)->TS k c:=fun q k c h0 h1 h2 h3=>by
   have r:=q k c h0 h1 h2 h3;exact⟨r.f,r.v,r.s,r.w1,r.w2⟩
  refine⟨h.some,_,_,_,h.groups,?_⟩;refine Xi W.groups.length 0 rfl (fun k=>k<=W.groups.length/\∀j c:Int,0<=j->j<(k:Int)->0<=c->c<((gi W.groups j).shelves.length:Int)->TS j c) ⟨Nat.zero_le _,fun j c h0 h1=>by omega⟩ fun k ⟨hk,hI⟩=>⟨fun hlt=>?_,fun hge=>?_⟩
  ·have hlt:=Ot hlt;have k0:(0:Int)<=(k:Int):=by omega
   have hsm:(gi W.groups (k:Int)).shelves.length<=maxLen:=(hf _ k0 hlt).sh;refine⟨h.rd.g.ix k0 hlt,_,_,_,_,_,_,_,_,_,_,_,_,_,_,_,_,_,_,_,_,h.rd.g.cells k k0 hlt,fun _ _=>?_⟩;refine Xi (gi W.groups (k:Int)).shelves.length 0 rfl (fun c=>c<=(gi W.groups (k:Int)).shelves.length/\∀d:Int,0<=d->d<(c:Int)->TS (k:Int) d) ⟨Nat.zero_le _,fun j h0 h1=>by omega⟩ fun c ⟨hc,hJ⟩=>⟨fun hltc=>?_,fun hgec=>?_⟩
   ·have hltc:=Ot hltc;have c0:(0:Int)<=(c:Int):=by omega
    have rs:=h.rd.g.shelves (k:Int) k0 hlt;refine⟨rs.ix ZQ c0 hltc,_,_,_,_,_,rs c c0 hltc,fun _ _ b2 hb2=>⟨_,fun wx hxw hcx=>zzi hcx,_,fun _=>OE,fun g=>KQ fun q=>?_,fun g=>⟨zne hltc hsm,Qs (by omega) ⟨by omega,fun d h0 h1=>?_⟩⟩⟩⟩
    ·have r:=ts q (k:Int) (c:Int) k0 (by omega) c0 hltc;have e4:Yh (Qb W (k:Int) (c:Int)).w 1 20=true:=Qm.2 ⟨r.2.2.2.1,r.2.2.2.2⟩;have g':((!(ZA (Qb W (k:Int) (c:Int)).floor&&(ZA (Qb W (k:Int) (c:Int)).v&&ZA (Qb W (k:Int) (c:Int)).sum))) || !Yh (Qb W (k:Int) (c:Int)).w 1 20)=true:=g;rw[r.1,r.2.1,r.2.2.1,e4] at g'
     cases g'
    ·by_cases hjk:d<(c:Int)
     ·exact hJ d h0 hjk
     ·have:d=(c:Int):=by omega
      subst this;have g':((!(ZA (Qb W (k:Int) (c:Int)).floor&&(ZA (Qb W (k:Int) (c:Int)).v&&ZA (Qb W (k:Int) (c:Int)).sum))) || !Yh (Qb W (k:Int) (c:Int)).w 1 20)=false:=g;simp only[Bool.or_eq_false_iff,Bool.not_eq_false',Bool.and_eq_true,Qm] at g';exact⟨g'.1.1,g'.1.2.1,g'.1.2.2,g'.2.1,g'.2.2⟩
   ·have hgec:=Ou hgec;refine⟨⟨by omega,by omega⟩,Qs (by omega) ⟨by omega,fun j d h0 h1 h2 h3=>?_⟩⟩
    by_cases hjk:j<(k:Int)
    ·exact hI j d h0 hjk h2 h3
    ·have:j=(k:Int):=by omega
     subst this;exact hJ d h2 (by omega)
  have hge:=Ou hge;have hT:∀j c:Int,0<=j->j<8->0<=c->c<((gi W.groups j).shelves.length:Int)->TS j c:=fun j c h0 h1=>hI j c h0 (by omega)
  refine⟨h.some,_,_,_,h.cpus,?_⟩;refine Xi W.cpus.length 0 rfl (fun c=>c<=W.cpus.length/\∀d k:Int,0<=d->d<(c:Int)->0<=k->k<8->d<((gi W.groups k).shelves.length:Int)->Me W k d) ⟨Nat.zero_le _,fun j k h0 h1=>by omega⟩ fun c ⟨hc,hJ⟩=>⟨fun hltc=>?_,fun hgec=>?_⟩
  ·have hltc:=Ot hltc;have c0:(0:Int)<=(c:Int):=by omega
   obtain⟨r1,r2,_⟩:=Q5.1 ha.root;have hrc:(c:Int)<((gi W.groups 0).shelves.length:Int):=by rw[ha.sl ha.root]; exact hltc
   have sh:=h.sh (g:=0) r1 r2 c0 hrc;have tr:=hT 0 (c:Int) (by decide) (by decide) c0 hrc;refine⟨_,_,XD,fun _ _=>⟨_,YZ h r1 r2 c0 hrc,sh.1,(Qb W 0 (c:Int)).on,sh.2 (j:=1) rfl,fun _=>sh.1,(Qb W 0 (c:Int)).v,fun _=>sh.2 (j:=2) rfl,fun _=>sh.1,(Qb W 0 (c:Int)).w,fun _=>sh.2 (j:=3) rfl,fun g=>KQ fun q=>?_,fun g=>?_⟩⟩
   ·have r:=(q 0 (c:Int) (by decide) (by decide) c0 hrc).root rfl;rw[r.1,r.2.1,r.2.2] at g;simp at g
   simp only[Bool.or_eq_false_iff,bne_eq_false_iff_eq] at g;have root:Me W 0 (c:Int):=⟨tr.1,tr.2.1,tr.2.2.1,tr.2.2.2.1,tr.2.2.2.2,fun _=>⟨g.1.1,g.1.2,g.2⟩,fun hne=>absurd rfl hne,fun hne=>absurd rfl hne⟩
   refine Xi 8 1 rfl (fun k=>1<=k/\k<=8/\∀j:Int,0<=j->j<(k:Int)->(c:Int)<((gi W.groups j).shelves.length:Int)->Me W j (c:Int)) ⟨Nat.le_refl _,by omega,fun j h0 h1 _=>by
    have:j=0:=by omega
    subst this; exact root⟩ fun k ⟨hk1,hk,hK⟩=>⟨fun hlt=>?_,fun hge2=>?_⟩
   ·have hlt:=Ot hlt;have k0:(0:Int)<=(k:Int):=by omega
    have kl:(k:Int)<(W.groups.length:Int):=by omega
    have nxt:((c:Int)<((gi W.groups (k:Int)).shelves.length:Int)->Me W (k:Int) (c:Int))->Qj .i64 ((k:Int)+1)/\zos (fun k=>1<=k/\k<=8/\∀j:Int,0<=j->j<(k:Int)->(c:Int)<((gi W.groups j).shelves.length:Int)->Me W j (c:Int)) [.int .i64 ((k:Int)+1)]/\Jh 8 0 [.int .i64 ((k:Int)+1)]<Jh 8 0 [.int .i64 (k:Int)]:=fun hq=>⟨⟨by omega,by omega⟩,Qs (by omega) ⟨by omega,by omega,fun j h0 h1 h2=>by
     by_cases hjk:j<(k:Int)
     ·exact hK j h0 hjk h2
     ·have:j=(k:Int):=by omega
      subst this; exact hq h2⟩⟩
    refine⟨h.some,_,_,_,h.groups,h.rd.g.ix k0 kl,_,h.rd.g.used k0 kl,fun g2=>nxt fun hh=>?_,fun g2=>?_⟩
    ·have hu:(gi W.groups (k:Int)).used=false:=by simpa using g2
     have:=((ha.grp (k:Int) k0 (by omega)).1 hu).l;omega
    ·have hus:(gi W.groups (k:Int)).used=true:=by simpa using g2
     have hu:Q6 W.groups (k:Int)=true:=Q5.2 ⟨k0,kl,hus⟩;have hkc:(c:Int)<((gi W.groups (k:Int)).shelves.length:Int):=by rw[ha.sl hu]; exact hltc
     have hp:=ha.up hu (by omega);obtain⟨v1,v2,_⟩:=Q5.1 hp;have hpc:(c:Int)<((gi W.groups (gi W.groups (k:Int)).parent).shelves.length:Int):=by rw[ha.sl hp]; exact hltc
     have sk:=h.sh (g:=(k:Int)) k0 kl c0 hkc;have sp:=h.sh (g:=(gi W.groups (k:Int)).parent) v1 v2 c0 hpc;have tk:=hT (k:Int) (c:Int) k0 (by omega) c0 hkc;have tp:=hT (gi W.groups (k:Int)).parent (c:Int) v1 (by omega) c0 hpc;refine⟨_,YZ h k0 kl c0 hkc,sk.1,(Qb W (k:Int) (c:Int)).on,sk.2 (j:=1) rfl,_,zda h ha c0 hltc,_,fun _=>y9 h ha hu c0 hltc,fun _=>sk.1,(Qb W (k:Int) (c:Int)).on,fun _=>sk.2 (j:=1) rfl,fun _ _=>sk.1,(Qb W (k:Int) (c:Int)).v,fun _ _=>sk.2 (j:=2) rfl,fun _ _=>h.some,_,_,_,fun _ _=>h.groups,fun _ _=>h.rd.g.ix k0 kl,_,fun _ _=>h.rd.g.parent k0 kl,_,fun _ _=>YZ h v1 v2 c0 hpc,fun _ _=>sp.1,(Qb W (gi W.groups (k:Int)).parent (c:Int)).floor,fun _ _=>sp.2 (j:=0) rfl,fun _ _=>sk.1,(Qb W (k:Int) (c:Int)).w,fun _ _=>sk.2 (j:=3) rfl,_,fun _ _=>Lr tk.2.1 tp.1,fun g3=>KQ fun q=>?_,fun g3=>nxt fun _=>?_⟩
     ·have r:=q (k:Int) (c:Int) k0 (by omega) c0 hkc;have r1:=r.on (by omega);simp only[Bool.or_eq_true,Bool.and_eq_true,Bool.not_eq_true',beq_eq_false_iff_ne] at g3;rcases g3 with g3 | g3
      ·exact g3 r1
      ·have:=r.st (by omega) g3.1;rw[this] at g3
       cases g3.2
     ·simp only[Bool.or_eq_false_iff,Bool.not_eq_false',beq_iff_eq] at g3;refine⟨tk.1,tk.2.1,tk.2.2.1,tk.2.2.2.1,tk.2.2.2.2,fun e=>by omega,fun _=>g3.1,fun _ ho=>?_⟩;have:=g3.2;rw[ho,Bool.true_and] at this
      simpa using this
   ·have hge2:=Ou hge2;refine⟨⟨by omega,by omega⟩,Qs (by omega) ⟨by omega,fun d k' h0 h1 h2 h3 h4=>?_⟩⟩
    by_cases hdc:d<(c:Int)
    ·exact hJ d k' h0 hdc h2 h3 h4
    ·have:d=(c:Int):=by omega
     subst this;exact hK k' h2 (by omega) h4
  ·have hgec:=Ou hgec;refine zkl fun k d h0 h1 h2 h3=>hJ d k h2 ?_ h0 h1 h3
   have hus:(gi W.groups k).used=true:=by
    cases hu:(gi W.groups k).used with
    | true=>rfl
    | false=>
     have:=((ha.grp k h0 h1).1 hu).l;omega
   have:=ha.sl (Q5.2 ⟨h0,by omega,hus⟩);omega
theorem zdb(h:TW bs w p W m)(ha:WA W)(hts:∀t:Int,0<=t->t<12->BV W t)(hss:∀k c:Int,0<=k->k<8->0<=c->c<((gi W.groups k).shelves.length:Int)->Me W k c):PX bs Xy #[.pointer p] w (.bool (JJ (∀c:Int,0<=c->c<(W.cpus.length:Int)->ER W c))):=
 GP p fun wr hx=>by
  have h:=(h.ext hx).less (cs:=[]) (by simp);have hgl:=ha.gl;have htl:=ha.t;have hcl:=ha.c2;have hm9:=Zl;refine⟨h.some,_,_,_,h.cpus,?_⟩;refine Xi W.cpus.length 0 rfl (fun c=>c<=W.cpus.length/\∀j:Int,0<=j->j<(c:Int)->ER W j) ⟨Nat.zero_le _,fun j h0 h1=>by omega⟩ fun c ⟨hc,hI⟩=>⟨fun hlt=>?_,fun hge=>?_⟩
  ·have hlt:=Ot hlt;have c0:(0:Int)<=(c:Int):=by omega
   have nxt:ER W (c:Int)->Qj .i64 ((c:Int)+1)/\zos (fun c=>c<=W.cpus.length/\∀j:Int,0<=j->j<(c:Int)->ER W j) [.int .i64 ((c:Int)+1)]/\Jh W.cpus.length 0 [.int .i64 ((c:Int)+1)]<Jh W.cpus.length 0 [.int .i64 (c:Int)]:=fun hq=>⟨⟨by omega,by omega⟩,Qs (by omega) ⟨by omega,fun j h0 h1=>by
    by_cases hjk:j<(c:Int)
    ·exact hI j h0 hjk
    ·have:j=(c:Int):=by omega
     subst this; exact hq⟩⟩
   have bad:¬ER W (c:Int)->¬∀c:Int,0<=c->c<(W.cpus.length:Int)->ER W c:=fun hn pp=>hn (pp (c:Int) c0 hlt)
   refine⟨h.rd.c.ix ZH c0 hlt,_,_,_,_,_,h.rd.c c c0 hlt,fun _ _ b1 hb1=>⟨_,fun wx hxw hcx=>zzq hcx,fun g=>KQ (bad fun q=>?_),fun g=>⟨fun g2=>nxt ?_,fun g2=>?_⟩⟩⟩
   ·rw[q.b,q.i] at g; cases g
   ·simp only[Bool.not_eq_false',Bool.and_eq_true] at g;simp only[Bool.and_eq_true,beq_iff_eq] at g2;exact⟨g.1,g.2,by omega,by omega,fun _=>g2.2,fun hh=>by omega⟩
   ·simp only[Bool.not_eq_false',Bool.and_eq_true] at g
    have ne:ER W (c:Int)->0<=(gi W.cpus (c:Int)).cur:=fun q=>by
     rcases Int.lt_or_le (gi W.cpus (c:Int)).cur 0 with hneg | hpos
     ·have e1:=q.c1;have e2:=q.no hneg;have e3:(gi W.cpus (c:Int)).cur = -1:=by omega
      rw[e3,e2] at g2;simp at g2
     ·exact hpos
    have there:(Yh (gi W.cpus (c:Int)).cur 0 ((W.tasks.length:Int)-1)&&((Q7 W (gi W.cpus (c:Int)).cur).state != 0))=true->0<=(gi W.cpus (c:Int)).cur/\(gi W.cpus (c:Int)).cur<(W.tasks.length:Int):=fun q=>by
     simp only[Bool.and_eq_true] at q;have:=Qm.1 q.1;omega
    have lu:0<=(gi W.cpus (c:Int)).cur/\(gi W.cpus (c:Int)).cur<(W.tasks.length:Int)->(Q7 W (gi W.cpus (c:Int)).cur).state=1->Q6 W.groups (Q7 W (gi W.cpus (c:Int)).cur).group=true:=fun q hs=>(Eh ha (hts _ q.1 (by omega)) hs).1
    refine⟨_,_,XD,fun _ _=>⟨_,fun _=>FI h (by omega),((Q7 W (gi W.cpus (c:Int)).cur).cpu==(c:Int))&&Z9 W (gi W.cpus (c:Int)).cur,fun q=>?_,_,fun _=>Qu,fun g3=>KQ (bad fun q=>?_),fun g3=>?_⟩⟩
    ·simp only[Bool.or_eq_false_iff,Bool.not_eq_false'] at q;have:=there q.2;exact Mn h ha this.1 this.2 c0 hlt (lu this)
    ·have t0:=ne q;have t1:=q.c2;have y:=q.yes t0;have e2:Yh (gi W.cpus (c:Int)).cur 0 ((W.tasks.length:Int)-1)=true:=Qm.2 (by omega);have hst:(Q7 W (gi W.cpus (c:Int)).cur).state=1:=(zha (hts _ t0 (by omega)) y.2.2.2.2.1).2;have e4:Yh (gi W.cpus (c:Int)).ran 1 149=true:=Qm.2 ⟨y.2.1,y.2.2.1⟩;rw[y.1,e2,hst,y.2.2.2.1,y.2.2.2.2.1,e4] at g3;simp at g3
    ·simp only[Bool.or_eq_false_iff,Bool.not_eq_false'] at g3;obtain⟨⟨⟨a1,a2⟩,a3⟩,a4⟩:=g3;obtain⟨t0,t1⟩:=there a2;have a4:=Qm.1 a4;simp only[Bool.and_eq_true,beq_iff_eq] at a3;obtain⟨hcpu,hline⟩:=a3;obtain⟨q,_⟩:=zha (hts _ t0 (by omega)) hline;have au:=q.g;obtain⟨u1,u2,_⟩:=Q5.1 au
     have sl:∀{x:Int},Q6 W.groups x=true->0<=x/\x<(W.groups.length:Int)/\(c:Int)<((gi W.groups x).shelves.length:Int)/\Me W x (c:Int):=fun {x} hx=>by
      obtain⟨v1,v2,_⟩:=Q5.1 hx;have c3:(c:Int)<((gi W.groups x).shelves.length:Int):=by rw[ha.sl hx]; exact hlt
      exact⟨v1,v2,c3,hss x (c:Int) v1 (by omega) c0 c3⟩
     obtain⟨_,_,c2,sp⟩:=sl au;have sh:=h.sh (g:=(Q7 W (gi W.cpus (c:Int)).cur).group) u1 u2 c0 c2;have mk:PJ W (c:Int)=true->ER W (c:Int):=fun hst=>⟨g.1,g.2,by omega,t1,fun hh=>by omega,fun _=>⟨a1,a4.1,a4.2,hcpu,hline,hst⟩⟩
     refine⟨h.some,_,_,_,h.tasks,h.rd.t.ix Qy t0 t1,_,_,_,_,_,_,_,_,_,h.rd.t _ t0 t1,fun _ _=>⟨h.rd.t _ t0 t1,rfl,h.tasks,_,YZ h u1 u2 c0 c2,sh.1,_,sh.2 (j:=0) rfl,FD q.v sp.f,_,OD,_,Vj,fun g4=>KQ (bad fun qq=>?_),fun g4=>?_⟩⟩
     ·have g4:=Ot g4;have hd:¬((Q7 W (gi W.cpus (c:Int)).cur).v-(Qb W (Q7 W (gi W.cpus (c:Int)).cur).group (c:Int)).floor<=Z3 (gi W.cpus (c:Int)).ran (Qc (Q7 W (gi W.cpus (c:Int)).cur).nice)):=Int.not_le.2 g4;have:=(qq.yes t0).2.2.2.2.2;unfold PJ at this;rw[decide_eq_false hd] at this;cases this
     ·have g4:=Ou g4;have hd:(Q7 W (gi W.cpus (c:Int)).cur).v-(Qb W (Q7 W (gi W.cpus (c:Int)).cur).group (c:Int)).floor<=Z3 (gi W.cpus (c:Int)).ran (Qc (Q7 W (gi W.cpus (c:Int)).cur).nice):=Int.not_lt.1 g4
      have hS:PJ W (c:Int)=Tl W (Q7 W (gi W.cpus (c:Int)).cur).group (c:Int) (gi W.cpus (c:Int)).ran:=by
       unfold PJ;rw[decide_eq_true hd,Bool.true_and]
      refine⟨fun vs=>∃x:Int,vs=[.int .i64 x]/\Q6 W.groups x=true/\Tl W x (c:Int) (gi W.cpus (c:Int)).ran=Tl W (Q7 W (gi W.cpus (c:Int)).cur).group (c:Int) (gi W.cpus (c:Int)).ran,fun vs=>(dep 3 W.groups (ZZ 0 vs)).toNat,⟨_,rfl,au,rfl⟩,?_⟩;rintro x ⟨x',he,hux,hJ⟩;simp only[List.cons.injEq,Value.int.injEq,true_and,and_true] at he;subst he;refine⟨fun hz=>?_,fun hz=>?_⟩
      ·have hz:x≠0:=by simpa using hz
       obtain⟨hp,a,b,d,e,e2,hd⟩:=ZY ha.tree hux hz;obtain⟨x1,x2,x3,xs⟩:=sl hux;obtain⟨p1,p2,p3,ps⟩:=sl hp;have sx:=h.sh (g:=x) x1 x2 c0 x3;have spp:=h.sh (g:=(gi W.groups x).parent) p1 p2 c0 p3;unfold Tl at hJ;rw[Ys ha.tree hux hz,List.all_cons] at hJ
       refine⟨_,YZ h x1 x2 c0 x3,sx.1,_,sx.2 (j:=2) rfl,h.some,_,_,_,h.groups,h.rd.g.ix x1 x2,_,h.rd.g.parent x1 x2,_,YZ h p1 p2 c0 p3,spp.1,_,spp.2 (j:=0) rfl,FD xs.v ps.f,sx.1,_,sx.2 (j:=3) rfl,_,Vj,fun g5=>KQ (bad fun qq=>?_),fun g5=>⟨h.some,_,_,_,h.groups,h.rd.g.ix x1 x2,_,h.rd.g.parent x1 x2,⟨_,rfl,hp,?_⟩,by
        show (dep 3 W.groups (gi W.groups x).parent).toNat<(dep 3 W.groups x).toNat;omega⟩⟩
       ·have g5:=Ot g5;have hd:¬((Qb W x (c:Int)).v-(Qb W (gi W.groups x).parent (c:Int)).floor<=Z3 (gi W.cpus (c:Int)).ran (Qb W x (c:Int)).w):=Int.not_le.2 g5;rw[decide_eq_false hd,Bool.false_and] at hJ;have:=(qq.yes t0).2.2.2.2.2;rw[hS] at this;unfold Tl at this;rw[<-hJ] at this;cases this
       ·have g5:=Ou g5;have hd:(Qb W x (c:Int)).v-(Qb W (gi W.groups x).parent (c:Int)).floor<=Z3 (gi W.cpus (c:Int)).ran (Qb W x (c:Int)).w:=Int.not_lt.1 g5;rw[decide_eq_true hd,Bool.true_and] at hJ;exact hJ
      ·have hz:x=0:=by simpa using hz
       subst hz;refine nxt (mk ?_);rw[hS,<-hJ];unfold Tl;rw[show QX W.groups 0=[] from Za _ _,List.all_nil]
  ·have hge:=Ou hge;exact zkl fun t h0 h1=>hI t h0 (by omega)
theorem z6(h:TW bs w p W m)(lc:W.cpus.length<=maxLen)(lg:W.groups.length<=maxLen):PX bs Xo #[.pointer p] w (.bool (JJ (zte W))):=
 LL p fun wr hx=>by
  have h:=(h.ext hx).less (cs:=[]) (by simp);refine⟨h.some,_,h.now,fun b hb=>⟨ZA W.now,fun wx hxw hcx=>zy9 hcx,fun _=>h.some,_,_,_,fun _=>h.cpus,_,fun _=>Qu,Jr W.cpus,fun g=>Mo h ?_,fun _=>h.some,_,_,_,fun _=>h.tasks,fun _=>h.some,_,_,_,fun _=>h.groups,M8 W.groups,fun _=>zc9 h.rd.g lg,OM ?_⟩⟩
  ·simp only[Bool.and_eq_true,Qm] at g;omega
  ·simp only[Bool.and_eq_true,Qm,beq_iff_eq,bne_iff_ne,Y3,Vy];constructor
   ·rintro⟨⟨⟨⟨e1,e2⟩,e3⟩,e4⟩,e5⟩;exact⟨e1.1,e1.2,by omega,by omega,by omega,e5,e3⟩
   ·intro q;have:=q.t;have:=q.c1;have:=q.c2;exact⟨⟨⟨⟨⟨q.n1,q.n2⟩,by omega⟩,q.ups⟩,by omega⟩,q.tree⟩
theorem Lp(h:Xt bs w W m)(lc:W.cpus.length<=maxLen)(lg:W.groups.length<=maxLen)(hf:∀i:Int,0<=i->i<(W.groups.length:Int)->zfy (gi W.groups i)) :
  PX bs UM #[.agg (Qa W m).toArray] w (.bool (Qv W)):=by
 refine Oi fun wr0 hx0=>Cu W.now m.cO W.cpus.length m.cC m.tO W.tasks.length m.tC m.gO W.groups.length m.gC (R:=fun v w'=>v=.bool (Qv W)/\Q0 [] wr0 w') ?_
 have h:=(h.ext hx0).less (cs:=[]) (by simp);intro b wb hxb hb hcell _ b1 hb1
 have hP:∀{bs:List Nat} {w1:Wo},Q0 [] wb w1->(∀x∈bs,wb.heap.size<=x)->TW bs w1 (some ⟨b,0,none⟩) W m:=fun {bs w1} hx hbs=>by
  have hbn:b∉bs:=fun hm=>by
   have:=hbs b hm;have:=Ur hcell;omega
  have hrd:Xt bs w1 W m:=((h.ext hxb).wide (cs:=bs) fun x hm=>.inr (hbs x hm)).ext hx.of_nil;exact⟨Pa (Zd hcell hx (by simp)) hbn (k0:=0) fun j v hj=>by rw[Nat.zero_add,Nat.zero_add]; exact hj,hrd⟩
 let Cn:=fun (k:Nat)=>match k with
  | 0=>zte W
  | 1=>∀k:Int,0<=k->k<8->Md W k
  | 2=>∀t:Int,0<=t->t<12->AL W t
  | 3=>∀k c:Int,0<=k->k<8->0<=c->c<((gi W.groups k).shelves.length:Int)->Me W k c
  | _=>∀c:Int,0<=c->c<(W.cpus.length:Int)->ER W c
 have all:YW W->∀k:Nat,k<5->Cn k:=fun q k hk=>by
  have:k=0\/k=1\/k=2\/k=3\/k=4:=by omega
  rcases this with rfl | rfl | rfl | rfl | rfl
  ·exact⟨q.a.n1,q.a.n2,q.a.c1,q.a.c2,q.a.t,q.a.tree,q.a.ups⟩
  ·exact q.a.grp
  ·refine fun t h0 h1=>⟨q.t t h0 h1,fun hs=>?_⟩
   have hu:=Eh q.a (q.t t h0 h1) hs;obtain⟨u1,u2,_⟩:=Q5.1 hu.1;have:=q.a.gl;exact(q.s _ _ u1 (by omega) hu.2.1 (by rw[q.a.sl hu.1]; exact hu.2.2)).f
  ·exact q.s
  ·exact q.c
 have back:(∀k:Nat,k<5->Cn k)->YW W:=fun q=>by
  have q0:zte W:=q 0 (by decide);have q1:∀k:Int,0<=k->k<8->Md W k:=q 1 (by decide);have q2:∀t:Int,0<=t->t<12->AL W t:=q 2 (by decide);exact⟨q0.wa q1,fun t h0 h1=>(q2 t h0 h1).1,q 3 (by decide),q 4 (by decide)⟩
 have cond:∀k:Nat,k<5->(∀j:Nat,j<k->Cn j)->∀{w1:Wo},Q0 [] wb w1->∃F:FuncId,(#[.func (.func Xo) #[] #[],.func (.func YY) #[] #[],.func (.func Xp) #[] #[],.func (.func YN) #[] #[],.func (.func Xy) #[] #[]]:Array Va)[k]? = some (.func (.func F) #[] #[])/\(∀(w:Wo) (x:Va),(Co (.func (.func F) #[] #[]) [x]).run Tryz.prog w=.ok (.enter F #[x]) w)/\∃rv:Bool,(rv=true↔Cn k)/\PX [b1] F #[.pointer (some ⟨b,0,none⟩)] w1 (.bool rv):=fun k hk hj {w1} hx=>by
  have hp:=hP (bs:=[b1]) hx (by simpa using hb1);have:k=0\/k=1\/k=2\/k=3\/k=4:=by omega
  rcases this with rfl | rfl | rfl | rfl | rfl
  ·exact⟨_,rfl,fun _ _=>rfl,_,Qh,z6 hp lc lg⟩
  ·have q0:zte W:=hj 0 (by decide);exact⟨_,rfl,fun _ _=>rfl,_,Qh,NP hp q0 hf⟩
  ·have q0:zte W:=hj 0 (by decide);have q1:∀k:Int,0<=k->k<8->Md W k:=hj 1 (by decide);exact⟨_,rfl,fun _ _=>rfl,_,Qh,z7 hp (q0.wa q1) lg⟩
  ·have q0:zte W:=hj 0 (by decide);have q1:∀k:Int,0<=k->k<8->Md W k:=hj 1 (by decide);exact⟨_,rfl,fun _ _=>rfl,_,Qh,FH hp (q0.wa q1) hf⟩
  ·have q0:zte W:=hj 0 (by decide);have q1:∀k:Int,0<=k->k<8->Md W k:=hj 1 (by decide);have q2:∀t:Int,0<=t->t<12->AL W t:=hj 2 (by decide);have q3:∀k c:Int,0<=k->k<8->0<=c->c<((gi W.groups k).shelves.length:Int)->Me W k c:=hj 3 (by decide);exact⟨_,rfl,fun _ _=>rfl,_,Qh,zdb hp (q0.wa q1) (fun t h0 h1=>(q2 t h0 h1).1) q3⟩
 refine⟨fun vs w1=>∃k:Nat,vs=[.bool true,.int .i64 (k:Int)]/\k<=5/\Q0 [] wb w1/\∀j:Nat,j<k->Cn j,Zu 5 1,fun wr hx _=>⟨0,rfl,by omega,hx,fun j hj=>absurd hj (Nat.not_lt_zero j)⟩,?_⟩;rintro ok x w1 hs1 ⟨k,he,hk,hX,hI⟩;simp only[List.cons.injEq,Value.int.injEq,Value.bool.injEq,true_and,and_true] at he;obtain⟨rfl,rfl⟩:=he
 have fr:∀{w2:Wo},Q0 [b1] w1 w2->Q0 [] wb w2:=fun {w2} hx=>hX.fresh hx fun y hm=>.inl (by
  have:y=b1:=by simpa using hm
  omega)
 refine⟨fun hlt=>?_,fun hge wr hx=>⟨?_,hxb.trans (fr hx)⟩⟩
 ·have hlt:=Ot hlt;obtain⟨F,hF,_⟩:=cond k (by omega) hI hX;refine⟨.func F,#[],#[],⟨by omega,by omega,by rw[Int.toNat_natCast]; exact hF⟩,fun wr1 hx1 hs2=>?_⟩;obtain⟨F',hF',hcv,rv,hrv,hpu⟩:=cond k (by omega) hI (fr hx1);rw[hF] at hF';simp only[Option.some.injEq,Value.func.injEq,Fn.func.injEq,and_self,and_true] at hF';subst hF';refine .inl ⟨F,#[.pointer (some ⟨b,0,none⟩)],?_,?_⟩
  ·exact hcv _ _
  ·refine(hpu wr1 (Q0.refl _ _)).mono fun e w3 ⟨he,hx3⟩=>⟨rv,he,Qe hx3 hs2,fun g wr2 hx4=>⟨?_,hxb.trans ((fr hx1).trans hx3 |>.fresh hx4 fun y hm=>.inl (by
    have:y=b1:=by simpa using hm
    omega))⟩,fun g=>⟨⟨by omega,by omega⟩,fun wr3 hx4 _=>⟨⟨k+1,by simp,by omega,((fr hx1).trans hx3).fresh hx4 fun y hm=>.inl (by
    have:y=b1:=by simpa using hm
    omega),fun j hj=>?_⟩,QS (k:=k) rfl rfl (by omega)⟩⟩⟩
   ·have g:rv=false:=by simpa using g
    exact KQ fun q=>by
     rw[hrv.2 (all q k (by omega))] at g; cases g
   ·by_cases hjk:j<k
    ·exact hI j hjk
    ·have:j=k:=by omega
     subst this;exact hrv.1 (by simpa using g)
 ·have hge:=Ou hge;have:k=5:=by omega
  subst this;exact zkl (back hI)
end
theorem Gc:zqa Tryz.prog KN 5 ZB 40 (⟨false,0,0,0,0⟩:M0):=HJ (by kernel_rfl) fun _=>rfl
theorem Hl:Tryz.prog.underlying Ye=some (.slice ZB):=by kernel_rfl
theorem Pe:zqa Tryz.prog X7 9 QK 72 (⟨0,0,0,0,0,0,0,0,0⟩:Mw):=HJ (by kernel_rfl) fun _=>rfl
theorem LZ:Tryz.prog.underlying Zj=some (.slice QK):=by kernel_rfl
section
variable {W:Q8}{m:MW}{w w':Wo}
structure zwa (base:Nat) (w:Wo) (W:Q8) (m:MW):Prop where
 c:U4 KN 5 ZB base w m.cO m.cC W.cpus
 t:U4 X7 9 QK base w m.tO m.tC W.tasks
 g:∃ps:List (ZF×MG),ps.map (·.1)=W.groups/\(fun k:Nat=>(gi ps (k:Int)).2)=m.ms/\K5 base w m.gO m.gC ps
theorem zwa.mono{base base':Nat}(h:zwa base w W m)(hb:base'<=base):zwa base' w W m:=
 ⟨h.c.mono hb,h.t.mono hb,by
  obtain⟨ps,h1,h2,h3⟩:=h.g;exact⟨ps,h1,h2,h3.mono hb⟩⟩
end
structure Sc (w0:Wo) (bs:List Nat) (w:Wo):Prop where
 ext:Q0 [] w0 w
 new:∀x∈bs,w0.heap.size<=x
theorem Sc.start(w:Wo):Sc w [] w:=⟨Q0.refl _ _,by simp⟩
theorem Sc.step{w0:Wo}{bs:List Nat}{w w':Wo}(h:Sc w0 bs w)(hx:Q0 bs w w'):Sc w0 bs w':=⟨h.ext.fresh hx fun x hm=>.inl (h.new x hm),h.new⟩
theorem Sc.call{w0:Wo}{bs cs:List Nat}{w w':Wo}(h:Sc w0 bs w)(hx:Q0 cs w w')(hc:∀x∈cs,w0.heap.size<=x):Sc w0 bs w':=⟨h.ext.fresh hx fun x hm=>.inl (hc x hm),h.new⟩
theorem Sc.call0{w0:Wo}{bs:List Nat}{w w':Wo}(h:Sc w0 bs w)(hx:Q0 [] w w'):Sc w0 bs w':=⟨h.ext.trans hx,h.new⟩
theorem Sc.add{w0:Wo}{bs:List Nat}{w:Wo}{b:Nat}(h:Sc w0 bs w)(hb:w.heap.size<=b):Sc w0 (bs++[b]) w:=⟨h.ext,fun x hm=>by
 rcases List.mem_append.1 hm with hm | hm
 ·exact h.new x hm
 ·have:x=b:=by simpa using hm
  have:=h.ext.size;omega⟩
theorem Sc.sub{w0:Wo}{bs cs:List Nat}{w:Wo}(h:Sc w0 bs w)(hs:∀x∈cs,x∈bs):Sc w0 cs w:=⟨h.ext,fun x hm=>h.new x (hs x hm)⟩
theorem Sc.put{w0:Wo}{bs:List Nat}{w w':Wo}{b:Nat}(h:Sc w0 bs w)(hx:Q0 bs w w')(hb:w.heap.size<=b):Sc w0 (bs++[b]) w':=⟨(h.step hx).ext,(h.add hb).new⟩
structure Ob {α:Type} (enc:α->List Va) (z:Nat) (ty:TypeId) (base:Nat) (bs:List Nat) (w:Wo) (o:OA) (cap:Nat) (l:List α):Prop where
 own:U4 enc z ty base w o cap l
 nb:∀x∈QB o,x∉bs
section
variable {α:Type}{enc:α->List Va}{z:Nat}{ty:TypeId}{base:Nat}{bs cs:List Nat}{w w':Wo}{o:OA}{cap:Nat}{l:List α}{b:Nat}
theorem Ob.of(h:U4 enc z ty base w o cap l)(hs:∀x∈bs,x<base):Ob enc z ty base bs w o cap l:=⟨h,fun x hx hm=>by
 have:=(h.lt x hx).1;have:=hs x hm;omega⟩
theorem Ob.step(h:Ob enc z ty base bs w o cap l)(hx:Q0 bs w w'):Ob enc z ty base bs w' o cap l:=⟨h.own.ext hx h.nb,h.nb⟩
theorem Ob.call0(h:Ob enc z ty base bs w o cap l)(hx:Q0 [] w w'):Ob enc z ty base bs w' o cap l:=⟨h.own.ext0 hx,h.nb⟩
theorem Ob.call(h:Ob enc z ty base bs w o cap l)(hx:Q0 cs w w')(hd:∀x∈QB o,x∉cs):Ob enc z ty base bs w' o cap l:=⟨h.own.ext hx hd,h.nb⟩
theorem Ob.add(h:Ob enc z ty base bs w o cap l)(hb:w.heap.size<=b):Ob enc z ty base (bs++[b]) w o cap l:=⟨h.own,fun x hx hm=>by
 rcases List.mem_append.1 hm with hm | hm
 ·exact h.nb x hx hm
 ·have:x=b:=by simpa using hm
  have:=(h.own.lt x hx).2;omega⟩
theorem Ob.put(h:Ob enc z ty base bs w o cap l)(hx:Q0 bs w w')(hb:w.heap.size<=b):Ob enc z ty base (bs++[b]) w' o cap l:=⟨(h.step hx).own,(h.add hb).nb⟩
theorem Ob.sub(h:Ob enc z ty base bs w o cap l)(hs:∀x∈cs,x∈bs):Ob enc z ty base cs w o cap l:=⟨h.own,fun x hx hm=>h.nb x hx (hs x hm)⟩
theorem Ob.mono{base':Nat}(h:Ob enc z ty base bs w o cap l)(hb:base'<=base):Ob enc z ty base' bs w o cap l:=⟨h.own.mono hb,h.nb⟩
theorem Ob.rd[Inhabited α](h:Ob enc z ty base bs w o cap l)(hz:∀x,(enc x).length=z):Rd enc z bs w o l:=h.own.rd hz h.nb
end
theorem Rd.scb{α:Type}[Inhabited α]{enc:α->List Va}{z:Nat}{w0:Wo}{bs:List Nat}{w:Wo}{o:OA}{l:List α}(h:Rd enc z [] w0 o l)(hs:Sc w0 bs w):Rd enc z bs w o l:=(h.wide (cs:=bs) fun x hm=>.inr (hs.new x hm)).ext hs.ext.of_nil
theorem zrp{bs cs:List Nat}{w w':Wo}(hx:Q0 cs w w')(hs:∀b∈bs,b<w.heap.size)(hd:∀x∈cs,x∉bs):Q9 bs w w':=fun x hm=>hx.block x (hs x hm) fun hm'=>hd x hm' hm
theorem Ob.app1{α:Type}[Inhabited α]{P:Program}{enc:α->List Va}{z:Nat}{ty t:TypeId}{bytes:Nat}{zero:α}(E:zqa P enc z ty bytes zero)(ht:P.underlying t=some (.slice ty)){base:Nat}{bs:List Nat}{w:Wo}{o:OA}{cap:Nat}{l:List α}(hO:Ob enc z ty base bs w o cap l)(hs:∀x∈bs,x<w.heap.size)(hbase:base<=w.heap.size){x:α}{b:Nat}{t':TypeId}{fz:Nat×Nat}(hb:w.heap[b]? = some (.cells (enc x).toArray t' fz))(h1:Zi (enc x)=true)(hl:l.length<=1048576)(hby:bytes<=1000)(tr:TypeId)(cs:Array Bool) :
  ∃o' cap' w',(builtin .append #[t,t] tr cs #[.slice o l.length cap,.slice (some ⟨b,0,none⟩) 1 1]).run P w=.ok (.value (.slice o' (l++[x]).length cap')) w'/\Q9 bs w w'/\Ob enc z ty base bs w' o' cap' (l++[x])/\Q0 (QB o) w w':=by
 have hbb:(2*(l.length+1))*bytes<=281474976710656:=Nat.le_trans (Nat.mul_le_mul (show 2*(l.length+1)<=2097154 by omega) hby) (by decide);obtain⟨o2,c2,w2,hrun,hO2,hx2,ho2⟩:=zj2 E ht hO.own hb h1 hbb (by omega) tr cs hbase;refine⟨o2,c2,w2,hrun,fun y hm=>hx2.block y (hs y hm) fun hm'=>hO.nb y hm' hm,⟨hO2,fun y hy hm=>?_⟩,hx2⟩;rcases ho2 with rfl | rfl
 ·exact hO.nb y hy hm
 ·have:y=w.heap.size:=by simpa[QB] using hy
  have:=hs y hm;omega
def XM(f:Nat->Int):Nat->Int
 | 0=>0
 | k+1=>XM f k+f k
theorem Vo{f:Nat->Int}{B:Int}(h:∀j,0<=f j/\f j<=B):∀k:Nat,0<=XM f k/\XM f k<=(k:Int)*B
 | 0=>by simp[XM]
 | k+1=>by
  have ih:=Vo h k;have:=h k;simp only[XM];rw[show ((k+1:Nat):Int)*B=(k:Int)*B+B by rw[show ((k+1:Nat):Int)=(k:Int)+1 by omega,Int.add_mul,Int.one_mul]];omega
theorem zsx(l:List Int)(x:Int):Xl (l++[x]) (l++[x]).length=Xl l l.length+x:=by
 have key:∀k:Nat,k<=l.length->Xl (l++[x]) k=Xl l k:=fun k=>by
  induction k with
  | zero=>intro _; rfl
  | succ k ih=>
   intro hk;simp only[Xl];rw[ih (by omega),J2 (by simp; omega),J2 (by omega),List.getElem_append_left]
 rw[List.length_append];show Xl (l++[x]) (l.length+1)=_;simp only[Xl];rw[key _ (Nat.le_refl _),J2 (by simp)];simp
theorem Yf(n:Int):0<=Qc n/\Qc n<=20:=by
 unfold Qc;split
 ·rename_i h;have:=Qm.1 h;omega
 ·omega
def BM(W:Q8)(c:Int)(j:Nat):Int:=if (((Q7 W (j:Int)).cpu==c)&&Z9 W (j:Int))=true then Qc (Q7 W (j:Int)).nice else 0
def zjb(W:Q8)(g c:Int)(j:Nat):Int:=if ((((Q7 W (j:Int)).state==1)&&((Q7 W (j:Int)).cpu==c))&&Tj 3 W.groups g (Q7 W (j:Int)).group)=true then Qc (Q7 W (j:Int)).nice else 0
theorem zwr{W:Q8}{g c:Int}{k:Nat}(h:((((Q7 W (k:Int)).state==1)&&((Q7 W (k:Int)).cpu==c))&&Tj 3 W.groups g (Q7 W (k:Int)).group)=true):zjb W g c k=Qc (Q7 W (k:Int)).nice:=if_pos h
theorem zwq{W:Q8}{g c:Int}{k:Nat}(h:((((Q7 W (k:Int)).state==1)&&((Q7 W (k:Int)).cpu==c))&&Tj 3 W.groups g (Q7 W (k:Int)).group)=false):zjb W g c k=0:=if_neg (by rw[h]; decide)
def UG(W:Q8)(c:Int):Int:=XM (BM W c) W.tasks.length
def q9(W:Q8)(g c:Int):Int:=XM (zjb W g c) W.tasks.length
theorem BN(W:Q8)(c:Int)(j:Nat):0<=BM W c j/\BM W c j<=20:=by
 unfold BM;split
 ·exact Yf _
 ·omega
theorem j9(W:Q8)(g c:Int)(j:Nat):0<=zjb W g c j/\zjb W g c j<=20:=by
 unfold zjb;split
 ·exact Yf _
 ·omega
def Yi(W:Q8)(c:Int):Bool:=Yh c 0 ((W.cpus.length:Int)-1)
theorem J7{W:Q8}{c:Int}(h:Yi W c=true):0<=c/\c<(W.cpus.length:Int):=by have:=Qm.1 h; omega
noncomputable def BL(W:Q8)(c:Int):Int:=if Qv W=true/\Yi W c=true then UG W c else 0
theorem YW.li{W:Q8}(wp:YW W){t:Int}(t0:0<=t)(t1:t<(W.tasks.length:Int))(hs:(Q7 W t).state=1):Q6 W.groups (Q7 W t).group=true/\0<=(Q7 W t).cpu/\(Q7 W t).cpu<(W.cpus.length:Int):=by
 have:=wp.a.t;exact Eh wp.a (wp.t t t0 (by omega)) hs
structure TU (W:Q8):Prop where
 a:WA W
 li:∀{t:Int},0<=t->t<(W.tasks.length:Int)->(Q7 W t).state=1->Q6 W.groups (Q7 W t).group=true/\0<=(Q7 W t).cpu/\(Q7 W t).cpu<(W.cpus.length:Int)
structure X5 (W:Q8):Prop where
 c:W.cpus.length<=maxLen
 t:W.tasks.length<=maxLen
 g:W.groups.length<=maxLen
 f:∀i:Int,0<=i->i<(W.groups.length:Int)->zfy (gi W.groups i)
section
variable {W:Q8}{m:MW}{w:Wo}{bs:List Nat}{p:OA}
theorem T1{c:Int}(h:Xt bs w W m)(wp:YW W):PX bs Xu #[.agg (Qa W m).toArray,.int .i64 c] w (.int .i64 (UG W c)):=
 zaz W.now m.cO W.cpus.length m.cC m.tO W.tasks.length m.tC m.gO W.groups.length m.gC c fun wr hx=>by
  have h:=(h.ext hx).less (cs:=[]) (by simp);have htl:=wp.a.t;intro _ _;refine T3 W.tasks.length 0 rfl (fun x k=>k<=W.tasks.length/\x=XM (BM W c) k) ⟨Nat.zero_le _,rfl⟩ fun x k ⟨hk,hx2⟩=>⟨fun hlt=>?_,fun hge=>?_⟩
  ·have hlt:=Ot hlt;have hr:=Vo (BN W c) k;have hw:=Yf (Q7 W (k:Int)).nice;have eF:BM W c k=if (((Q7 W (k:Int)).cpu==c)&&Z9 W (k:Int))=true then Qc (Q7 W (k:Int)).nice else 0:=rfl;refine⟨h.t.ix Qy (by omega) hlt,_,h.t.f (by omega) hlt (j:=0) rfl,fun _=>h.t.ix Qy (by omega) hlt,_,fun _=>h.t.f (by omega) hlt (j:=2) rfl,Z9 W (k:Int),fun _=>UW h wp.a (by omega) hlt fun hs=>wp.li (by omega) hlt hs,fun g2=>⟨h.t.ix Qy (by omega) hlt,_,h.t.f (by omega) hlt (j:=3) rfl,Qc (Q7 W (k:Int)).nice,Zh,⟨by omega,by omega⟩,⟨by omega,by omega⟩,Qw (by omega) ⟨by omega,?_⟩⟩,fun g2=>⟨⟨by omega,by omega⟩,Qw (by omega) ⟨by omega,?_⟩⟩⟩
   ·have g2:((((Q7 W (k:Int)).state==1)&&((Q7 W (k:Int)).cpu==c))&&Z9 W (k:Int))=true:=g2;simp only[Bool.and_eq_true] at g2;simp only[XM]; rw[eF,if_pos (by rw[g2.1.2,g2.2]; rfl),hx2]
   ·have g2:((((Q7 W (k:Int)).state==1)&&((Q7 W (k:Int)).cpu==c))&&Z9 W (k:Int))=false:=g2
    simp only[XM]; rw[eF,if_neg (fun hc=>by
     simp only[Bool.and_eq_true] at hc;have hl:=hc.2;unfold Z9 at hl;simp only[Bool.and_eq_true] at hl;rw[hc.1,hc.2,hl.1] at g2
     cases g2),hx2]; omega
  ·have hge:=Ou hge;have:k=W.tasks.length:=by omega
   subst this;rw[hx2]; rfl
theorem MO{g c:Int}(h:Xt bs w W m)(wp:TU W)(hl:X5 W)(hu:Q6 W.groups g=true):PX bs JD #[.agg (Qa W m).toArray,.int .i64 g,.int .i64 c] w (.int .i64 (q9 W g c)):=
 Bj W.now m.cO W.cpus.length m.cC m.tO W.tasks.length m.tC m.gO W.groups.length m.gC g c fun wr hx=>by
  have h:=(h.ext hx).less (cs:=[]) (by simp);have htl:=wp.a.t;intro _ _;refine T3 W.tasks.length 0 rfl (fun x k=>k<=W.tasks.length/\x=XM (zjb W g c) k) ⟨Nat.zero_le _,rfl⟩ fun x k ⟨hk,hx2⟩=>⟨fun hlt=>?_,fun hge=>?_⟩
  ·have hlt:=Ot hlt;have hr:=Vo (j9 W g c) k;have hw:=Yf (Q7 W (k:Int)).nice
   have hun:(((Q7 W (k:Int)).state==1)&&((Q7 W (k:Int)).cpu==c))=true->OI W.groups g (Q7 W (k:Int)).group=Tj 3 W.groups g (Q7 W (k:Int)).group:=fun q=>by
    simp only[Bool.and_eq_true,beq_iff_eq] at q;unfold OI;rw[Vy.2 wp.a.tree,hu,(wp.li (by omega) hlt q.1).1]; rfl
   have eF:zjb W g c k=if ((((Q7 W (k:Int)).state==1)&&((Q7 W (k:Int)).cpu==c))&&Tj 3 W.groups g (Q7 W (k:Int)).group)=true then Qc (Q7 W (k:Int)).nice else 0:=rfl
   have e2:((((Q7 W (k:Int)).state==1)&&((Q7 W (k:Int)).cpu==c))&&Tj 3 W.groups g (Q7 W (k:Int)).group)=((((Q7 W (k:Int)).state==1)&&((Q7 W (k:Int)).cpu==c))&&OI W.groups g (Q7 W (k:Int)).group):=by
    cases hq:(((Q7 W (k:Int)).state==1)&&((Q7 W (k:Int)).cpu==c)) with
    | false=>rfl
    | true=>rw[hun hq]
   refine⟨h.t.ix Qy (by omega) hlt,_,_,_,_,_,_,_,_,_,h.t k (by omega) hlt,fun _ _=>⟨OI W.groups g (Q7 W (k:Int)).group,fun _=>TJ h.g hl.g,fun g2=>⟨Qc (Q7 W (k:Int)).nice,Zh,⟨by omega,by omega⟩,⟨by omega,by omega⟩,Qw (by omega) ⟨by omega,?_⟩⟩,fun g2=>⟨⟨by omega,by omega⟩,Qw (by omega) ⟨by omega,?_⟩⟩⟩⟩
   ·simp only[XM]; rw[zwr (W:=W) (g:=g) (c:=c) (k:=k) (e2.trans g2),hx2]
   ·simp only[XM]; rw[zwq (W:=W) (g:=g) (c:=c) (k:=k) (e2.trans g2),hx2]; omega
  ·have hge:=Ou hge;have:k=W.tasks.length:=by omega
   subst this;rw[hx2]; rfl
theorem ztb{b:Nat}{wb w1:Wo}{t:TypeId}(hcell:wb.heap[b]? = some (.cells (Qa W m).toArray t (0,0)))(h:Xt [] wb W m)(hx:Q0 [] wb w1)(hbs:∀x∈bs,wb.heap.size<=x):TW bs w1 (some ⟨b,0,none⟩) W m:=by
 have hbn:b∉bs:=fun hm=>by
  have:=hbs b hm;have:=Ur hcell;omega
 have hrd:Xt bs w1 W m:=(h.wide (cs:=bs) fun x hm=>.inr (hbs x hm)).ext hx.of_nil;exact⟨Pa (Zd hcell hx (by simp)) hbn (k0:=0) fun j v hj=>by rw[Nat.zero_add,Nat.zero_add]; exact hj,hrd⟩
theorem TW.sc{w0 w1:Wo}(h:TW [] w0 p W m)(s:Sc w0 bs w1):TW bs w1 p W m:=(h.wide (cs:=bs) fun x hm=>.inr (s.new x hm)).ext s.ext.of_nil
theorem zg4{l:List Int}{o:OA}{c:Nat}(h:zok bs w o l)(hl:l.length<=1000)(hr:∀x∈l,0<=x/\x<=1000000):PX bs Mi #[.slice o l.length c] w (.int .i64 (Xl l l.length)):=
 zhl o l.length c fun wr hx=>by
  have h:=(h.ext hx).less (cs:=[]) (by simp);have hs:=zbo (l:=l) (q:=1000000) (fun i h0 h1=>hr _ (FB h0 h1)) (by decide);refine T3 l.length 0 rfl (fun x k=>k<=l.length/\x=Xl l k) ⟨Nat.zero_le _,rfl⟩ fun x k ⟨hk,hx2⟩=>⟨fun hlt=>?_,fun hge=>?_⟩
  ·have hlt:=Ot hlt;have h1:=hs k hk;have h2:=hr _ (FB (l:=l) (i:=(k:Int)) (by omega) hlt);exact⟨h.ix VI (by omega) hlt,_,h k (by omega) hlt,⟨by omega,by omega⟩,⟨by omega,by omega⟩,Qw (by omega) ⟨by omega,by simp only[Xl]; rw[hx2]⟩⟩
  ·have hge:=Ou hge;have:k=l.length:=by omega
   subst this;rw[hx2]
theorem Hc{t:Int}(h:TW bs w p W m)(t0:0<=t)(t1:t<(W.tasks.length:Int)):PX bs Xz #[.pointer p,.int .i64 t] w (.int .i64 (Qc (Q7 W t).nice)):=
 GR p t fun wr hx=>by
  have h:=(h.ext hx).less (cs:=[]) (by simp);exact⟨h.some,_,_,_,h.tasks,h.rd.t.ix Qy t0 t1,_,h.rd.t.f t0 t1 (j:=3) rfl,_,OD,rfl⟩
theorem Oe{c:Int}(h:TW bs w p W m)(wp:YW W)(c0:0<=c)(c1:c<(W.cpus.length:Int)):PX bs Y8 #[.agg #[.pointer p,.int .i64 c]] w (.int .i64 (UG W c)):=by
 refine Oi fun wr0 hx0=>Fm p c (R:=fun v w'=>v=.int .i64 (UG W c)/\Q0 [] wr0 w') ?_
 have h:=(h.ext hx0).less (cs:=[]) (by simp);have htl:=wp.a.t;intro b hb;refine⟨h.some,_,_,_,h.tasks,?_⟩
 refine⟨fun vs w1=>∃(k:Nat) (ws:List Int) (o:OA) (c':Nat),vs=[.slice o ws.length c',.int .i64 (k:Int)]/\k<=W.tasks.length/\ws.length<=k/\(∀x∈ws,0<=x/\x<=20)/\Xl ws ws.length=XM (BM W c) k/\Sc wr0 [b] w1/\Ob Ji 1 Qd wr0.heap.size [b] w1 o c' ws,Zu W.tasks.length 1,
  fun wr hx _=>⟨0,[],none,0,rfl,Nat.zero_le _,Nat.le_refl _,by simp,rfl,((Sc.start wr0).call0 hx |> fun s=>⟨s.ext,by simpa using hb⟩),⟨.inl ⟨rfl,rfl,rfl⟩,by simp[QB]⟩⟩,?_⟩
 rintro o1 L1 C1 x w1 hs1 ⟨k,ws,o',c',he,hk,hlen,hws,hsum,s1,hO⟩;simp only[List.cons.injEq,Value.int.injEq,Value.slice.injEq,true_and,and_true] at he;obtain⟨⟨rfl,rfl,rfl⟩,rfl⟩:=he;refine⟨fun hlt=>?_,fun hge=>?_⟩
 ·have hlt:=Ot hlt;have hp:=h.sc s1;have hw:=Yf (Q7 W (k:Int)).nice;have eF:BM W c k=if (((Q7 W (k:Int)).cpu==c)&&Z9 W (k:Int))=true then Qc (Q7 W (k:Int)).nice else 0:=rfl;refine⟨_,Mn hp wp.a (by omega) hlt c0 c1 fun hs=>(wp.li (by omega) hlt hs).1,fun g=>⟨_,Hc hp (by omega) hlt,fun b1 hb1 wr1 hx1 hs2 hcell=>?_⟩,fun g=>⟨⟨by omega,by omega⟩,fun wr3 hx3 _=>⟨⟨k+1,ws,o1,C1,by simp,by omega,by omega,hws,?_,s1.step hx3,hO.step hx3⟩,QS (k:=k) rfl rfl (by omega)⟩⟩⟩
  ·have s2:=s1.put hx1 hb1;have hO2:=hO.put hx1 hb1;obtain⟨o2,c2,w2,hrun,hk2,hO3,hx2⟩:=hO2.app1 Y5 PM (x:=Qc (Q7 W (k:Int)).nice) hs2 s2.ext.size hcell (zxe _) (by omega) (by decide) Zs #[false,false];have s3:=s2.call hx2 fun x hm=>(hO2.own.lt x hm).1
   refine⟨_,_,_,w2,hrun,hk2,⟨by omega,by omega⟩,fun wr2 hx3 _=>⟨⟨k+1,ws++[Qc (Q7 W (k:Int)).nice],o2,c2,by simp,by omega,by simp; omega,fun x hm=>?_,?_,(s3.step hx3).sub (by simp),(hO3.step hx3).sub (by simp)⟩,QS (k:=k) rfl rfl (by omega)⟩⟩
   ·rcases List.mem_append.1 hm with hm | hm
    ·exact hws x hm
    ·have:x=Qc (Q7 W (k:Int)).nice:=by simpa using hm
     rw[this]; exact hw
   ·rw[zsx,hsum];simp only[XM]; rw[eF,if_pos g]
  ·simp only[XM]; rw[eF,if_neg (by rw[g]; decide),hsum]; omega
 ·have hge:=Ou hge;have:k=W.tasks.length:=by omega
  subst this;refine⟨_,zg4 (hO.rd Y5.len) (by omega) (fun x hm=>by have:=hws x hm; omega),fun wr4 hx4=>⟨?_,(s1.step hx4).ext⟩⟩;rw[hsum]; rfl
theorem Ln{c:Int}(h:Xt bs w W m)(hl:X5 W):PX bs UK #[.agg (Qa W m).toArray,.int .i64 c] w (.int .i64 (BL W c)):=by
 refine Oi fun wr0 hx0=>Cs W.now m.cO W.cpus.length m.cC m.tO W.tasks.length m.tC m.gO W.groups.length m.gC c (R:=fun v w'=>v=.int .i64 (BL W c)/\Q0 [] wr0 w') ?_
 have h:=(h.ext hx0).less (cs:=[]) (by simp);intro b wb hxb hb hcell _;have hrd:=h.ext hxb;have hp:=ztb (bs:=[]) hcell hrd (Q0.refl _ _) (by simp);refine⟨_,_,_,_,_,_,_,_,_,_,hp.cs,_,Lp hrd hl.c hl.g hl.f,Yi W c,fun _=>by exact Kt hp hl.c,fun g wr hx=>⟨?_,hxb.trans hx⟩,fun g=>?_⟩
 ·unfold BL;rw[if_neg];rintro⟨h1,h2⟩;rw[h1,h2] at g; cases g
 simp only[Bool.or_eq_false_iff,Bool.not_eq_false'] at g;have wp:=Qh.1 g.1;obtain⟨c0,c1⟩:=J7 g.2;have e:BL W c=UG W c:=by unfold BL; rw[if_pos ⟨g.1,g.2⟩]
 rw[e];exact⟨some ⟨b,0,none⟩,c,by exact XD,_,Oe hp wp c0 c1,fun wr hx=>⟨rfl,hxb.trans hx⟩⟩
end
def BF(P:Program)(gf:FuncId)(lb:Array Va)(N:Nat)(vals:Nat->List Va)(I:Nat->Wo->Prop)(w:Wo):Prop:=
 ∀(l:Nat) (J:Nat->Wo->Prop) (Jx:Unit->Wo->Prop) (W:Wo),Q0 [] w W->(∀k W1,J k W1->I k W1)->zyu W.heap.size J->zyu W.heap.size Jx->
  (∀k W1,k<N->J k W1->H2 P (.func (.yield l) #[] #[]) (vals k) W1 fun e W2=>(∃X,Q0 X W1 W2/\∀x∈X,x<W.heap.size)/\((e=.returned (.bool true)/\J (k+1) W2)\/(e=.returned (.bool false)/\Jx () W2)))->
  J 0 W->Calls P gf (#[.func (.yield l) #[] #[]]++lb) W fun e W2=>(∃v,e=.returned v)/\(J N W2\/Jx () W2)
theorem zsi{P:Program}{g:Operand}{ps:Array Tmp}{asg body:Code}{Q:Exit->Act->Wo->Prop}{a:Act}{w:Wo}{gf:FuncId}{lb:Array Va}(hg:a.eval g=.func (.func gf) #[] lb)(eg:∀args w,(callFunc gf args).run P w=.ok (.enter gf args) w)(I:Nat->Wo->Prop)(Ix:Code->Wo->Prop)(N:Nat)(vals:Nat->List Va)(hI:zyu w.heap.size I)(hIx:zyu w.heap.size Ix)(h0:I 0 w)(hps:∀k,(vals k).length=ps.size)(hit:BF P gf lb N vals I w)(hround:∀l k W,k<N->I k W->w.heap.size<=l->asg.wpIn (VC (some l)) 0 P (Exit.then (fun a1 W1=>(∃X,Q0 X W W1/\∀x∈X,x<w.heap.size)/\∀W2,Q0 [l] W1 W2->body.wpIn (VC (some l)) 0 P (zxj w.heap.size I Ix k W2) a1 W2) (fun _ _ _=>False))
   { tmps:=(ps.zip (vals k).toArray).foldl (fun t (p,v)=>t.setIfInBounds p v) a.tmps,defers:=[] } W)(hdone:∀D W,w.heap.size<=D->I N W->W.heap[D]? = some (.deferred (some []))->Q .normal { a with defers:=FX D::a.defers } W)(hstop:∀D c W,w.heap.size<=D->Ix c W->W.heap[D]? = some (.deferred (some []))->c.wpIn (VC none) 0 P Q { a with defers:=FX D::a.defers } W) :
  (Code.rangeFunc g ps asg body).wpIn (VC none) 0 P Q a w:=by
 refine wpIn_rangeFunc fun fn _=>?_
 obtain⟨rec,hrec⟩:∃rec:LoopState->Option Code->Loop,rec=fun st pe=>{ state:=st,pending:=pe,fn,tmps:=a.tmps,params:=ps,assign:=asg,body,defers:=w.heap.size }:=⟨_,rfl⟩
 obtain⟨W1,hW1⟩:∃W1,(w.alloc (.deferred (some []))).alloc (.loop (rec .ready none))=W1:=⟨_,rfl⟩
 have hL1:W1.heap[w.heap.size+1]? = some (.loop (rec .ready none)):=by
  have:=World.alloc_heap_new (w.alloc (.deferred (some []))) (.loop (rec .ready none));rw[World.size_alloc] at this;rw[<-hW1]; exact this
 have hD1:W1.heap[w.heap.size]? = some (.deferred (some [])):=by
  rw[<-hW1]; exact(Below.heap_alloc _ _ _ (by simp)).trans (World.alloc_heap_new w _)
 have hX1:Q0 [] w W1:=by rw[<-hW1]; exact((Q0.refl [] w).alloc _).alloc _
 have hsz:W1.heap.size=w.heap.size+2:=by rw[<-hW1]; simp
 refine⟨w.heap.size+1,[FX w.heap.size],W1,{ target:=.fn (.func gf) lb,args:=#[.func (.yield (w.heap.size+1)) #[] #[]] },W1,gf,#[.func (.yield (w.heap.size+1)) #[] #[]]++lb,W1,?_,?_,fun _ _=>trivial,?_,fun hx=>(by simp[VC,Fence.wide] at hx),P3 ?_⟩
 ·rw[<-hW1,hrec]; exact run_enterLoop_outer _ _ _ _ _
 ·simp only[resolve,hg];simp[go_sem]
 ·simp[invoke,eg]
 have keep:∀{W W':Wo} {ys:List Nat} {x:Nat} {o:Obj},W.heap[x]? = some o->Q0 ys W W'->x∉ys->W'.heap[x]? = some o:=fun {W W' ys x o} h hx hn=>(hx.block x (Array.getElem?_eq_some_iff.1 h).1 hn).trans h
 refine(hit (w.heap.size+1)
  (fun k W=>I k W/\W.heap[w.heap.size+1]? = some (.loop (rec .ready none))/\W.heap[w.heap.size]? = some (.deferred (some [])))
  (fun _ W=>∃c,Ix c W/\W.heap[w.heap.size+1]? = some (.loop (rec .done (some c)))/\W.heap[w.heap.size]? = some (.deferred (some [])))
  W1 hX1 (fun k W h=>h.1)
  (fun k W W' ys h hx hy=>⟨hI k W W' ys h.1 hx fun y hm=>by have:=hy y hm; omega,keep h.2.1 hx fun hm=>by have:=hy _ hm; omega,keep h.2.2 hx fun hm=>by have:=hy _ hm; omega⟩)
  (fun k W W' ys h hx hy=>by
   obtain⟨c,h1,h2,h3⟩:=h;exact⟨c,hIx c W W' ys h1 hx fun y hm=>by have:=hy y hm; omega,keep h2 hx fun hm=>by have:=hy _ hm; omega,keep h3 hx fun hm=>by have:=hy _ hm; omega⟩)
  ?_ ⟨hI 0 _ _ [] h0 hX1 (by simp),hL1,hD1⟩).mono ?_
 ·rintro k W hk ⟨hi,hl,hd⟩;have hy:=run_yield (P:=P) (args:=(vals k).toArray) hl (by rw[hrec]; simpa using hps k);rw[<-zil] at hy;rw[hrec] at hy;refine .inr ⟨w.heap.size+1,fn,_,asg,body,hy,?_⟩
  have hr:=roundIn_of_wpIn (F:=VC none) (n:=0) (P:=P) (l:=w.heap.size+1) (f:=fn) (assign:=asg) (body:=body) (w:=W) (R:=fun e W2=>(∃X,Q0 X W W2/\∀x∈X,x<W1.heap.size)/\((e=.returned (.bool true)/\I (k+1) W2/\W2.heap[w.heap.size+1]? = some (.loop (rec .ready none))/\W2.heap[w.heap.size]? = some (.deferred (some [])))\/(e=.returned (.bool false)/\∃c,Ix c W2/\W2.heap[w.heap.size+1]? = some (.loop (rec .done (some c)))/\W2.heap[w.heap.size]? = some (.deferred (some []))))) trivial
   (wpIn_mono (hround (w.heap.size+1) k W hk hi (by omega)) fun e a1 W1' hq=>?_)
  ·exact⟨trivial,fun c cs _=>hr.2 c cs (CR _ _)⟩
  ·cases e with
   | normal=>
    obtain⟨⟨X,hX,hXl⟩,hb⟩:=hq;have hl1:=keep hl hX fun hm=>by have:=hXl _ hm; omega
    have hd1:=keep hd hX fun hm=>by have:=hXl _ hm; omega
    refine⟨_,run_beginRound hl1 (by rw[hrec]),?_⟩;have hl2:(W1'.putObj (w.heap.size+1) (.loop { rec .ready none with state:=.busy })).heap[w.heap.size+1]? = some (.loop { rec .ready none with state:=.busy }):=World.putObj_heap_same (Array.getElem?_eq_some_iff.1 hl1).1;have hd2:=keep hd1 (Y6 W1' (w.heap.size+1) (.loop { rec .ready none with state:=.busy })) (by simp);refine wpIn_mono (hb _ (Y6 _ _ _)) fun e2 a2 W3 hr=>?_
    obtain⟨⟨X2,hX2,hXl2⟩,hm⟩:=hr;have hl3:=keep hl2 hX2 fun hm=>by have:=hXl2 _ hm; omega
    have hd3:=keep hd2 hX2 fun hm=>by have:=hXl2 _ hm; omega
    have fin:∀(jump:Option Code),(Instr.endRound (w.heap.size+1) jump).run P W3=.ok (.bool jump.isNone) (W3.putObj (w.heap.size+1) (.loop (rec (if jump.isNone then .ready else .done) jump)))/\
      (W3.putObj (w.heap.size+1) (.loop (rec (if jump.isNone then .ready else .done) jump))).heap[w.heap.size+1]? = some (.loop (rec (if jump.isNone then .ready else .done) jump))/\
      (W3.putObj (w.heap.size+1) (.loop (rec (if jump.isNone then .ready else .done) jump))).heap[w.heap.size]? = some (.deferred (some [])):=fun jump=>by
     have:=run_endRound (P:=P) jump hl3;rw[hrec] at this ⊢;exact⟨this,World.putObj_heap_same (Array.getElem?_eq_some_iff.1 hl3).1,keep hd3 (Y6 _ _ _) (by simp)⟩
    have hall:∀o,∃X,Q0 X W (W3.putObj (w.heap.size+1) o)/\∀x∈X,x<W1.heap.size:=fun o=>by
     have m1:Q0 (X++[w.heap.size+1]++X2) W W1':=hX.mono fun x hm=>by simp[hm]
     have m2:Q0 (X++[w.heap.size+1]++X2) W1' (W1'.putObj (w.heap.size+1) (.loop { rec .ready none with state:=.busy })):=(Y6 _ _ _).mono fun x hm=>by
      have:x=w.heap.size+1:=by simpa using hm
      simp[this]
     have m3:Q0 (X++[w.heap.size+1]++X2) _ W3:=hX2.mono fun x hm=>by simp[hm]
     have m4:Q0 (X++[w.heap.size+1]++X2) W3 (W3.putObj (w.heap.size+1) o):=(Y6 _ _ _).mono fun x hm=>by
      have:x=w.heap.size+1:=by simpa using hm
      simp[this]
     refine⟨_,((m1.trans m2).trans m3).trans m4,fun x hm=>?_⟩;simp only[List.mem_append,List.mem_singleton] at hm;rcases hm with (hm | hm) | hm
     ·have:=hXl x hm; omega
     ·omega
     ·have:=hXl2 x hm; omega
    cases e2 with
    | normal=>
     obtain⟨f1,f2,f3⟩:=fin none;exact⟨_,_,f1,hall _,.inl ⟨rfl,hI _ _ _ [w.heap.size+1] hm (Y6 _ _ _) (by simp),f2,f3⟩⟩
    | ret=>
     obtain⟨f1,f2,f3⟩:=fin (some .ret);exact⟨_,_,f1,hall _,.inr ⟨rfl,.ret,hIx _ _ _ [w.heap.size+1] hm (Y6 _ _ _) (by simp),f2,f3⟩⟩
    | exit i=>
     obtain⟨f1,f2,f3⟩:=fin (some (.exit i));exact⟨_,_,f1,hall _,.inr ⟨rfl,.exit i,hIx _ _ _ [w.heap.size+1] hm (Y6 _ _ _) (by simp),f2,f3⟩⟩
    | goto t=>
     obtain⟨f1,f2,f3⟩:=fin (some (.goto t));exact⟨_,_,f1,hall _,.inr ⟨rfl,.goto t,hIx _ _ _ [w.heap.size+1] hm (Y6 _ _ _) (by simp),f2,f3⟩⟩
    | panic ch=>exact hm.elim
    | outgrown=>exact hm.elim
   | _=>exact hq.elim
 ·rintro e W2 ⟨⟨v,rfl⟩,(⟨hi,hl,hd⟩ | ⟨c,hi,hl,hd⟩)⟩
  ·have:=run_endLoop (P:=P) hl (by rw[hrec]; simp);rw[hrec] at this;exact⟨none,_,this,hdone _ _ (Nat.le_refl _) (hI _ _ _ [w.heap.size+1] hi (Y6 _ _ _) (by simp)) (keep hd (Y6 _ _ _) (by simp))⟩
  ·have:=run_endLoop (P:=P) hl (by rw[hrec]; simp);rw[hrec] at this;exact⟨some c,_,this,hstop _ c _ (Nat.le_refl _) (hIx _ _ _ [w.heap.size+1] hi (Y6 _ _ _) (by simp)) (keep hd (Y6 _ _ _) (by simp))⟩
def zhh(m:Int)(k:Nat):List Int:=((List.range k).filter fun (i:Nat)=>QP m (i:Int)).map fun (i:Nat)=>(i:Int)
theorem LD{m:Int}{k:Nat}(h:QP m (k:Int)=true):zhh m (k+1)=zhh m k++[(k:Int)]:=by
 unfold zhh;rw[List.range_succ,List.filter_append]; simp[h]
theorem zaj{m:Int}{k:Nat}(h:QP m (k:Int)=false):zhh m (k+1)=zhh m k:=by
 unfold zhh;rw[List.range_succ,List.filter_append]; simp[h]
theorem zux(m:Int)(k j:Nat):∃r,zhh m (k+j)=zhh m k++r:=by
 induction j with
 | zero=>exact⟨[],by simp⟩
 | succ j ih=>
  obtain⟨r,hr⟩:=ih;rw[show k+(j+1)=(k+j)+1 from rfl]
  cases h:QP m ((k+j:Nat):Int) with
  | true=>rw[LD h,hr]; exact⟨r++[((k+j:Nat):Int)],by simp⟩
  | false=>rw[zaj h,hr]; exact⟨r,rfl⟩
theorem HN{α:Type}[Inhabited α](l r:List α)(x:α):gi (l++(x::r)) (l.length:Int)=x:=by
 unfold gi;simp
theorem zw9{m:Int}{k:Nat}(hk:k<4)(h:QP m (k:Int)=true):(zhh m k).length<(zhh m 4).length/\gi (zhh m 4) ((zhh m k).length:Int)=(k:Int):=by
 obtain⟨r,hr⟩:=zux m (k+1) (4-(k+1));rw[show k+1+(4-(k+1))=4 by omega,LD h,List.append_assoc] at hr;rw[hr];exact⟨by simp,HN _ _ _⟩
theorem zlf{m:Int}{bm:Nat}{I:Nat->Wo->Prop}{w:Wo}(hI:∀k W1,I k W1->Q2 [] W1 (some ⟨bm,0,none⟩) 0 [.int .i64 m]) :
  BF Tryz.prog QT #[.pointer (some ⟨bm,0,none⟩)] (zhh m 4).length (fun k=>[.int .i64 (gi (zhh m 4) (k:Int))]) I w:=by
 intro l J Jx W hx hJI hAJ hAx hY h0;refine(MC (.yield l) #[] #[] (some ⟨bm,0,none⟩) (R:=fun v w'=>J (zhh m 4).length w'\/Jx () w') ?_).mono fun e w' ⟨v,he,hr⟩=>⟨⟨v,he⟩,hr⟩
 refine TM 4 0 rfl (fun k w1=>k<=4/\J (zhh m k).length w1) (fun w1 hx1 _=>⟨Nat.zero_le _,hAJ 0 _ _ [] h0 hx1 (by simp)⟩) fun k w1 _ ⟨hk,hJ⟩=>⟨fun hlt=>?_,fun hge wr hx2=>.inl ?_⟩
 ·have hlt:=Ot hlt;have hk4:k<4:=by omega
  refine⟨m,hI _ _ (hJI _ _ hJ),QP m (k:Int),z3,fun h wr1 hx1 _=>?_,fun h=>⟨fun g=>(by cases g),fun _=>⟨⟨by omega,by omega⟩,fun wr5 hx5 _=>QM hk4 ⟨by omega,?_⟩⟩⟩⟩
  ·obtain⟨hl,hg⟩:=zw9 hk4 h;have hc:=hY (zhh m k).length wr1 hl (hAJ _ _ _ [] hJ hx1 (by simp))
   dsimp only at hc
   rw[hg] at hc;refine hc.mono fun e w2 ⟨_,hr⟩=>?_
   rcases hr with ⟨he,hJ2⟩ | ⟨he,hJx⟩
   ·refine⟨true,he,Jq,fun g=>(by rw[h] at g; cases g),fun _=>⟨⟨by omega,by omega⟩,fun wr3 hx3 _=>QM hk4 ⟨by omega,?_⟩⟩⟩;rw[LD h,List.length_append];exact hAJ _ _ _ [] hJ2 hx3 (by simp)
   ·exact⟨false,he,Jq,fun _ wr2 hx2=>.inr (hAx _ _ _ [] hJx hx2 (by simp)),fun g=>(by rw[h] at g; cases g)⟩
  ·have h:QP m (k:Int)=false:=by simpa using h
   rw[zaj h];exact hAJ _ _ _ [] hJ hx5 (by simp)
 ·have hge:=Ou hge;have:k=4:=by omega
  subst this;exact hAJ _ _ _ [] hJ hx2 (by simp)
theorem zpa{m:Int}{w:Wo}:Cz Ja #[.int .i64 m] w fun e w'=>∃b:Nat,w.heap.size<=b/\e=.returned (.func (.func QT) #[] #[.pointer (some ⟨b,0,none⟩)])/\Q2 [] w' (some ⟨b,0,none⟩) 0 [.int .i64 m]/\Q0 [] w w':=by
 refine(KL m (R:=fun v w'=>∃b:Nat,w.heap.size<=b/\v=.func (.func QT) #[] #[.pointer (some ⟨b,0,none⟩)]/\Q2 [] w' (some ⟨b,0,none⟩) 0 [.int .i64 m]/\Q0 [] w w') ?_).mono fun e w' ⟨v,he,b,hb,hv,h1⟩=>⟨b,hb,by rw[he,hv],h1⟩
 intro b wb hx hb hcell _ wr hx2;refine⟨b,hb,rfl,?_,hx.trans hx2⟩;have hc:=Zd hcell hx2 (by simp);exact XJ ⟨⟨b,0,none⟩,rfl,by simp,by rw[Addr.add_lit,Nat.add_zero,Oa hc]; rfl⟩
def X0(lt:Int->Int->Bool)(xs:List Int):Nat->Int×Bool
 | 0=>(0,false)
 | k+1=>if (!(X0 lt xs k).2||lt (gi xs (k:Int)) (X0 lt xs k).1)=true then (gi xs (k:Int),true) else X0 lt xs k
theorem zeg{lt:Int->Int->Bool}{xs:List Int}:∀k:Nat,(X0 lt xs k).2=true->∃j:Nat,j<k/\(X0 lt xs k).1=gi xs (j:Int)
 | 0,h=>by cases h
 | k+1,h=>by
  simp only[X0] at h ⊢;split
  ·exact⟨k,by omega,rfl⟩
  ·rename_i hn;rw[if_neg hn] at h;obtain⟨j,hj,he⟩:=zeg k h;exact⟨j,by omega,he⟩
theorem zkv:J6 Tryz.f156=zl6 YV (.seq (.seq XQ (.block 0 (.rangeFunc (.tmp 9) #[10] XP XG))) XH):=by kernel_rfl
structure AI (b b1 b2:Nat) (bef:Va) (st:Int×Bool) (W:Wo):Prop where
 c0:∃t,W.heap[b]? = some (.cells ([bef]:List Va).toArray t (0,0))
 c1:∃t,W.heap[b1]? = some (.cells ([.int .i64 st.1]:List Va).toArray t (0,0))
 c2:∃t,W.heap[b2]? = some (.cells ([.bool st.2]:List Va).toArray t (0,0))
theorem AI.ext{b b1 b2:Nat}{bef:Va}{st:Int×Bool}{W W':Wo}{ys:List Nat}(h:AI b b1 b2 bef st W)(hx:Q0 ys W W')(h0:b∉ys)(h1:b1∉ys)(h2:b2∉ys):AI b b1 b2 bef st W':=
 ⟨h.c0.imp fun _ h=>Zd h hx h0,h.c1.imp fun _ h=>Zd h hx h1,h.c2.imp fun _ h=>Zd h hx h2⟩
theorem P7{W:Wo}{b:Nat}{v:Va}(h:∃t,W.heap[b]? = some (.cells ([v]:List Va).toArray t (0,0))):Q2 [] W (some ⟨b,0,none⟩) 0 [v]:=by
 obtain⟨t,h⟩:=h;exact XJ ⟨⟨b,0,none⟩,rfl,by simp,by rw[Addr.add_lit,Nat.add_zero,Oa h]; rfl⟩
theorem H8{a:Array Va}{i:Nat}{v:Va}(h:i<a.size):(a.setIfInBounds i v).getD i undef=v:=by
 rw[Array.getD_eq_getD_getElem?,Array.getElem?_setIfInBounds_self_of_lt h]; rfl
theorem JU{a:Array Va}{i j:Nat}{v:Va}(h:i≠j):(a.setIfInBounds i v).getD j undef=a.getD j undef:=by
 rw[Array.getD_eq_getD_getElem?,Array.getD_eq_getD_getElem?,Array.getElem?_setIfInBounds_ne h]
theorem DN{P:Program}{f:FuncId}{fn:Func}{body:Code}{n:Nat}{args:List Va}{w:Wo}{R:Ending->Wo->Prop}(hf:P.funcs[f]? = some fn)(hb:fn.body=some body)(hn:fn.ntmps=n)(hl:args.length<=n)(h:∀a:Act,a.tmps.size=n->(∀(i:Nat) v,args[i]? = some v->a.tmps.getD i undef=v)->a.defers=[]->body.wpIn (VC none) 0 P (bodyPostM (VC none) 0 P fn R) a w):Calls P f args.toArray w R:=by
 refine zim hf hb (h _ ?_ ?_ rfl)
 ·simp[hn]; omega
 ·intro i v hv;rw[Array.getD_eq_getD_getElem?,Array.getElem?_append_left (by simpa using (List.getElem?_eq_some_iff.1 hv).1)];simp[hv]
theorem zsw{w:Wo}{o:OA}{n:Nat}{vs:List Va}:(sto w o n vs).heap.size=w.heap.size:=by
 cases o with
 | none=>rfl
 | some a=>exact TV vs w a n
theorem zi1{i:Tmp}{v:Va}{t:Array Va}:((#[i].zip [v].toArray).foldl (fun (t:Array Va) (p,v)=>t.setIfInBounds p v) t)=t.setIfInBounds i v:=by simp
theorem zww{gf:FuncId}{lb:Array Va}{bF:Fn}{bA bK:Array Va}{xs:List Int}{lt:Int->Int->Bool}{w:Wo}(eg:∀args w,(callFunc gf args).run Tryz.prog w=.ok (.enter gf args) w)(hit:∀(I:Nat->Wo->Prop) (W:Wo),Q0 [] w W->(∀k W1,I k W1->Q0 [] w W1)->BF Tryz.prog gf lb xs.length (fun k=>[.int .i64 (gi xs (k:Int))]) I W)(hb:∀i j:Nat,i<xs.length->j<xs.length->∀W1,Q0 [] w W1->H2 Tryz.prog (.func bF bA bK) [.int .i64 (gi xs (i:Int)),.int .i64 (gi xs (j:Int))] W1 fun e W2=>e=.returned (.bool (lt (gi xs (i:Int)) (gi xs (j:Int))))/\Q0 [] W1 W2) :
  Cz ME #[.func (.func gf) #[] lb,.func bF bA bK] w fun e w'=>e=.returned (.tuple #[.int .i64 (X0 lt xs xs.length).1,.bool (X0 lt xs xs.length).2])/\Q0 [] w w':=by
 refine DN (args:=[.func (.func gf) #[] lb,.func bF bA bK]) (n:=22) Tryz.func156 (body:=J6 Tryz.f156) rfl (by kernel_rfl) (by simp) fun a hn ha hd=>?_
 rw[zkv];have a0:=ha 0 _ rfl;have a1:=ha 1 _ rfl;refine GK none bF bA bK (R:=fun e vs w1=>e=.normal/\∃b b1 b2:Nat,vs=[.pointer (some ⟨b,0,none⟩),.pointer (some ⟨b1,0,none⟩),.pointer (some ⟨b2,0,none⟩)]/\b<b1/\b1<b2/\w.heap.size<=b/\b2<w1.heap.size/\AI b b1 b2 (.func bF bA bK) (0,false) w1/\Q0 [] w w1) hn ?_ ?_ ?_ (fun e vs a1 w1 hne hR _=>absurd hR.1 hne)
 ·intro p hp;simp only[List.mem_cons,List.not_mem_nil,or_false] at hp;subst hp;exact⟨Nat.le_of_ble_eq_true rfl,a1⟩
 ·intro b wb hx hb0 hcell _ b1 wb1 hx1 hb1 hcell1 _ b2 wb2 hx2 hb2 hcell2 _;have l0:=Ur hcell;have l1:=Ur hcell1;have l2:=Ur hcell2;have s1:=hx1.size;have s2:=hx2.size;refine⟨Ma (k0:=0) hcell2 (by simp) (by simp),fun wr hx3=>?_⟩;have hs:Q0 [b2] wb2 (sto wb2 (some ⟨b2,0,none⟩) 0 [.bool false]):=UZ (bs:=[b2]) (by simp);have s3:=hx3.size;rw[zsw] at s3;refine⟨rfl,b,b1,b2,rfl,by omega,by omega,hb0,by omega,⟨⟨_,Zd (Zd (Zd (Zd hcell hx1 (by simp)) hx2 (by simp)) hs (by simp; omega)) hx3 (by simp)⟩,⟨_,Zd (Zd (Zd hcell1 hx2 (by simp)) hs (by simp; omega)) hx3 (by simp)⟩,⟨_,Zd (Km hcell2) hx3 (by simp)⟩⟩,?_⟩
  exact(((hx.trans hx1).trans hx2).fresh hs fun x hm=>.inl (by
   have:x=b2:=by simpa using hm
   have:=hx.size;omega)).trans hx3
 rintro vs a2 w1 ⟨_,b,b1,b2,rfl,h01,h12,hwb,hb2,hB,hX⟩ fo
 obtain⟨o3,o6,o7⟩:a2.tmps.getD 3 undef=.pointer (some ⟨b,0,none⟩)/\a2.tmps.getD 6 undef=.pointer (some ⟨b1,0,none⟩)/\a2.tmps.getD 7 undef=.pointer (some ⟨b2,0,none⟩):=by
  have:=fo.out;simp only[List.map_cons,List.map_nil,List.cons.injEq,and_true] at this;exact this
 have o0:a2.tmps.getD 0 undef=.func (.func gf) #[] lb:=(fo.kept 0 (by decide +kernel)).trans a0;refine wpIn_seq (wpIn_seq (GJ none (.func gf) #[] lb (R:=fun e vs w2=>e=.normal/\vs=[.func (.func gf) #[] lb]/\Q0 [] w1 w2) (by rw[fo.size,hn]) (fun p hp=>?_) (fun wr hx=>⟨rfl,rfl,hx⟩) fun e vs a3 w2 hR fo3=>?_))
 ·simp only[List.mem_cons,List.not_mem_nil,or_false] at hp;subst hp;exact⟨Nat.le_of_ble_eq_true rfl,o0⟩
 obtain⟨rfl,rfl,hx2⟩:=hR
 have p9:a3.tmps.getD 9 undef=.func (.func gf) #[] lb:=by
  have:=fo3.out
  simpa using this
 have p3:=(fo3.kept 3 (by decide +kernel)).trans o3;have p6:=(fo3.kept 6 (by decide +kernel)).trans o6;have p7:=(fo3.kept 7 (by decide +kernel)).trans o7;have hsz3:a3.tmps.size=22:=by rw[fo3.size,fo.size,hn]
 have hd3:a3.defers=[]:=by rw[fo3.defers,fo.defers,hd]
 have hX2:=hX.trans hx2;have hB2:=hB.ext hx2 (by simp) (by simp) (by simp);have hlt2:b2<w2.heap.size:=Nat.lt_of_lt_of_le hb2 hx2.size;refine wpIn_block (zsi (lb:=lb) (gf:=gf) p9 eg (fun k W=>AI b b1 b2 (.func bF bA bK) (X0 lt xs k) W/\Q0 [] w W) (fun _ _=>False) xs.length (fun k=>[.int .i64 (gi xs (k:Int))]) (fun k W W' ys h hx hy=>⟨h.1.ext hx (fun hm=>by have:=hy _ hm; omega) (fun hm=>by have:=hy _ hm; omega) (fun hm=>by have:=hy _ hm; omega),h.2.fresh hx fun x hm=>.inl (by have:=hy x hm; have:=hX2.size; omega)⟩) (fun k W W' ys h _ _=>h) ⟨hB2,hX2⟩ (fun k=>rfl) (hit _ w2 hX2 fun k W1 h=>h.2) ?_ ?_ (fun D c W _ h _=>h.elim))
 ·intro l k W hk ⟨hBk,hXk⟩ hl;rw[zi1];refine GI (some l) (gi xs (k:Int)) (R:=fun e vs W1=>e=.normal/\vs=[.int .i64 (gi xs (k:Int))]/\Q0 [] W W1) ?_ (fun p hp=>?_) (fun wr hx=>⟨rfl,rfl,hx⟩) fun e vs a4 W1 hR fo4=>?_
  ·simpa using hsz3
  ·simp only[List.mem_cons,List.not_mem_nil,or_false] at hp;subst hp;exact⟨Nat.le_of_ble_eq_true rfl,H8 (i:=10) (by rw[hsz3]; decide)⟩
  obtain⟨rfl,rfl,hx4⟩:=hR
  have q8:a4.tmps.getD 8 undef=.int .i64 (gi xs (k:Int)):=by
   have:=fo4.out
   simpa using this
  have q3:a4.tmps.getD 3 undef=.pointer (some ⟨b,0,none⟩):=((fo4.kept 3 (by decide +kernel)).trans (JU (i:=10) (j:=3) (by decide))).trans p3;have q6:a4.tmps.getD 6 undef=.pointer (some ⟨b1,0,none⟩):=((fo4.kept 6 (by decide +kernel)).trans (JU (i:=10) (j:=6) (by decide))).trans p6;have q7:a4.tmps.getD 7 undef=.pointer (some ⟨b2,0,none⟩):=((fo4.kept 7 (by decide +kernel)).trans (JU (i:=10) (j:=7) (by decide))).trans p7;refine⟨⟨[],hx4,by simp⟩,fun W2 hx5=>?_⟩;have hB5:=(hBk.ext hx4 (by simp) (by simp) (by simp)).ext hx5 (by simp; omega) (by simp; omega) (by simp; omega)
  have hX5:Q0 [] w W2:=(hXk.trans hx4).fresh hx5 fun x hm=>.inl (by
   have:x=l:=by simpa using hm
   have:=hX2.size;omega)
  have fin:∀(W3:Wo),Q0 [] W2 W3->∀wr,Q0 [] (sto (sto W3 (some ⟨b1,0,none⟩) 0 [.int .i64 (gi xs (k:Int))]) (some ⟨b2,0,none⟩) 0 [.bool true]) wr->(∃X,Q0 X W2 wr/\∀x∈X,x<w2.heap.size)/\AI b b1 b2 (.func bF bA bK) (gi xs (k:Int),true) wr/\Q0 [] w wr:=fun W3 hx6 wr hx7=>by
   have hB6:=hB5.ext hx6 (by simp) (by simp) (by simp);obtain⟨t1,c1⟩:=hB6.c1;obtain⟨t2,c2⟩:=hB6.c2;have e1:Q0 [b1] W3 (sto W3 (some ⟨b1,0,none⟩) 0 [.int .i64 (gi xs (k:Int))]):=UZ (bs:=[b1]) (by simp);have e2:Q0 [b2] (sto W3 (some ⟨b1,0,none⟩) 0 [.int .i64 (gi xs (k:Int))]) (sto (sto W3 (some ⟨b1,0,none⟩) 0 [.int .i64 (gi xs (k:Int))]) (some ⟨b2,0,none⟩) 0 [.bool true]):=UZ (bs:=[b2]) (by simp);have eX:Q0 [b1,b2] W2 wr:=((hx6.of_nil.trans (e1.mono (by simp))).trans (e2.mono (by simp))).trans hx7.of_nil;have d1:=Zd (Zd (Km (vs:=[.int .i64 (gi xs (k:Int))]) (n:=0) c1) e2 (by simp; omega)) hx7 (by simp);have d2:=Zd (Km (vs:=[.bool true]) (n:=0) (Zd c2 e1 (by simp; omega))) hx7 (by simp);refine⟨⟨[b1,b2],eX,fun x hm=>?_⟩,⟨hB5.c0.imp fun _ h=>Zd h eX (by simp; omega),⟨t1,d1⟩,⟨t2,d2⟩⟩,hX5.fresh eX fun x hm=>.inl ?_⟩
   ·simp only[List.mem_cons,List.not_mem_nil,or_false] at hm;omega
   ·simp only[List.mem_cons,List.not_mem_nil,or_false] at hm;omega
  refine Lj (some l) (some ⟨b,0,none⟩) (some ⟨b1,0,none⟩) (some ⟨b2,0,none⟩) (gi xs (k:Int)) (R:=fun e _ W3=>e=.normal/\(∃X,Q0 X W2 W3/\∀x∈X,x<w2.heap.size)/\AI b b1 b2 (.func bF bA bK) (X0 lt xs (k+1)) W3/\Q0 [] w W3) (by rw[fo4.size]; simpa using hsz3) (fun p hp=>?_) ?_ fun e vs a5 W3 hR _=>?_
  ·simp only[List.mem_cons,List.not_mem_nil,or_false] at hp;rcases hp with rfl | rfl | rfl | rfl
   ·exact⟨Nat.le_of_ble_eq_true rfl,q3⟩
   ·exact⟨Nat.le_of_ble_eq_true rfl,q6⟩
   ·exact⟨Nat.le_of_ble_eq_true rfl,q7⟩
   ·exact⟨Nat.le_of_ble_eq_true rfl,q8⟩
  ·refine⟨(X0 lt xs k).2,P7 hB5.c2,bF,bA,bK,fun _=>P7 hB5.c0,(X0 lt xs k).1,fun _=>P7 hB5.c1,fun hs wr hx6 _=>?_,fun hs=>⟨fun _=>?_,fun h=>(by cases h)⟩⟩
   ·have hs2:(X0 lt xs k).2=true:=by simpa using hs
    obtain⟨j,hj,hje⟩:=zeg k hs2;have hc:=hb k j hk (by omega) wr (hX5.trans hx6);rw[<-hje] at hc;refine hc.mono fun e W3 ⟨he,hx7⟩=>⟨_,he,Jq,fun g=>?_,fun g wr2 hx8=>?_⟩
    ·have hB7:=(hB5.ext hx6 (by simp) (by simp) (by simp)).ext hx7 (by simp) (by simp) (by simp);obtain⟨t1,c1⟩:=hB7.c1;obtain⟨t2,c2⟩:=hB7.c2;have e1:Q0 [b1] W3 (sto W3 (some ⟨b1,0,none⟩) 0 [.int .i64 (gi xs (k:Int))]):=UZ (bs:=[b1]) (by simp);refine⟨Ma (k0:=0) c1 (by simp) (by simp),Ma (k0:=0) (Zd c2 e1 (by simp; omega)) (by simp) (by simp),fun wr1 hx9=>?_⟩;obtain⟨f1,f2,f3⟩:=fin W3 (hx6.trans hx7) wr1 hx9;refine⟨rfl,f1,?_,f3⟩;rw[show X0 lt xs (k+1)=(gi xs (k:Int),true) from if_pos g];exact f2
    ·have hx9:=(hx6.trans hx7).trans hx8;refine⟨rfl,⟨[],hx9,by simp⟩,?_,hX5.trans hx9⟩;rw[show X0 lt xs (k+1)=X0 lt xs k from if_neg (by rw[g]; decide)];exact hB5.ext hx9 (by simp) (by simp) (by simp)
   ·have hs2:(X0 lt xs k).2=false:=by
     cases h:(X0 lt xs k).2 with
     | false=>rfl
     | true=>exact absurd (by rw[h]; rfl) hs
    obtain⟨t1,c1⟩:=hB5.c1;obtain⟨t2,c2⟩:=hB5.c2;have e1:Q0 [b1] W2 (sto W2 (some ⟨b1,0,none⟩) 0 [.int .i64 (gi xs (k:Int))]):=UZ (bs:=[b1]) (by simp);refine⟨Ma (k0:=0) c1 (by simp) (by simp),Ma (k0:=0) (Zd c2 e1 (by simp; omega)) (by simp) (by simp),fun wr1 hx9=>?_⟩;obtain⟨f1,f2,f3⟩:=fin W2 (Q0.refl _ _) wr1 hx9;refine⟨rfl,f1,?_,f3⟩;rw[show X0 lt xs (k+1)=(gi xs (k:Int),true) from if_pos (by rw[hs2]; rfl)];exact f2
  ·obtain⟨rfl,hX3,hI3⟩:=hR;exact⟨hX3,hI3⟩
 ·intro D W hD ⟨hBn,hXn⟩ hdD;refine Lk none (some ⟨b1,0,none⟩) (some ⟨b2,0,none⟩) (R:=fun e vs W1=>e=.ret/\vs=[.int .i64 (X0 lt xs xs.length).1,.bool (X0 lt xs xs.length).2]/\Q0 [] W W1) hsz3 (fun p hp=>?_) ⟨_,P7 hBn.c1,_,P7 hBn.c2,fun wr hx=>⟨rfl,rfl,hx⟩⟩ fun e vs a6 W1 hR fo6=>?_
  ·simp only[List.mem_cons,List.not_mem_nil,or_false] at hp;rcases hp with rfl | rfl
   ·exact⟨Nat.le_of_ble_eq_true rfl,p6⟩
   ·exact⟨Nat.le_of_ble_eq_true rfl,p7⟩
  ·obtain⟨rfl,rfl,hx6⟩:=hR
   have hr:∀w',(results Tryz.f156 a6.tmps).run Tryz.prog w'=.ok (.tuple #[.int .i64 (X0 lt xs xs.length).1,.bool (X0 lt xs xs.length).2]) w':=fun w'=>by
    rw[results_tmp2 (t:=4) (u:=5) (by kernel_rfl)];have:=fo6.out;simp only[List.map_cons,List.map_nil,List.cons.injEq,and_true] at this;rw[this.1,this.2]
   exact(HS (D:=D) (by rw[fo6.defers]; simp[hd3]) ((hx6.block D (Array.getElem?_eq_some_iff.1 hdD).1 (by simp)).trans hdD) hr fun w' hx=>⟨rfl,(hXn.trans hx6).fresh hx fun x hm=>.inl (by
    have:x=D:=by simpa using hm
    have:=hX2.size;omega)⟩).2
theorem Vr{W1 W2:Wo}{b:Nat}{v:Va}{ys:List Nat}(h:Q2 [] W1 (some ⟨b,0,none⟩) 0 [v])(hx:Q0 ys W1 W2)(hb:b∉ys):Q2 [] W2 (some ⟨b,0,none⟩) 0 [v]:=by
 obtain⟨a,ha,_,hc⟩:=h.get 0 _ rfl;cases ha;have hw:Uz ys W1 (some ⟨b,0,none⟩) (0+0) v:=⟨_,rfl,hb,hc⟩;obtain⟨a2,ha2,_,hc2⟩:=hw.ext hx;cases ha2;exact XJ ⟨_,rfl,by simp,hc2⟩
theorem DO{W1:Wo}{b:Nat}{v:Va}(h:Q2 [] W1 (some ⟨b,0,none⟩) 0 [v]):b<W1.heap.size:=by
 obtain⟨a,ha,_,hc⟩:=h.get 0 _ rfl;cases ha;have:=World.block_lt_of_cell? W1 _ hc
 rwa[Zq] at this
def zpj(k:Int):M0:=⟨Int.tmod (k) 3==0,k+1,k+1+1,k+1+1+1,k+1+1+1+1⟩
theorem U4.same{α:Type}{enc:α->List Va}{z:Nat}{ty:TypeId}{base:Nat}{w:Wo}{o:OA}{cap:Nat}{l l':List α}(h:U4 enc z ty base w o cap l)(he:l'.flatMap enc=l.flatMap enc)(hl:l'.length=l.length):U4 enc z ty base w o cap l':=by
 rcases h with ⟨h1,rfl,h3⟩ | ⟨b,sp,rfl,h1,h2,h3,h4⟩
 ·exact .inl ⟨h1,List.eq_nil_of_length_eq_zero hl,h3⟩
 ·exact .inr ⟨b,sp,rfl,h1,by rw[he]; exact h2,by rw[he]; exact h3,by omega⟩
theorem H7{α:Type}{enc:α->List Va}:∀(l:List α) (i:Nat) (x:α),(∀y,l[i]? = some y->enc x=enc y)->(l.set i x).flatMap enc=l.flatMap enc
 | [],_,_,_=>rfl
 | y::r,0,x,h=>by simp only[List.set_cons_zero,List.flatMap_cons]; rw[h y rfl]
 | y::r,i+1,x,h=>by
  simp only[List.set_cons_succ,List.flatMap_cons];rw[H7 r i x fun z hz=>h z (by simpa using hz)]
theorem zwp{α:Type}[Inhabited α]{l:List α}{i:Int}(h0:0<=i)(hi:i<(l.length:Int)):l[i.toNat]? = some (gi l i):=by
 obtain⟨k,rfl⟩:=Int.eq_ofNat_of_zero_le h0;rw[Int.toNat_natCast];exact zt5 (by omega)
section
variable {base:Nat}{w w':Wo}{o:OA}{cap:Nat}{ps:List (ZF×MG)}
theorem K5.foreign{α:Type}{enc:α->List Va}{z:Nat}{ty:TypeId}{base' cap':Nat}{o':OA}{l:List α}(h:K5 base w o cap ps)(h':U4 enc z ty base' w o' cap' l)(n1:QN≠ty)(n2:Qd≠ty)(n3:YD≠ty)(n4:YE≠ty)(hx:Q0 (QB o') w w'):K5 base w' o cap ps:=
 ⟨h.row.ext hx (h.row.ty_ne h' n1),fun i a b=>(h.each i a b).ext hx fun x hm=>by
  simp only[Qt,List.mem_append] at hm;rcases hm with (hm | hm) | hm
  ·exact(h.each i a b).loc.ty_ne h' n2 x hm
  ·exact(h.each i a b).dry.ty_ne h' n3 x hm
  ·exact(h.each i a b).shl.ty_ne h' n4 x hm,h.dj⟩
theorem K5.sto(h:K5 base w o cap ps){i:Int}(h0:0<=i)(hi:i<(ps.length:Int)){p:ZF×MG}(hp:K6 base w p)(hd:∀j:Int,0<=j->j<(ps.length:Int)->i≠j->∀b∈Qt (gi ps j).2,b∉Qt p.2){j:Nat}{vs:List Va}(he:Pf p=(Pf (gi ps i)).take j++vs++(Pf (gi ps i)).drop (j+vs.length))(hj:j+vs.length<=14):K5 base (YtclpmgfpjeaibaaGreat.sto w o (Int.toNat i*14+j) vs) o cap (ps.set i.toNat p):=by
 have hx:=h.row.stoX (Int.toNat i*14+j) vs;have hlen:(ps.set i.toNat p).length=ps.length:=List.length_set;refine⟨h.row.sto X6.len h0 hi he hj,fun k hk hkl=>?_,fun a k ha hal hk hkl hak b hb hb'=>?_⟩
 ·rw[hlen] at hkl;rw[QA _ _ h0 hi hk];split
  ·exact hp.ext hx (J3 h.row hp)
  ·exact(h.each k hk hkl).ext hx (J3 h.row (h.each k hk hkl))
 ·rw[hlen] at hal hkl;rw[QA _ _ h0 hi ha] at hb;rw[QA _ _ h0 hi hk] at hb'
  by_cases e1:i=a
  ·rw[if_pos e1] at hb
   by_cases e2:i=k
   ·omega
   ·rw[if_neg e2] at hb';exact hd k hk hkl e2 b hb' hb
  ·rw[if_neg e1] at hb
   by_cases e2:i=k
   ·rw[if_pos e2] at hb';exact hd a ha hal e1 b hb hb'
   ·rw[if_neg e2] at hb';exact h.dj a k ha hal hk hkl hak b hb hb'
theorem K5.in(h:K5 base w o cap ps){i:Int}(h0:0<=i)(hi:i<(ps.length:Int)){p:ZF×MG}{bs:List Nat}(hx:Q0 bs w w')(hb:∀x∈bs,x∈Qt (gi ps i).2)(hp:K6 base w' p)(hm:p.2=(gi ps i).2)(he:Pf p=Pf (gi ps i)):K5 base w' o cap (ps.set i.toNat p):=by
 have hlen:(ps.set i.toNat p).length=ps.length:=List.length_set;refine⟨?_,fun k hk hkl=>?_,fun a k ha hal hk hkl hak b hb1 hb'=>?_⟩
 ·refine(h.row.ext hx fun b hb1 hb2=>J3 h.row (h.each i h0 hi) b (hb b hb2) hb1).same (H7 _ _ _ fun y hy=>?_) hlen;rw[zwp h0 hi] at hy;cases hy;exact he
 ·rw[hlen] at hkl;rw[QA _ _ h0 hi hk];split
  ·exact hp
  ·rename_i hne;exact(h.each k hk hkl).ext hx fun b hb1 hb2=>h.dj i k h0 hi hk hkl hne b (hb b hb2) hb1
 ·rw[hlen] at hal hkl;rw[QA _ _ h0 hi ha] at hb1;rw[QA _ _ h0 hi hk] at hb'
  have e1:b∈Qt (gi ps a).2:=by
   by_cases e:i=a
   ·rw[if_pos e,hm,e] at hb1; exact hb1
   ·rw[if_neg e] at hb1; exact hb1
  have e2:b∈Qt (gi ps k).2:=by
   by_cases e:i=k
   ·rw[if_pos e,hm,e] at hb'; exact hb'
   ·rw[if_neg e] at hb'; exact hb'
  exact h.dj a k ha hal hk hkl hak b e1 e2
end
def zpw(W:Q8)(m:MW):List (ZF×MG):=(List.range W.groups.length).map fun (k:Nat)=>(gi W.groups (k:Int),m.ms k)
theorem XF(W:Q8)(m:MW):(zpw W m).length=W.groups.length:=by simp[zpw]
theorem T8{W:Q8}{m:MW}{i:Int}(h0:0<=i)(hi:i<(W.groups.length:Int)):gi (zpw W m) i=(gi W.groups i,m.ms i.toNat):=by
 obtain⟨k,rfl⟩:=Int.eq_ofNat_of_zero_le h0;rw[J2 (by rw[XF]; omega)];simp[zpw]
def QL(n:Nat)(m:MW):List Nat:=QB m.cO++QB m.tO++QB m.gO++(List.range n).flatMap fun (k:Nat)=>Qt (m.ms k)
structure Yu (n base:Nat) (w:Wo) (W:Q8) (m:MW):Prop where
 c:U4 KN 5 ZB base w m.cO m.cC W.cpus
 t:U4 X7 9 QK base w m.tO m.tC W.tasks
 g:K5 base w m.gO m.gC (zpw W m)
 len:W.groups.length=n
section
variable {n base:Nat}{w w':Wo}{W:Q8}{m:MW}{bs:List Nat}
theorem B0{x:Nat}(h:x∈QB m.cO):x∈QL n m:=by simp[QL,h]
theorem B2{x:Nat}(h:x∈QB m.tO):x∈QL n m:=by simp[QL,h]
theorem B1{x:Nat}(h:x∈QB m.gO):x∈QL n m:=by simp[QL,h]
theorem JX{x k:Nat}(hk:k<n)(h:x∈Qt (m.ms k)):x∈QL n m:=by
 unfold QL;exact List.mem_append_right _ (List.mem_flatMap.2 ⟨k,List.mem_range.2 hk,h⟩)
theorem BS{x:Nat}(h:x∈QL n m):x∈QB m.cO\/x∈QB m.tO\/x∈QB m.gO\/∃k,k<n/\x∈Qt (m.ms k):=by
 unfold QL at h;simp only[List.mem_append,List.mem_flatMap,List.mem_range] at h;rcases h with ((h | h) | h) | ⟨k,hk,h⟩
 ·exact .inl h
 ·exact .inr (.inl h)
 ·exact .inr (.inr (.inl h))
 ·exact .inr (.inr (.inr ⟨k,hk,h⟩))
theorem Yu.each(h:Yu n base w W m){i:Int}(h0:0<=i)(hi:i<(n:Int)):K6 base w (gi W.groups i,m.ms i.toNat):=by
 have:=h.g.each i h0 (by rw[XF,h.len]; exact hi)
 rwa[T8 h0 (by rw[h.len]; exact hi)] at this
theorem Yu.lt(h:Yu n base w W m):∀x∈QL n m,base<=x/\x<w.heap.size:=fun x hx=>by
 rcases BS hx with hx | hx | hx | ⟨k,hk,hx⟩
 ·exact h.c.lt x hx
 ·exact h.t.lt x hx
 ·exact h.g.row.lt x hx
 ·exact(h.each (i:=(k:Int)) (by omega) (by omega)).lt x (by simpa using hx)
theorem Yu.ext(h:Yu n base w W m)(hx:Q0 bs w w')(hd:∀x∈QL n m,x∉bs):Yu n base w' W m:=
 ⟨h.c.ext hx fun b hb=>hd b (B0 hb),h.t.ext hx fun b hb=>hd b (B2 hb),
  ⟨h.g.row.ext hx fun b hb=>hd b (B1 hb),fun i a b=>by
   have b':i<(W.groups.length:Int):=by rw[XF] at b; exact b
   have hl:=h.len;refine(h.g.each i a b).ext hx fun x hm=>?_
   rw[T8 a b'] at hm;exact hd x (JX (by omega) hm),h.g.dj⟩,h.len⟩
theorem Yu.ext0(h:Yu n base w W m)(hx:Q0 [] w w'):Yu n base w' W m:=h.ext hx (by simp)
theorem Yu.mono{base':Nat}(h:Yu n base w W m)(hb:base'<=base):Yu n base' w W m:=⟨h.c.mono hb,h.t.mono hb,h.g.mono hb,h.len⟩
theorem Yu.rd(h:Yu n base w W m)(hd:∀x∈QL n m,x∉bs):Xt bs w W m:=by
 have hl:=h.len;refine⟨h.c.rd Gc.len fun b hb=>hd b (B0 hb),h.t.rd Pe.len fun b hb=>hd b (B2 hb),⟨fun i h0 hi=>?_,fun i h0 hi=>?_,fun i h0 hi=>?_,fun i h0 hi=>?_⟩⟩
 ·have:=h.g.row.rd X6.len (bs:=bs) (fun b hb=>hd b (B1 hb)) i h0 (by rw[XF]; exact hi)
  rwa[T8 h0 hi] at this
 ·exact(h.each h0 (by omega)).loc.rd Y5.len fun b hb=>hd b (JX (k:=i.toNat) (by omega) (by simp[Qt]; exact .inl hb))
 ·exact(h.each h0 (by omega)).dry.rd Xw.len fun b hb=>hd b (JX (k:=i.toNat) (by omega) (by simp[Qt]; exact .inr (.inl hb)))
 ·exact(h.each h0 (by omega)).shl.rd Tr.len fun b hb=>hd b (JX (k:=i.toNat) (by omega) (by simp[Qt]; exact .inr (.inr hb)))
theorem Yu.stoT(h:Yu n base w W m){i:Int}(h0:0<=i)(hi:i<(W.tasks.length:Int)){j:Nat}{vs:List Va}{x:Mw}(he:X7 x=(X7 (gi W.tasks i)).take j++vs++(X7 (gi W.tasks i)).drop (j+vs.length))(hj:j+vs.length<=9) :
  Yu n base (sto w m.tO (Int.toNat i*9+j) vs) { W with tasks:=W.tasks.set i.toNat x } m:=
 ⟨h.c.ext (h.t.stoX _ _) (h.c.ty_ne h.t (by decide)),h.t.sto Pe.len h0 hi he hj,h.g.foreign h.t (by decide) (by decide) (by decide) (by decide) (h.t.stoX _ _),h.len⟩
theorem Yu.stoC(h:Yu n base w W m){i:Int}(h0:0<=i)(hi:i<(W.cpus.length:Int)){j:Nat}{vs:List Va}{x:M0}(he:KN x=(KN (gi W.cpus i)).take j++vs++(KN (gi W.cpus i)).drop (j+vs.length))(hj:j+vs.length<=5) :
  Yu n base (sto w m.cO (Int.toNat i*5+j) vs) { W with cpus:=W.cpus.set i.toNat x } m:=
 ⟨h.c.sto Gc.len h0 hi he hj,h.t.ext (h.c.stoX _ _) (h.t.ty_ne h.c (by decide)),h.g.foreign h.c (by decide) (by decide) (by decide) (by decide) (h.c.stoX _ _),h.len⟩
def P2(m:MW)(k:Nat)(p:MG):MW:={ m with ms:=fun j=>if k=j then p else m.ms j }
theorem zfj(m:MW)(k:Nat):P2 m k (m.ms k)=m:=by
 unfold P2
 have:(fun j=>if k=j then m.ms k else m.ms j)=m.ms:=by
  funext j
  split
  ·rename_i e; rw[e]
  ·rfl
 rw[this]
theorem zht{i:Int}(h0:0<=i)(hi:i<(W.groups.length:Int))(g:ZF)(p:MG):zpw { W with groups:=W.groups.set i.toNat g } (P2 m i.toNat p)=(zpw W m).set i.toNat (g,p):=by
 refine zra (by rw[XF,List.length_set,List.length_set,XF]) fun k hk=>?_
 rw[XF,List.length_set] at hk;rw[T8 (by omega) (by rw[List.length_set]; omega),QA _ _ h0 hi (by omega),QA _ _ h0 (by rw[XF]; exact hi) (by omega)];simp only[P2]
 by_cases e:i=(k:Int)
 ·rw[if_pos e,if_pos e,if_pos (by omega)]
 ·rw[if_neg e,if_neg e,if_neg (by omega),T8 (by omega) (by omega)]
theorem Yu.foreignM{p:MG}(h:Yu n base w W m){i:Int}(hn:∀x∈Qt p,x∉QL n m\/x∈Qt (m.ms i.toNat))(h0:0<=i)(hi:i<(n:Int)):∀j:Int,0<=j->j<((zpw W m).length:Int)->i≠j->∀b∈Qt (gi (zpw W m) j).2,b∉Qt p:=fun j hj hjl hij b hb hb'=>by
 have hl:=h.len;rw[XF] at hjl;have hb2:=hb;rw[T8 hj hjl] at hb;rcases hn b hb' with h1 | h1
 ·exact h1 (JX (by omega) hb)
 ·have:=h.g.dj i j h0 (by rw[XF]; omega) hj (by rw[XF]; exact hjl) hij b (by rw[T8 h0 (by omega)]; exact h1);exact this hb2
theorem Yu.stoG(h:Yu n base w W m){i:Int}(h0:0<=i)(hi:i<(n:Int)){g:ZF}{p:MG}(hp:K6 base w (g,p))(hn:∀x∈Qt p,x∉QL n m\/x∈Qt (m.ms i.toNat)){j:Nat}{vs:List Va}(he:YF g p=(YF (gi W.groups i) (m.ms i.toNat)).take j++vs++(YF (gi W.groups i) (m.ms i.toNat)).drop (j+vs.length))(hj:j+vs.length<=14) :
  Yu n base (sto w m.gO (Int.toNat i*14+j) vs) { W with groups:=W.groups.set i.toNat g } (P2 m i.toNat p):=by
 have hl:=h.len;have hx:=h.g.row.stoX (Int.toNat i*14+j) vs;refine⟨h.c.ext hx (h.c.ty_ne h.g.row (by decide)),h.t.ext hx (h.t.ty_ne h.g.row (by decide)),?_,by rw[List.length_set]; exact hl⟩;have:=h.g.sto h0 (by rw[XF]; omega) hp (h.foreignM hn h0 hi) (j:=j) (vs:=vs) (by rw[T8 h0 (by omega)]; exact he) hj;rw[zht h0 (by omega)];exact this
theorem Yu.stoG0(h:Yu n base w W m){i:Int}(h0:0<=i)(hi:i<(n:Int)){g:ZF}(e1:g.band.locals=(gi W.groups i).band.locals)(e2:g.band.dry=(gi W.groups i).band.dry)(e3:g.shelves=(gi W.groups i).shelves){j:Nat}{vs:List Va}(he:YF g (m.ms i.toNat)=(YF (gi W.groups i) (m.ms i.toNat)).take j++vs++(YF (gi W.groups i) (m.ms i.toNat)).drop (j+vs.length))(hj:j+vs.length<=14) :
  Yu n base (sto w m.gO (Int.toNat i*14+j) vs) { W with groups:=W.groups.set i.toNat g } m:=by
 have hm:=h.each h0 hi;have:=h.stoG h0 hi (g:=g) (p:=m.ms i.toNat) ⟨by rw[e1]; exact hm.loc,by rw[e2]; exact hm.dry,by rw[e3]; exact hm.shl⟩ (fun x hx=>.inr hx) he hj
 rwa[zfj] at this
theorem Yu.in(h:Yu n base w W m){i:Int}(h0:0<=i)(hi:i<(n:Int)){g:ZF}(hx:Q0 bs w w')(hb:∀x∈bs,x∈Qt (m.ms i.toNat))(hp:K6 base w' (g,m.ms i.toNat))(he:YF g (m.ms i.toNat)=YF (gi W.groups i) (m.ms i.toNat)) :
  Yu n base w' { W with groups:=W.groups.set i.toNat g } m:=by
 have hl:=h.len;have hmi:=h.each h0 hi
 have hf:∀{α:Type} {enc:α->List Va} {z:Nat} {ty:TypeId} {base' cap':Nat} {o':OA} {l:List α},U4 enc z ty base' w o' cap' l->ty≠Qd->ty≠YD->ty≠YE->∀b∈QB o',b∉bs:=fun ho n1 n2 n3 b hb1 hb2=>by
  have hm:=hb b hb2;simp only[Qt,List.mem_append] at hm;rcases hm with (hm | hm) | hm
  ·exact ho.ty_ne hmi.loc n1 b hb1 hm
  ·exact ho.ty_ne hmi.dry n2 b hb1 hm
  ·exact ho.ty_ne hmi.shl n3 b hb1 hm
 refine⟨h.c.ext hx (hf h.c (by decide) (by decide) (by decide)),h.t.ext hx (hf h.t (by decide) (by decide) (by decide)),?_,by rw[List.length_set]; exact hl⟩;have:=h.g.in h0 (by rw[XF]; omega) (p:=(g,m.ms i.toNat)) hx (by rw[T8 h0 (by omega)]; exact hb) hp (by rw[T8 h0 (by omega)]) (by rw[T8 h0 (by omega)]; exact he);have hs:=zht (m:=m) h0 (W:=W) (by omega) g (m.ms i.toNat);rw[zfj] at hs;rw[hs];exact this
theorem zvg(W:Q8)(i:Int)(c:Int)(x:KE)(mg:MG):YF { gi W.groups i with shelves:=(gi W.groups i).shelves.set c.toNat x } mg=YF (gi W.groups i) mg:=by
 simp[YF]
theorem Yu.stoS(h:Yu n base w W m){i c:Int}(h0:0<=i)(hi:i<(n:Int))(c0:0<=c)(c1:c<((gi W.groups i).shelves.length:Int)){j:Nat}{vs:List Va}{x:KE}(he:MD x=(MD (gi (gi W.groups i).shelves c)).take j++vs++(MD (gi (gi W.groups i).shelves c)).drop (j+vs.length))(hj:j+vs.length<=5) :
  Yu n base (sto w (m.ms i.toNat).sO (Int.toNat c*5+j) vs) { W with groups:=W.groups.set i.toNat { gi W.groups i with shelves:=(gi W.groups i).shelves.set c.toNat x } } m:=by
 have hm:=h.each h0 hi;have hx:=hm.shl.stoX (Int.toNat c*5+j) vs;exact h.in h0 hi hx (fun x hx=>by simp[Qt]; exact .inr (.inr hx)) ⟨hm.loc.ext hx (hm.loc.ty_ne hm.shl (by decide)),hm.dry.ext hx (hm.dry.ty_ne hm.shl (by decide)),hm.shl.sto Tr.len c0 c1 he hj⟩ (zvg _ _ _ _ _)
end
structure Mv (n base:Nat) (bs:List Nat) (w0:Wo) (m0:MW) (w:Wo) (W:Q8) (m:MW):Prop where
 own:Yu n base w W m
 ext:Q0 (QL n m0) w0 w
 sub:∀x∈QL n m,x∈QL n m0\/w0.heap.size<=x
 hd:m={ m0 with ms:=m.ms }
 nb:∀x∈QL n m,x∉bs
 new:∀x∈bs,w0.heap.size<=x
section
variable {n base:Nat}{bs cs:List Nat}{w0 w w':Wo}{W W':Q8}{m0 m m':MW}{b:Nat}
theorem Mv.start(h:Yu n base w W m):Mv n base [] w m w W m:=⟨h,Q0.refl _ _,fun x hx=>.inl hx,rfl,by simp,by simp⟩
theorem Mv.add(h:Mv n base bs w0 m0 w W m)(hb:w.heap.size<=b):Mv n base (bs++[b]) w0 m0 w W m:=⟨h.own,h.ext,h.sub,h.hd,fun x hx hm=>by
 rcases List.mem_append.1 hm with hm | hm
 ·exact h.nb x hx hm
 ·have:x=b:=by simpa using hm
  have:=(h.own.lt x hx).2;omega,fun x hm=>by
 rcases List.mem_append.1 hm with hm | hm
 ·exact h.new x hm
 ·have:x=b:=by simpa using hm
  have:=h.ext.size;omega⟩
theorem Mv.sub'(h:Mv n base bs w0 m0 w W m)(hs:∀x∈cs,x∈bs):Mv n base cs w0 m0 w W m:=⟨h.own,h.ext,h.sub,h.hd,fun x hx hm=>h.nb x hx (hs x hm),fun x hm=>h.new x (hs x hm)⟩
theorem Mv.close(h:Mv n base bs w0 m0 w W m):Mv n base [] w0 m0 w W m:=h.sub' (by simp)
theorem Mv.step(h:Mv n base bs w0 m0 w W m)(hx:Q0 bs w w'):Mv n base bs w0 m0 w' W m:=⟨h.own.ext hx h.nb,h.ext.fresh hx fun x hm=>.inl (h.new x hm),h.sub,h.hd,h.nb,h.new⟩
theorem Mv.call0(h:Mv n base bs w0 m0 w W m)(hx:Q0 [] w w'):Mv n base bs w0 m0 w' W m:=⟨h.own.ext0 hx,h.ext.trans hx.of_nil,h.sub,h.hd,h.nb,h.new⟩
theorem Mv.call(h:Mv n base bs w0 m0 w W m)(k:Mv n base [] w m w' W' m')(hs:∀x∈bs,x<w.heap.size):Mv n base bs w0 m0 w' W' m':=
 ⟨k.own,h.ext.fresh k.ext fun x hm=>(h.sub x hm).symm,fun x hx=>by
  rcases k.sub x hx with h1 | h1
  ·exact h.sub x h1
  ·have:=h.ext.size;exact .inr (by omega),by rw[k.hd,h.hd],fun x hx hm=>by
  rcases k.sub x hx with h1 | h1
  ·exact h.nb x h1 hm
  ·have:=hs x hm;omega,h.new⟩
theorem Mv.deed(h:Mv n base bs w0 m0 w W m)(k:Yu n base w' W' m)(hx:Q0 (QL n m) w w'):Mv n base bs w0 m0 w' W' m:=
 ⟨k,h.ext.fresh hx fun x hm=>(h.sub x hm).symm,h.sub,h.hd,h.nb,h.new⟩
theorem Mv.kept(h:Mv n base bs w0 m0 w W m)(k:Mv n base [] w m w' W' m')(hs:∀x∈bs,x<w.heap.size):Q9 bs w w':=fun x hm=>k.ext.block x (hs x hm) fun hm'=>h.nb x hm' hm
theorem Mv.rd(h:Mv n base bs w0 m0 w W m):Xt bs w W m:=h.own.rd h.nb
theorem Mv.rd0(h:Mv n base bs w0 m0 w W m):Xt [] w W m:=h.own.rd (by simp)
theorem Mv.encW_eq(h:Mv n base bs w0 m0 w W m){W0:Q8}(e0:W.now=W0.now)(e1:W.cpus.length=W0.cpus.length)(e2:W.tasks.length=W0.tasks.length)(e3:W.groups.length=W0.groups.length):Qa W m=Qa W0 m0:=by
 rw[h.hd];simp only[Qa,e0,e1,e2,e3]
end
structure OW (n base:Nat) (bs:List Nat) (w:Wo) (W:Q8) (m:MW):Prop where
 own:Yu n base w W m
 nb:∀x∈QL n m,x∉bs
section
variable {n base:Nat}{bs cs:List Nat}{w w':Wo}{W:Q8}{m:MW}{b:Nat}
theorem OW.of(h:Yu n base w W m)(hs:∀x∈bs,x<base):OW n base bs w W m:=⟨h,fun x hx hm=>by
 have:=(h.lt x hx).1;have:=hs x hm;omega⟩
theorem OW.step(h:OW n base bs w W m)(hx:Q0 bs w w'):OW n base bs w' W m:=⟨h.own.ext hx h.nb,h.nb⟩
theorem OW.call0(h:OW n base bs w W m)(hx:Q0 [] w w'):OW n base bs w' W m:=⟨h.own.ext0 hx,h.nb⟩
theorem OW.add(h:OW n base bs w W m)(hb:w.heap.size<=b):OW n base (bs++[b]) w W m:=⟨h.own,fun x hx hm=>by
 rcases List.mem_append.1 hm with hm | hm
 ·exact h.nb x hx hm
 ·have:x=b:=by simpa using hm
  have:=(h.own.lt x hx).2;omega⟩
theorem OW.put(h:OW n base bs w W m)(hx:Q0 bs w w')(hb:w.heap.size<=b):OW n base (bs++[b]) w' W m:=⟨(h.step hx).own,(h.add hb).nb⟩
theorem OW.put2{b2:Nat}(h:OW n base bs w W m)(hx:Q0 bs w w')(hb:w.heap.size<=b)(hb2:w.heap.size<=b2):OW n base (bs++[b]++[b2]) w' W m:=⟨(h.step hx).own,((h.add hb).add hb2).nb⟩
theorem OW.sub(h:OW n base bs w W m)(hs:∀x∈cs,x∈bs):OW n base cs w W m:=⟨h.own,fun x hx hm=>h.nb x hx (hs x hm)⟩
theorem OW.mono{base':Nat}(h:OW n base bs w W m)(hb:base'<=base):OW n base' bs w W m:=⟨h.own.mono hb,h.nb⟩
theorem OW.rd(h:OW n base bs w W m):Xt bs w W m:=h.own.rd h.nb
theorem OW.rd0(h:OW n base bs w W m):Xt [] w W m:=h.own.rd (by simp)
end
def QI(p:Nat->Bool)(v:Nat->Int):Nat->Int
 | 0 => -1
 | k+1=>if (p k&&(decide (QI p v k<0)||decide (v k<v (QI p v k).toNat)))=true then (k:Int) else QI p v k
theorem Zb(p:Nat->Bool)(v:Nat->Int):∀k:Nat,(QI p v k = -1/\∀j,j<k->p j=false) \/
  (0<=QI p v k/\QI p v k<(k:Int)/\p (QI p v k).toNat=true/\(∀j,j<k->p j=true->v (QI p v k).toNat<=v j)/\∀j:Nat,(j:Int)<QI p v k->p j=true->v (QI p v k).toNat<v j)
 | 0=>.inl ⟨rfl,fun j hj=>absurd hj (Nat.not_lt_zero j)⟩
 | k+1=>by
  simp only[QI];split
  ·rename_i h;simp only[Bool.and_eq_true,Bool.or_eq_true,decide_eq_true_eq] at h;refine .inr ⟨by omega,by omega,by simpa using h.1,fun j hj hp=>?_,fun j hj hp=>?_⟩
   ·rw[Int.toNat_natCast]
    by_cases hjk:j=k
    ·subst hjk; exact Int.le_refl _
    ·rcases Zb p v k with ⟨_,h2⟩ | ⟨h1,_,_,h4,_⟩
     ·rw[h2 j (by omega)] at hp; cases hp
     ·have:=h4 j (by omega) hp;rcases h.2 with h5 | h5 <;> omega
   ·rw[Int.toNat_natCast];rcases Zb p v k with ⟨_,h2⟩ | ⟨h1,_,_,h4,_⟩
    ·rw[h2 j (by omega)] at hp; cases hp
    ·have:=h4 j (by omega) hp;rcases h.2 with h5 | h5 <;> omega
  ·rename_i h;rcases Zb p v k with ⟨h1,h2⟩ | ⟨h1,h2,h3,h4,h5⟩
   ·refine .inl ⟨h1,fun j hj=>?_⟩
    by_cases hjk:j=k
    ·subst hjk
     cases hp:p j with
     | false=>rfl
     | true=>
      exfalso; apply h
      rw[hp,h1]; rfl
    ·exact h2 j (by omega)
   ·refine .inr ⟨h1,by omega,h3,fun j hj hp=>?_,h5⟩
    by_cases hjk:j=k
    ·subst hjk;rcases Int.lt_or_le (v j) (v (QI p v j).toNat) with h6 | h6
     ·exfalso; apply h
      rw[hp,decide_eq_true h6]; simp
     ·exact h6
    ·exact h4 j (by omega) hp
theorem zlj{p:Nat->Bool}{v:Nat->Int}{n k:Nat}(hk:k<n)(hp:p k=true)(h0:0<=QI p v n)(hv:v k=v (QI p v n).toNat)(hb:∀j,j<k->p j=true->v j≠v (QI p v n).toNat):QI p v n=(k:Int):=by
 rcases Zb p v n with ⟨h1,_⟩ | ⟨_,h2,h3,h4,h5⟩
 ·omega
 ·by_cases hlt:(k:Int)<QI p v n
  ·have:=h5 k hlt hp; omega
  ·by_cases hgt:QI p v n<(k:Int)
   ·exact absurd rfl (hb _ (by omega) h3)
   ·omega
def Ze(W:Q8)(g c:Int)(i:Nat):Bool:=if i<12 then On W g c i else Jg W g c (i-12)
def Zf(W:Q8)(c:Int)(i:Nat):Int:=if i<12 then (Q7 W (i:Int)).v else (Qb W ((i-12:Nat):Int) c).v
def QF(W:Q8)(g c:Int):Int:=QI (Ze W g c) (Zf W c) 20
def znr:Nat->Q8->Int->Int->Int
 | 0,_,_,_ => -1
 | f+1,W,g,c=>if QF W g c<0 then -1 else if QF W g c<12 then QF W g c else znr f W (QF W g c-12) c
def MR(W:Q8)(g c:Int):Int:=znr (4-dep 3 W.groups g).toNat W g c
def Qn(W:Q8)(c:Int):Int:=if (gi W.cpus c).cur>=0/\(gi W.cpus c).ran<50 then (gi W.cpus c).cur else MR W 0 c
theorem T5{W:Q8}{g c:Int}{i:Nat}(h:i<12):Ze W g c i=On W g c i:=if_pos h
theorem JW{W:Q8}{g c:Int}{i:Nat}:Ze W g c (12+i)=Jg W g c i:=by
 unfold Ze;rw[if_neg (by omega),show 12+i-12=i by omega]
theorem FZ{W:Q8}{c:Int}{i:Nat}(h:i<12):Zf W c i=(Q7 W (i:Int)).v:=if_pos h
theorem FY{W:Q8}{c:Int}{i:Nat}:Zf W c (12+i)=(Qb W (i:Int) c).v:=by
 unfold Zf;rw[if_neg (by omega),show 12+i-12=i by omega]
theorem znn(W:Q8)(g c:Int):Ze W g c 12=false:=by
 rw[show (12:Nat)=12+0 from rfl,JW]; rfl
theorem Gd{W:Q8}{g c:Int}(ha:WA W)(hu:Q6 W.groups g=true)(h:12<=QF W g c):Q6 W.groups (QF W g c-12)=true/\QF W g c-12≠0/\dep 3 W.groups (QF W g c-12)=dep 3 W.groups g+1/\QF W g c<20:=by
 unfold QF at *;rcases Zb (Ze W g c) (Zf W c) 20 with ⟨h1,_⟩ | ⟨h1,h2,h3,_,_⟩
 ·omega
 ·have e:(QI (Ze W g c) (Zf W c) 20).toNat=12+((QI (Ze W g c) (Zf W c) 20).toNat-12):=by omega
  rw[e,JW] at h3;unfold Jg at h3;simp only[Bool.and_eq_true,decide_eq_true_eq,beq_iff_eq] at h3;obtain⟨⟨k1,k2,k3⟩,_⟩:=h3;have ek:(((QI (Ze W g c) (Zf W c) 20).toNat-12:Nat):Int)=QI (Ze W g c) (Zf W c) 20-12:=by omega
  rw[ek] at k2 k3;have hgl:=ha.gl;have hk:Q6 W.groups (QI (Ze W g c) (Zf W c) 20-12)=true:=Q5.2 ⟨by omega,by omega,k2⟩;have hz:QI (Ze W g c) (Zf W c) 20-12≠0:=by omega
  obtain⟨_,_,_,d,e1,e2,_⟩:=ZY ha.tree hk hz;rw[k3] at e2;exact⟨hk,hz,by omega,by omega⟩
theorem Lb{W:Q8}(ha:WA W){g:Int}(hu:Q6 W.groups g=true):0<=dep 3 W.groups g/\dep 3 W.groups g<=3:=by
 have hr:=Tq W.groups 3 g
 by_cases hz:g=0
 ·subst hz; rw[Yk]; omega
 ·obtain⟨_,_,_,d,e1,_⟩:=ZY ha.tree hu hz;omega
theorem B5{W:Q8}(ha:WA W){g c:Int}(hu:Q6 W.groups g=true):MR W g c=if QF W g c<0 then -1 else if QF W g c<12 then QF W g c else MR W (QF W g c-12) c:=by
 have hd:=Lb ha hu;have e:(4-dep 3 W.groups g).toNat=(3-dep 3 W.groups g).toNat+1:=by omega
 show znr (4-dep 3 W.groups g).toNat W g c=_;rw[e];simp only[znr];split
 ·rfl
 ·split
  ·rfl
  ·obtain⟨_,_,hk,_⟩:=Gd ha hu (c:=c) (by omega);unfold MR;rw[hk,show (4-(dep 3 W.groups g+1))=3-dep 3 W.groups g by omega]
section
variable {W:Q8}{m:MW}{w:Wo}{bs:List Nat}{p:OA}
def Z7(W:Q8)(g c:Int)(k:Nat):Int:=if QI (Ze W g c) (Zf W c) k<0 then 0 else Zf W c (QI (Ze W g c) (Zf W c) k).toNat
def ZK(W:Q8)(g c:Int)(k:Nat):Bool:=decide (0<=QI (Ze W g c) (Zf W c) k)
theorem zeh{W:Q8}{g c:Int}{k:Nat}:(decide (QI (Ze W g c) (Zf W c) k<0)||decide (Zf W c k<Zf W c (QI (Ze W g c) (Zf W c) k).toNat))=(!ZK W g c k||decide (Zf W c k<Z7 W g c k)):=by
 unfold ZK Z7
 by_cases h:QI (Ze W g c) (Zf W c) k<0
 ·have h2:decide (0<=QI (Ze W g c) (Zf W c) k)=false:=decide_eq_false (by omega);rw[if_pos h,decide_eq_true h,h2]; rfl
 ·have h2:decide (0<=QI (Ze W g c) (Zf W c) k)=true:=decide_eq_true (by omega);rw[if_neg h,decide_eq_false h,h2]; rfl
theorem zii{W:Q8}{g c:Int}{k:Nat}(h:(Ze W g c k&&(!ZK W g c k||decide (Zf W c k<Z7 W g c k)))=true):Z7 W g c (k+1)=Zf W c k/\ZK W g c (k+1)=true:=by
 rw[<-zeh] at h
 have e:QI (Ze W g c) (Zf W c) (k+1)=(k:Int):=by
  simp only[QI]; rw[if_pos h]
 unfold Z7 ZK;rw[e,if_neg (by omega),Int.toNat_natCast];exact⟨rfl,decide_eq_true (by omega)⟩
theorem zgf{W:Q8}{g c:Int}{k:Nat}(h:(Ze W g c k&&(!ZK W g c k||decide (Zf W c k<Z7 W g c k)))=false):Z7 W g c (k+1)=Z7 W g c k/\ZK W g c (k+1)=ZK W g c k:=by
 rw[<-zeh] at h
 have e:QI (Ze W g c) (Zf W c) (k+1)=QI (Ze W g c) (Zf W c) k:=by
  simp only[QI]; rw[if_neg (by rw[h]; decide)]
 unfold Z7 ZK;rw[e];exact⟨rfl,rfl⟩
theorem Lx{g c:Int}(h:Xt bs w W m)(ha:WA W)(c0:0<=c)(c1:c<(W.cpus.length:Int)):PX bs UR #[.agg (Qa W m).toArray,.int .i64 g,.int .i64 c] w (.tuple #[.int .i64 (Z7 W g c 20),.bool (ZK W g c 20)]):=
 za3 W.now m.cO W.cpus.length m.cC m.tO W.tasks.length m.tC m.gO W.groups.length m.gC g c fun wr hx=>by
  have h:=(h.ext hx).less (cs:=[]) (by simp);have hgl:=ha.gl;have htl:=ha.t;intro _ _;refine⟨fun vs=>∃k:Nat,k<=12/\vs=[.int .i64 (Z7 W g c k),.bool (ZK W g c k),.int .i64 (k:Int)],Jh 12 2,⟨0,by omega,rfl⟩,?_⟩;rintro best some t ⟨k,hk,he⟩;simp only[List.cons.injEq,Value.int.injEq,Value.bool.injEq,true_and,and_true] at he;obtain⟨rfl,rfl,rfl⟩:=he;refine⟨fun hlt=>?_,fun hge=>?_⟩
  ·have hlt:=Ot hlt;have hk12:k<12:=by omega
   refine⟨h.t.ix Qy (by omega) hlt,_,_,_,_,_,_,_,_,_,h.t k (by omega) hlt,fun _ _=>⟨fun q=>⟨⟨by omega,by omega⟩,⟨k+1,by omega,?_⟩,QS (k:=k) rfl rfl hk12⟩,fun q=>⟨⟨by omega,by omega⟩,⟨k+1,by omega,?_⟩,QS (k:=k) rfl rfl hk12⟩⟩⟩
   ·have q':(Ze W g c k&&(!ZK W g c k||decide (Zf W c k<Z7 W g c k)))=true:=by rw[T5 hk12,FZ hk12]; exact q
    obtain⟨e1,e2⟩:=zii q';rw[e1,e2,FZ hk12]; simp[Q7]
   ·have q':(Ze W g c k&&(!ZK W g c k||decide (Zf W c k<Z7 W g c k)))=false:=by rw[T5 hk12,FZ hk12]; exact q
    obtain⟨e1,e2⟩:=zgf q';rw[e1,e2]; simp
  ·have hge:=Ou hge;have:k=12:=by omega
   subst this;have e12:Z7 W g c 13=Z7 W g c 12/\ZK W g c 13=ZK W g c 12:=zgf (by rw[znn]; rfl);refine⟨fun vs=>∃k:Nat,1<=k/\k<=8/\vs=[.int .i64 (Z7 W g c (12+k)),.bool (ZK W g c (12+k)),.int .i64 (k:Int)],Jh 8 2,⟨1,by omega,by omega,by rw[show 12+1=13 from rfl,e12.1,e12.2]; rfl⟩,?_⟩;rintro best1 some1 t1 ⟨k,hk1,hk,he⟩;simp only[List.cons.injEq,Value.int.injEq,Value.bool.injEq,true_and,and_true] at he;obtain⟨rfl,rfl,rfl⟩:=he;refine⟨fun hlt=>?_,fun hge=>?_⟩
   ·have hlt:=Ot hlt;have hk0:(0:Int)<=(k:Int):=by omega
    have used:∀{x:Bool},(((gi W.groups (k:Int)).used&&((gi W.groups (k:Int)).parent==g))&&x)=true->Q6 W.groups (k:Int)=true/\c<((gi W.groups (k:Int)).shelves.length:Int):=fun {x} q=>by
     simp only[Bool.and_eq_true] at q;have hu:=zia hlt q.1.1;exact⟨hu,by rw[ha.sl hu]; exact c1⟩
    have eA:Jg W g c k=(((gi W.groups (k:Int)).used&&((gi W.groups (k:Int)).parent==g))&&(Qb W (k:Int) c).on):=by
     unfold Jg; rw[decide_eq_true hk1,Bool.true_and]
    have eP:Ze W g c (12+k)=(((gi W.groups (k:Int)).used&&((gi W.groups (k:Int)).parent==g))&&(Qb W (k:Int) c).on):=by rw[JW,eA]
    refine⟨h.g.ix hk0 hlt,_,h.g.used hk0 hlt,fun _=>h.g.ix hk0 hlt,_,fun _=>h.g.parent hk0 hlt,(Qb W (k:Int) c).on,fun q=>UX h ha (used (x:=true) (by rw[q]; rfl)).1 c0 c1,fun _ _=>h.g.ix hk0 hlt,_,_,_,fun _ _=>h.g.shelf hk0 hlt,fun _ q=>(h.g.shelves _ hk0 hlt).ix ZQ c0 (used q).2,(Qb W (k:Int) c).v,fun _ q=>zkn.f (h.g.shelves _ hk0 hlt) c0 (used q).2 (j:=2) rfl,fun q=>?_,fun q=>⟨⟨by omega,by omega⟩,⟨k+1,by omega,by omega,?_⟩,QS (k:=k) rfl rfl (by omega)⟩⟩
    ·have q2:=q;simp only[Bool.and_eq_true] at q2;have hu:=used (x:=(Qb W (k:Int) c).on) (by simp only[Bool.and_eq_true]; exact q2.1);have q':(Ze W g c (12+k)&&(!ZK W g c (12+k)||decide (Zf W c (12+k)<Z7 W g c (12+k))))=true:=by rw[eP,FY]; exact q
     obtain⟨e1,e2⟩:=zii q';refine⟨h.g.ix hk0 hlt,_,_,_,h.g.shelf hk0 hlt,(h.g.shelves _ hk0 hlt).ix ZQ c0 hu.2,_,zkn.f (h.g.shelves _ hk0 hlt) c0 hu.2 (j:=2) rfl,⟨by omega,by omega⟩,⟨k+1,by omega,by omega,?_⟩,QS (k:=k) rfl rfl (by omega)⟩;rw[show 12+(k+1)=12+k+1 from rfl,e1,e2,FY]; simp[Qb]
    ·have q':(Ze W g c (12+k)&&(!ZK W g c (12+k)||decide (Zf W c (12+k)<Z7 W g c (12+k))))=false:=by rw[eP,FY]; exact q
     obtain⟨e1,e2⟩:=zgf q';rw[show 12+(k+1)=12+k+1 from rfl,e1,e2]; simp
   ·have hge:=Ou hge;have:k=8:=by omega
    subst this;rfl
theorem zdk{g c:Int}(h:Xt bs w W m)(ha:WA W)(hu:Q6 W.groups g=true)(c0:0<=c)(c1:c<(W.cpus.length:Int)):PX bs JS #[.agg (Qa W m).toArray,.int .i64 g,.int .i64 c] w (.int .i64 (MR W g c)):=by
 have hgl:=ha.gl;have htl:=ha.t
 have key:∀(n:Nat) (g:Int),Q6 W.groups g=true->(3-dep 3 W.groups g).toNat=n->∀{bs:List Nat} {w:Wo},Xt bs w W m->PX bs JS #[.agg (Qa W m).toArray,.int .i64 g,.int .i64 c] w (.int .i64 (MR W g c)):=by
  intro n
  induction n using Nat.strongRecOn with
  | ind n ih=>
   intro g hu hn bs w h;refine zd8 W.now m.cO W.cpus.length m.cC m.tO W.tasks.length m.tC m.gO W.groups.length m.gC g c fun wr hx=>?_
   have h:=(h.ext hx).less (cs:=[]) (by simp);have hstep:=B5 ha hu (c:=c);have hd:=Lb ha hu;intro _ _;refine⟨_,_,Lx h ha c0 c1,fun q=>?_,fun q=>?_⟩
   ·have q:¬0<=QI (Ze W g c) (Zf W c) 20:=by
     unfold ZK at q
     simpa using q
    have q:¬0<=QF W g c:=q;rw[hstep,if_pos (by omega)]
   have hF0:0<=QI (Ze W g c) (Zf W c) 20:=by
    unfold ZK at q
    simpa using q
   have hF:0<=QF W g c:=hF0
   have hbest:Z7 W g c 20=Zf W c (QF W g c).toNat:=by
    show (if QF W g c<0 then 0 else Zf W c (QF W g c).toNat)=_;rw[if_neg (show ¬QF W g c<0 by omega)]
   have found:∀k:Nat,k<20->Ze W g c k=true->Zf W c k=Z7 W g c 20->(∀j,j<k->Ze W g c j=true->Zf W c j≠Z7 W g c 20)->QF W g c=(k:Int):=fun k hk hp hv hb=>by
    rw[hbest] at hv hb;exact zlj hk hp hF hv hb
   refine⟨fun vs=>∃k:Nat,vs=[.int .i64 (k:Int)]/\k<=12/\∀j,j<k->Ze W g c j=true->Zf W c j≠Z7 W g c 20,Jh 12 0,⟨0,rfl,by omega,fun j hj=>absurd hj (Nat.not_lt_zero j)⟩,?_⟩;rintro t ⟨k,he,hk,hI⟩;simp only[List.cons.injEq,Value.int.injEq,true_and,and_true] at he;subst he;refine⟨fun hlt=>?_,fun hge=>?_⟩
   ·have hlt:=Ot hlt;have hk12:k<12:=by omega
    refine⟨h.t.ix Qy (by omega) hlt,_,_,_,_,_,_,_,_,_,h.t k (by omega) hlt,fun b1 hb1=>⟨fun q2=>?_,fun q2=>⟨⟨by omega,by omega⟩,⟨k+1,by simp,by omega,fun j hj hp hv=>?_⟩,QS (k:=k) rfl rfl hk12⟩⟩⟩
    ·have q2':(On W g c k&&((Q7 W (k:Int)).v==Z7 W g c 20))=true:=q2;simp only[Bool.and_eq_true,beq_iff_eq] at q2';have:=found k (by omega) (by rw[T5 hk12]; exact q2'.1) (by rw[FZ hk12]; exact q2'.2) hI;rw[hstep,if_neg (by omega),if_pos (by omega),this]
    ·by_cases hjk:j<k
     ·exact hI j hjk hp hv
     ·have:j=k:=by omega
      subst this;rw[T5 hk12] at hp;rw[FZ hk12] at hv;have q2':(On W g c j&&((Q7 W (j:Int)).v==Z7 W g c 20))=false:=q2;rw[hp,hv] at q2';simp at q2'
   ·have hge:=Ou hge;have:k=12:=by omega
    subst this
    refine⟨fun vs=>∃k:Nat,vs=[.int .i64 (k:Int)]/\1<=k/\k<=8/\∀j,j<12+k->Ze W g c j=true->Zf W c j≠Z7 W g c 20,Jh 8 0,⟨1,rfl,by omega,by omega,fun j hj hp=>by
     by_cases hj12:j<12
     ·exact hI j hj12 hp
     ·have:j=12:=by omega
      subst this;rw[znn] at hp; cases hp⟩,?_⟩
    rintro t2 ⟨k,he,hk1,hk,hI2⟩;simp only[List.cons.injEq,Value.int.injEq,true_and,and_true] at he;subst he;refine⟨fun hlt=>?_,fun hge2=>?_⟩
    ·have hlt:=Ot hlt;have hk0:(0:Int)<=(k:Int):=by omega
     have used:∀{x:Bool},(((gi W.groups (k:Int)).used&&((gi W.groups (k:Int)).parent==g))&&x)=true->Q6 W.groups (k:Int)=true/\c<((gi W.groups (k:Int)).shelves.length:Int):=fun {x} q=>by
      simp only[Bool.and_eq_true] at q;have hu:=zia hlt q.1.1;exact⟨hu,by rw[ha.sl hu]; exact c1⟩
     have eA:Jg W g c k=(((gi W.groups (k:Int)).used&&((gi W.groups (k:Int)).parent==g))&&(Qb W (k:Int) c).on):=by
      unfold Jg; rw[decide_eq_true hk1,Bool.true_and]
     have eP:Ze W g c (12+k)=(((gi W.groups (k:Int)).used&&((gi W.groups (k:Int)).parent==g))&&(Qb W (k:Int) c).on):=by rw[JW,eA]
     refine⟨h.g.ix hk0 hlt,_,h.g.used hk0 hlt,fun _=>h.g.ix hk0 hlt,_,fun _=>h.g.parent hk0 hlt,(Qb W (k:Int) c).on,fun q=>UX h ha (used (x:=true) (by rw[q]; rfl)).1 c0 c1,fun _=>h.g.ix hk0 hlt,_,_,_,fun _=>h.g.shelf hk0 hlt,fun q=>(h.g.shelves _ hk0 hlt).ix ZQ c0 (used q).2,(Qb W (k:Int) c).v,fun q=>zkn.f (h.g.shelves _ hk0 hlt) c0 (used q).2 (j:=2) rfl,fun q=>?_,fun q=>⟨⟨by omega,by omega⟩,⟨k+1,by simp,by omega,by omega,fun j hj hp hv=>?_⟩,QS (k:=k) rfl rfl (by omega)⟩⟩
     ·have q2:=q;simp only[Bool.and_eq_true,beq_iff_eq] at q2;have hfk:=found (12+k) (by omega) (by rw[eP]; simp only[Bool.and_eq_true,beq_iff_eq]; exact q2.1) (by rw[FY]; exact q2.2) hI2;have hkid:=Gd ha hu (c:=c) (by omega);have ek:QF W g c-12=(k:Int):=by omega
      rw[ek] at hkid;have hdk:=Lb ha hkid.1;refine⟨_,ih _ (show (3-dep 3 W.groups (k:Int)).toNat<n by omega) (k:Int) hkid.1 rfl h,?_⟩;rw[hstep,if_neg (by omega),if_neg (by omega),ek]
     ·by_cases hjk:j<12+k
      ·exact hI2 j hjk hp hv
      ·have:j=12+k:=by omega
       subst this;rw[eP] at hp;rw[FY] at hv;rw[hp,hv] at q;simp at q
    ·have hge2:=Ou hge2;have:k=8:=by omega
     subst this;rcases Zb (Ze W g c) (Zf W c) 20 with ⟨h1,_⟩ | ⟨h1,h2,h3,_,_⟩
     ·have:QF W g c = -1:=h1;omega
     ·exact absurd hbest.symm (hI2 (QF W g c).toNat (by unfold QF; omega) h3)
 exact key _ g hu rfl h
theorem zdl{c:Int}(h:Xt bs w W m)(ha:WA W)(c0:0<=c)(c1:c<(W.cpus.length:Int)):PX bs Pp #[.agg (Qa W m).toArray,.int .i64 c] w (.int .i64 (Qn W c)):=by
 refine zd9 W.now m.cO W.cpus.length m.cC m.tO W.tasks.length m.tC m.gO W.groups.length m.gC c fun wr hx=>?_
 have h:=(h.ext hx).less (cs:=[]) (by simp);intro _ _;refine⟨h.c.ix ZH c0 c1,_,h.c.f c0 c1 (j:=1) rfl,fun _=>h.c.ix ZH c0 c1,_,fun _=>h.c.f c0 c1 (j:=2) rfl,fun g=>⟨h.c.ix ZH c0 c1,_,h.c.f c0 c1 (j:=1) rfl,?_⟩,fun g=>⟨_,zdk h ha ha.root c0 c1,?_⟩⟩
 ·simp only[Bool.and_eq_true,decide_eq_true_eq] at g;unfold Qn; rw[if_pos g]
 ·unfold Qn; rw[if_neg (fun hc=>by
   rw[decide_eq_true hc.1,decide_eq_true hc.2] at g; cases g)]
theorem zjg{c:Int}(h:Xt bs w W m)(hl:W.cpus.length<=maxLen):PX bs Kb #[.agg (Qa W m).toArray,.int .i64 c] w (.bool (Yi W c&&(gi W.cpus c).up)):=
 zjs W.now m.cO W.cpus.length m.cC m.tO W.tasks.length m.tC m.gO W.groups.length m.gC c fun wr hx=>by
  have h:=(h.ext hx).less (cs:=[]) (by simp);have hm:=Xb;intro _ _;exact⟨⟨by omega,by omega⟩,Yi W c,Qi,fun q=>h.c.ix ZH (J7 q).1 (J7 q).2,_,fun q=>h.c.f (J7 q).1 (J7 q).2 (j:=0) rfl,rfl⟩
end
def setTk(W:Q8)(t:Int)(x:Mw):Q8:={ W with tasks:=W.tasks.set t.toNat x }
def setCp(W:Q8)(c:Int)(x:M0):Q8:={ W with cpus:=W.cpus.set c.toNat x }
def setGr(W:Q8)(g:Int)(x:ZF):Q8:={ W with groups:=W.groups.set g.toNat x }
def setSh(W:Q8)(g c:Int)(s:KE):Q8:=setGr W g { gi W.groups g with shelves:=(gi W.groups g).shelves.set c.toNat s }
def setBd(W:Q8)(g:Int)(b:JH):Q8:=setGr W g { gi W.groups g with band:=b }
theorem CU{α:Type}[Inhabited α](l:List α)(i:Int):gi l i=gi l ((i.toNat:Nat):Int):=by unfold gi; rw[Int.toNat_natCast]
structure QR (gs gs':List ZF):Prop where
 len:gs'.length=gs.length
 u:∀i:Int,(gi gs' i).used=(gi gs i).used
 p:∀i:Int,(gi gs' i).parent=(gi gs i).parent
 n:∀i:Int,(gi gs' i).name=(gi gs i).name
theorem QR.refl(gs:List ZF):QR gs gs:=⟨rfl,fun _=>rfl,fun _=>rfl,fun _=>rfl⟩
theorem QR.trans{a b c:List ZF}(h:QR a b)(k:QR b c):QR a c:=⟨k.len.trans h.len,fun i=>(k.u i).trans (h.u i),fun i=>(k.p i).trans (h.p i),fun i=>(k.n i).trans (h.n i)⟩
theorem QR.usd{gs gs':List ZF}(h:QR gs gs')(i:Int):Q6 gs' i=Q6 gs i:=by unfold Q6; rw[h.len,h.u]
theorem QR.dep{gs gs':List ZF}(h:QR gs gs'):∀(f:Nat) (i:Int),YtclpmgfpjeaibaaGreat.dep f gs' i=YtclpmgfpjeaibaaGreat.dep f gs i
 | 0,i=>rfl
 | f+1,i=>by simp only[YtclpmgfpjeaibaaGreat.dep]; rw[h.p,h.dep f]
theorem QR.path{gs gs':List ZF}(h:QR gs gs'):∀(f:Nat) (i:Int),Um f gs' i=Um f gs i
 | 0,i=>rfl
 | f+1,i=>by simp only[Um]; rw[h.p,h.path f]
theorem QR.tree{gs gs':List ZF}(h:QR gs gs')(t:ZX gs):ZX gs':=
 ⟨by rw[h.len]; exact t.len,by rw[h.u]; exact t.ru,by rw[h.p]; exact t.rp,by rw[h.n]; exact t.rn,fun g a b c=>by rw[h.u] at c; rw[h.n]; exact t.nm g a b c,fun g a b c=>by rw[h.u] at c; rw[h.usd,h.p]; exact t.par g a b c,
  fun g a b c=>by rw[h.u] at c; rw[h.dep]; exact t.dp g a b c,fun g k a b c d e=>by rw[h.u] at d e; rw[h.p,h.p,h.n,h.n]; exact t.uniq g k a b c d e⟩
theorem Yt{W:Q8}{g:Int}{x:ZF}(h0:0<=g)(h1:g<(W.groups.length:Int)){i:Int}(hi:0<=i):gi (setGr W g x).groups i=if g=i then x else gi W.groups i:=QA _ _ h0 h1 hi
theorem Jw{W:Q8}{g:Int}{x:ZF}(h0:0<=g)(h1:g<(W.groups.length:Int))(u:x.used=(gi W.groups g).used)(p:x.parent=(gi W.groups g).parent)(n:x.name=(gi W.groups g).name):QR W.groups (setGr W g x).groups:=by
 have key:∀i:Int,gi (setGr W g x).groups i=if g=((i.toNat:Nat):Int) then x else gi W.groups i:=fun i=>by
  rw[CU,Yt h0 h1 (by omega),<-CU W.groups i]
 refine⟨List.length_set,fun i=>?_,fun i=>?_,fun i=>?_⟩
 all_goals
  rw[key];split
  ·rename_i e;rw[CU W.groups i,<-e]; assumption
  ·rfl
theorem WA.set{W:Q8}(ha:WA W){g:Int}{x:ZF}(h0:0<=g)(h1:g<8)(u:x.used=(gi W.groups g).used)(p:x.parent=(gi W.groups g).parent)(n:x.name=(gi W.groups g).name)(hN:x.used=false->zqh x)(hU:x.used=true->zkp W g x):WA (setGr W g x):=by
 have hl:=ha.gl;refine⟨ha.n1,ha.n2,ha.c1,ha.c2,ha.t,(Jw h0 (by omega) u p n).tree ha.tree,ha.ups,fun k k0 k1=>?_⟩;show Md (setGr W g x) k;unfold Md;rw[Yt h0 (by omega) k0]
 by_cases e:g=k
 ·subst e;rw[if_pos rfl];exact⟨hN,fun hu=>by have:=hU hu; exact⟨this.w1,this.w2,this.m,this.m0,this.s,this.len,this.root,this.none,this.band⟩⟩
 ·rw[if_neg e];have:=ha.grp k k0 k1;exact⟨this.1,fun hu=>by have:=this.2 hu; exact⟨this.w1,this.w2,this.m,this.m0,this.s,this.len,this.root,this.none,this.band⟩⟩
theorem WA.setSh{W:Q8}(ha:WA W){g c:Int}{s:KE}(h0:0<=g)(h1:g<8):WA (setSh W g c s):=by
 have hg:=ha.grp g h0 h1;refine ha.set h0 h1 rfl rfl rfl (fun hu=>?_) fun hu=>?_
 ·have:=hg.1 hu;exact⟨this.p,this.n,this.w,this.c,this.pe,this.ne,this.s,by rw[List.length_set]; exact this.l,this.b⟩
 ·have:=hg.2 hu;exact⟨this.w1,this.w2,this.m,this.m0,this.s,by rw[List.length_set]; exact this.len,this.root,this.none,this.band⟩
theorem Jv{W:Q8}{g c:Int}{s:KE}(h0:0<=g)(h1:g<(W.groups.length:Int))(c0:0<=c)(c1:c<((gi W.groups g).shelves.length:Int)){i d:Int}(hi:0<=i)(hd:0<=d):Qb (setSh W g c s) i d=if g=i/\c=d then s else Qb W i d:=by
 unfold Qb YtclpmgfpjeaibaaGreat.setSh;rw[Yt h0 h1 hi]
 by_cases e:g=i
 ·subst e;rw[if_pos rfl,QA _ _ c0 c1 hd]
  by_cases e2:c=d
  ·rw[if_pos e2,if_pos ⟨rfl,e2⟩]
  ·rw[if_neg e2,if_neg (fun h=>e2 h.2)]
 ·rw[if_neg e,if_neg (fun h=>e h.1)]
theorem XI{W:Q8}{g c:Int}{s:KE}(h0:0<=g)(h1:g<(W.groups.length:Int)):QR W.groups (setSh W g c s).groups:=Jw h0 h1 rfl rfl rfl
theorem Gb{W:Q8}{g c:Int}{s:KE}(h0:0<=g)(h1:g<(W.groups.length:Int)){i d:Int}(hi:0<=i):UB (setSh W g c s) i d=UB W i d:=by
 unfold UB YtclpmgfpjeaibaaGreat.setSh;rw[Yt h0 h1 hi];split
 ·rename_i e; subst e; rfl
 ·rfl
theorem zei{W:Q8}{g c:Int}{s:KE}(h0:0<=g)(h1:g<(W.groups.length:Int)){i:Int}(hi:0<=i):(gi (setSh W g c s).groups i).band=(gi W.groups i).band:=by
 unfold YtclpmgfpjeaibaaGreat.setSh;rw[Yt h0 h1 hi];split
 ·rename_i e; subst e; rfl
 ·rfl
theorem zfl{W:Q8}{g c:Int}{s:KE}(h0:0<=g)(h1:g<(W.groups.length:Int)){i:Int}(hi:0<=i):(gi (setSh W g c s).groups i).shelves.length=(gi W.groups i).shelves.length:=by
 unfold YtclpmgfpjeaibaaGreat.setSh;rw[Yt h0 h1 hi];split
 ·rename_i e; subst e; simp
 ·rfl
structure SW (K:Int) (W:Q8):Prop where
 a:WA W
 t:∀t:Int,0<=t->t<12->(Q7 W t).state≠0->Q6 W.groups (Q7 W t).group=true/\0<=(Q7 W t).cpu/\(Q7 W t).cpu<(W.cpus.length:Int)
 tv:∀t:Int,0<=t->t<12->0<=(Q7 W t).v/\(Q7 W t).v<=K
 s:∀k c:Int,Q6 W.groups k=true->0<=c->c<(W.cpus.length:Int)->0<=(Qb W k c).floor/\(Qb W k c).floor<=K/\0<=(Qb W k c).v/\(Qb W k c).v<=K/\1<=(Qb W k c).w/\(Qb W k c).w<=20
 cu:∀c:Int,0<=c->c<(W.cpus.length:Int)->-1<=(gi W.cpus c).cur/\(gi W.cpus c).cur<12
structure SF (F K:Int) (W:Q8):Prop where
 w:SW K W
 f:∀k c:Int,Q6 W.groups k=true->0<=c->c<(W.cpus.length:Int)->(Qb W k c).floor<=F
theorem SW.mono{K K':Int}{W:Q8}(h:SW K W)(hk:K<=K'):SW K' W:=
 ⟨h.a,h.t,fun t a b=>by have:=h.tv t a b; omega,fun k c u a b=>by have:=h.s k c u a b; omega,h.cu⟩
theorem SW.sf{K:Int}{W:Q8}(h:SW K W):SF K K W:=⟨h,fun k c u a b=>(h.s k c u a b).2.1⟩
theorem SF.mono{F K F' K':Int}{W:Q8}(h:SF F K W)(hf:F<=F')(hk:K<=K'):SF F' K' W:=⟨h.w.mono hk,fun k c u a b=>by have:=h.f k c u a b; omega⟩
theorem SW.li{K:Int}{W:Q8}(h:SW K W){t:Int}(t0:0<=t)(t1:t<(W.tasks.length:Int))(hs:(Q7 W t).state=1):Q6 W.groups (Q7 W t).group=true/\0<=(Q7 W t).cpu/\(Q7 W t).cpu<(W.cpus.length:Int):=by
 have hl:=h.a.t;exact h.t t t0 (by omega) (by omega)
theorem SF.setSh{F K:Int}{W:Q8}(h:SF F K W){g c:Int}{s:KE}(hu:Q6 W.groups g=true)(c0:0<=c)(c1:c<(W.cpus.length:Int))(f0:0<=s.floor)(f1:s.floor<=F)(fk:s.floor<=K)(v0:0<=s.v)(v1:s.v<=K)(w1:1<=s.w)(w2:s.w<=20):SF F K (setSh W g c s):=by
 obtain⟨u0,u1,_⟩:=Q5.1 hu;have hl:=h.w.a.gl;have hs:=h.w.a.sl hu;have hT:=XI (W:=W) (g:=g) (c:=c) (s:=s) u0 u1
 have e:∀k d:Int,Q6 (YtclpmgfpjeaibaaGreat.setSh W g c s).groups k=true->0<=d->Qb (YtclpmgfpjeaibaaGreat.setSh W g c s) k d=if g=k/\c=d then s else Qb W k d:=fun k d uk hd=>by
  rw[hT.usd] at uk;exact Jv u0 u1 c0 (by omega) (Q5.1 uk).1 hd
 refine⟨⟨h.w.a.setSh u0 (by omega),fun t a b n=>by rw[hT.usd]; exact h.w.t t a b n,h.w.tv,fun k d uk a b=>?_,h.w.cu⟩,fun k d uk a b=>?_⟩
 ·rw[e k d uk a];rw[hT.usd] at uk;split
  ·exact⟨f0,fk,v0,v1,w1,w2⟩
  ·exact h.w.s k d uk a b
 ·rw[e k d uk a];rw[hT.usd] at uk;split
  ·exact f1
  ·exact h.f k d uk a b
def Yx(W:Q8)(k c:Int):KE:=
 { Qb W k c with
  v:=if (QO W k c && !UB W k c)=true/\(Qb W k c).on=false then (Qb W (gi W.groups k).parent c).floor+Xh ((Qb W k c).v-(Qb W (gi W.groups k).parent c).floor) (Qb W k c).w else (Qb W k c).v
  on:=QO W k c && !UB W k c }
def ZU(W:Q8)(c d:Int):Nat->Q8
 | 0=>W
 | k+1=>if (gi (ZU W c d k).groups (k:Int)).used=true/\dep 3 (ZU W c d k).groups (k:Int)=d then setSh (ZU W c d k) (k:Int) c (Yx (ZU W c d k) (k:Int) c) else ZU W c d k
theorem zpd{W:Q8}{c d:Int}(h:d≠0):ZU W c d 1=W:=by
 show (if (gi W.groups ((0:Nat):Int)).used=true/\dep 3 W.groups ((0:Nat):Int)=d then _ else W)=W;refine if_neg fun hc=>h ?_
 have:=hc.2;rw[show (((0:Nat):Int))=0 from rfl,Yk] at this;exact this.symm
def XX(W:Q8)(c:Int):Nat->Q8
 | 0=>W
 | j+1=>ZU (XX W c j) c (3-(j:Int)) 8
def QJ(W:Q8)(c:Int):Q8:=XX W c 3
abbrev Ql:Int:=34686091440
theorem zrt{F K:Int}{W:Q8}(h:SF F K W)(hk:F+Ql<=K){k c d:Int}(hu:Q6 W.groups k=true)(hd:dep 3 W.groups k=d)(d1:1<=d)(c0:0<=c)(c1:c<(W.cpus.length:Int)):SF F K (setSh W k c (Yx W k c)):=by
 have hz:k≠0:=fun e=>by subst e; rw[Yk] at hd; omega
 have hp:=h.w.a.up hu hz;have s1:=h.w.s k c hu c0 c1;have s2:=h.w.s _ c hp c0 c1;have f1:=h.f k c hu c0 c1;have f2:=h.f _ c hp c0 c1;have lc:=ZW ((Qb W k c).v-(Qb W (gi W.groups k).parent c).floor) (Qb W k c).w;have lm:=ZT (Qb W k c).w;refine h.setSh hu c0 c1 s1.1 f1 (by show (Qb W k c).floor<=K; omega) ?_ ?_ s1.2.2.2.2.1 s1.2.2.2.2.2
 ·simp only[Yx]; split <;> omega
 ·simp only[Yx]; simp only[Ql] at hk; split <;> omega
structure JL (W W':Q8):Prop where
 n:W'.now=W.now
 c:W'.cpus=W.cpus
 t:W'.tasks=W.tasks
 g:QR W.groups W'.groups
 b:∀i:Int,0<=i->(gi W'.groups i).band=(gi W.groups i).band
 l:∀i:Int,0<=i->(gi W'.groups i).shelves.length=(gi W.groups i).shelves.length
theorem JL.refl(W:Q8):JL W W:=⟨rfl,rfl,rfl,QR.refl _,fun _ _=>rfl,fun _ _=>rfl⟩
theorem JL.trans{A B C:Q8}(h:JL A B)(k:JL B C):JL A C:=⟨k.n.trans h.n,k.c.trans h.c,k.t.trans h.t,h.g.trans k.g,fun i hi=>(k.b i hi).trans (h.b i hi),fun i hi=>(k.l i hi).trans (h.l i hi)⟩
theorem MT{W:Q8}{g c:Int}{s:KE}(h0:0<=g)(h1:g<(W.groups.length:Int)):JL W (setSh W g c s):=⟨rfl,rfl,rfl,XI h0 h1,fun _ hi=>zei h0 h1 hi,fun _ hi=>zfl h0 h1 hi⟩
theorem zad{F K:Int}{W:Q8}(h:SF F K W)(hk:F+Ql<=K){c d:Int}(d1:1<=d)(c0:0<=c)(c1:c<(W.cpus.length:Int)):∀k:Nat,k<=8->SF F K (ZU W c d k)/\JL W (ZU W c d k)
 | 0,_=>⟨h,JL.refl _⟩
 | k+1,hk8=>by
  obtain⟨ih,io⟩:=zad h hk (d:=d) d1 c0 c1 k (by omega);have hl:=ih.w.a.gl;simp only[ZU];split
  ·rename_i hc;have hu:Q6 (ZU W c d k).groups (k:Int)=true:=Q5.2 ⟨by omega,by omega,hc.1⟩;exact⟨zrt ih hk hu hc.2 d1 c0 (by rw[io.c]; exact c1),io.trans (MT (by omega) (by omega))⟩
  ·exact⟨ih,io⟩
theorem FU{F K:Int}{W:Q8}(h:SF F K W)(hk:F+Ql<=K){c:Int}(c0:0<=c)(c1:c<(W.cpus.length:Int)):∀j:Nat,j<=3->SF F K (XX W c j)/\JL W (XX W c j)
 | 0,_=>⟨h,JL.refl _⟩
 | j+1,hj=>by
  obtain⟨a1,b1⟩:=FU h hk c0 c1 j (by omega);obtain⟨a2,b2⟩:=zad a1 hk (c:=c) (d:=3-(j:Int)) (by omega) c0 (by rw[b1.c]; exact c1) 8 (by omega);exact⟨a2,b1.trans b2⟩
theorem FT{F K:Int}{W:Q8}(h:SF F K W)(hk:F+Ql<=K){c:Int}(c0:0<=c)(c1:c<(W.cpus.length:Int)):SF F K (QJ W c)/\JL W (QJ W c):=FU h hk c0 c1 3 (Nat.le_refl _)
def YP(W:Q8):Nat->Q8
 | 0=>W
 | c+1=>QJ (YP W c) (c:Int)
theorem P4{F K:Int}{W:Q8}(h:SF F K W)(hk:F+Ql<=K):∀c:Nat,c<=W.cpus.length->SF F K (YP W c)/\JL W (YP W c)
 | 0,_=>⟨h,JL.refl _⟩
 | c+1,hc=>by
  obtain⟨a,b⟩:=P4 h hk c (by omega);obtain⟨a2,b2⟩:=FT a hk (c:=(c:Int)) (by omega) (by rw[b.c]; omega);exact⟨a2,b.trans b2⟩
def Yw(b:JH)(c:Int):JH:={ b with pool:=b.pool+gi b.locals c,locals:=b.locals.set c.toNat 0,dry:=if b.pool+gi b.locals c>0 then List.replicate b.dry.length false else b.dry }
theorem LU(l:List Int)(c:Int)(x:Int)(c0:0<=c)(c1:c<(l.length:Int)):∀k:Nat,Xl (l.set c.toNat x) k=Xl l k+if c<(k:Int) then x-gi l c else 0
 | 0=>by simp only[Xl]; rw[if_neg (by omega)]; omega
 | k+1=>by
  simp only[Xl];rw[LU l c x c0 c1 k,QA _ _ c0 c1 (by omega)]
  by_cases e:c=(k:Int)
  ·subst e;rw[if_neg (by omega),if_pos rfl,if_pos (by omega)]; omega
  ·rw[if_neg e]
   by_cases h:c<(k:Int)
   ·rw[if_pos h,if_pos (by omega)]; omega
   ·rw[if_neg h,if_neg (by omega)]; omega
theorem zh4{l:List Int}(h:∀c:Int,0<=c->c<(l.length:Int)->0<=gi l c){c:Int}(c0:0<=c):∀k:Nat,k<=l.length->0<=Xl l k/\(c<(k:Int)->gi l c<=Xl l k)
 | 0,_=>by simp only[Xl]; exact⟨by omega,fun h=>by omega⟩
 | k+1,hk=>by
  have ih:=zh4 h c0 k (by omega);have:=h (k:Int) (by omega) (by omega);simp only[Xl];refine⟨by omega,fun hc=>?_⟩
  by_cases e:c=(k:Int)
  ·subst e; omega
  ·have:=ih.2 (by omega); omega
theorem OC{α:Type}[Inhabited α](n:Nat)(x:α){i:Int}(h0:0<=i)(h1:i<(n:Int)):gi (List.replicate n x) i=x:=by
 obtain⟨k,rfl⟩:=Int.eq_ofNat_of_zero_le h0;rw[J2 (by simp; omega)]; simp
theorem zi6{b:JH}(h:Tc b){c:Int}(c0:0<=c)(c1:c<(b.locals.length:Int))(hp:0<gi b.locals c):Tc (Yw b c)/\(Yw b c).locals.length=b.locals.length/\(Yw b c).quota=b.quota:=by
 have hs:=LU b.locals c 0 c0 c1 b.locals.length;rw[if_pos c1] at hs;have hn:=zh4 (fun d d0 d1=>(h.each d d0 d1).1) c0 b.locals.length (Nat.le_refl _);have hn2:=hn.2 c1;have p1:=h.p1;have s1:=h.s1;have su:=h.sum;have hpos:b.pool+gi b.locals c>0:=by omega
 refine⟨⟨h.q1,h.q2,?_,?_,?_,?_,?_,h.s1,h.s2,fun d d0 d1=>?_,?_⟩,by simp[Yw],rfl⟩
 ·simp only[Yw,List.length_set]; exact h.l1
 ·simp only[Yw,List.length_set]; exact h.l2
 ·simp only[Yw]; rw[if_pos hpos]; simp[h.dl]
 ·simp only[Yw]; omega
 ·simp only[Yw]; omega
 ·simp only[Yw,List.length_set] at d1 ⊢;have hd:=h.dl;have he:=h.each d d0 d1;rw[if_pos hpos,OC _ _ d0 (by omega),QA _ _ c0 c1 d0];have:=h.q1;refine⟨?_,?_,fun h=>by cases h⟩
  ·split <;> omega
  ·split <;> omega
 ·simp only[Yw,List.length_set];rw[hs]; omega
end Go.Proofs.YtclpmgfpjeaibaaGreat
