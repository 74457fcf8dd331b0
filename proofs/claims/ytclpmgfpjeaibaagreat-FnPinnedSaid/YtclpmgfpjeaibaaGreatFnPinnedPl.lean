/- Part 12 of what the law FnPinned needs: the engine, the functions' propositions, the contracts. -/
import Derived.Test.YtclpmgfpjeaibaaGreatFnPinnedPk
namespace Go.Proofs.YtclpmgfpjeaibaaGreat
open Go.RowKit
set_option linter.unusedVariables false
set_option linter.unusedSimpArgs false
set_option maxRecDepth 10000
structure znh (W:Q8):Prop where
 n1:0<=W.now
 n2:W.now<=100000000000000000
 c1:1<=W.cpus.length
 c2:W.cpus.length<=4
 t:W.tasks.length=12
 tree:ZP W.groups
 ups:Xm W.cpus≠0
structure zrw (W:Q8) (g:Zv):Prop where
 none:g.band.quota=0->VL g.band=true/\g.period=0/\g.next=0
 band:g.band.quota≠0->Vd g.band/\g.band.locals.length=W.cpus.length/\1<=g.period/\g.period<=1000/\W.now<g.next/\g.next - W.now<=g.period
structure zru (W:Q8) (g:Zv):Prop where
 w1:1<=g.weight
 w2:g.weight<=20
 m:Tt g.cpus=true
 m0:g.cpus≠0
 s:Zs g.sum=true
 len:g.shelves.length=W.cpus.length
 q:zrw W g
def znj (W:Q8) (k:Int):Prop:=((gi W.groups k).used=false->zkh (gi W.groups k))/\((gi W.groups k).used=true->zru W (gi W.groups k))
theorem GM {W:Q8} {k:Int}:OI W k↔znj W k/\((gi W.groups k).used=true->k=0->(gi W.groups k).weight=10/\(gi W.groups k).cpus=15/\(gi W.groups k).band.quota=0):=by
 constructor
 ·intro p;exact ⟨⟨p.1,fun hu=>by have q:=p.2 hu; exact ⟨q.w1,q.w2,q.m,q.m0,q.s,q.len,⟨q.none,q.band⟩⟩⟩,fun hu=>(p.2 hu).root⟩
 ·rintro ⟨p,r⟩;exact ⟨p.1,fun hu=>by have q:=p.2 hu; exact ⟨q.w1,q.w2,q.m,q.m0,q.s,q.len,r hu,q.q.none,q.q.band⟩⟩
section
variable {W:Q8} {m:MW} {w:World} {bs:List Nat} {p:OA}
theorem N8 {k:Int} (h:PD bs w p W m) (n1:0<=W.now) (n2:W.now<=100000000000000000) (k0:0<=k) (k1:k<(W.groups.length:Int)) (hf:zan (gi W.groups k)) :
  PX bs YZ #[.pointer p,.agg (Yo (gi W.groups k) (m.ms k.toNat)).toArray] w (.bool (Jb (zrw W (gi W.groups k)))):=
 MT p (gi W.groups k).used (gi W.groups k).parent (gi W.groups k).name (gi W.groups k).weight (gi W.groups k).cpus (gi W.groups k).period (gi W.groups k).next (gi W.groups k).sum (gi W.groups k).band.quota (gi W.groups k).band.pool (gi W.groups k).band.spent (m.ms k.toNat).lO (gi W.groups k).band.locals.length (m.ms k.toNat).lC (m.ms k.toNat).dO (gi W.groups k).band.dry.length (m.ms k.toNat).dC (m.ms k.toNat).sO (gi W.groups k).shelves.length (m.ms k.toNat).sC fun wr hx=>by
  have h:=(h.ext hx).less (cs:=[]) (by simp)
  have hp:((Jb (Vd (gi W.groups k).band)&&(((gi W.groups k).band.locals.length:Nat):Int)==((W.cpus.length:Nat):Int))&&Yn (gi W.groups k).period 1 1000)=true->1<=(gi W.groups k).period/\(gi W.groups k).period<=1000:=fun q=>by
   simp only [Bool.and_eq_true] at q;exact Qm.1 q.2
  refine fun _ _=>⟨_,PZ (b:=(gi W.groups k).band) (m:=m.ms k.toNat),fun g=>Tv ?_,fun g=>⟨_,AS (b:=(gi W.groups k).band) (m:=m.ms k.toNat) (h.rd.g.locals k k0 k1) (h.rd.g.dry k k0 k1) hf.lo,fun _=>h.some,_,_,_,fun _=>h.cpus,_,fun _=>QG,fun _=>h.some,_,fun _=>h.now,fun _=>⟨by omega,by omega⟩,fun _=>h.some,_,fun _=>h.now,fun q=>⟨by have:=hp q; omega,by have:=hp q; omega⟩,_,fun _=>QG,Tv ?_⟩⟩
  ·have q0:=(Nt g).1;simp only [Bool.and_eq_true,beq_iff_eq];exact ⟨fun e=>⟨fun _=>⟨g,e.1,e.2⟩,fun hne=>absurd q0 hne⟩,fun q=>(q.none q0).2⟩
  ·simp only [Bool.and_eq_true,beq_iff_eq,Qi,Qm];constructor
   ·rintro ⟨⟨⟨e1,e2⟩,e3⟩,e4⟩;have:=e1.q1;exact ⟨fun hz=>by omega,fun _=>⟨e1,by omega,e3.1,e3.2,by omega,by omega⟩⟩
   ·intro q
    have hq:(gi W.groups k).band.quota≠0:=fun e=>by
     have:=(q.none e).1;rw [this] at g; cases g
    have r:=q.band hq;exact ⟨⟨⟨r.1,by have:=r.2.1; omega⟩,r.2.2.1,r.2.2.2.1⟩,by have:=r.2.2.2.2.1; omega,by have:=r.2.2.2.2.2; omega⟩
theorem F9 (h:PD bs w p W m) (hs:znh W) (hf:∀i:Int,0<=i->i<(W.groups.length:Int)->zan (gi W.groups i)):PX bs YC #[.pointer p] w (.bool (Jb (∀k:Int,0<=k->k<8->OI W k))):=
 Mg p fun wr hx=>by
  have h:=(h.ext hx).less (cs:=[]) (by simp);have hgl:=hs.tree.len;refine ⟨h.some,_,_,_,h.groups,?_⟩;refine Xa W.groups.length 0 rfl (fun k=>k<=W.groups.length/\∀j:Int,0<=j->j<(k:Int)->znj W j) ⟨Nat.zero_le _,fun j h0 h1=>by omega⟩ fun k ⟨hk,hI⟩=>⟨fun hlt => ?_,fun hge => ?_⟩
  ·have hlt:=of_decide_eq_true hlt;have k0:(0:Int)<=(k:Int):=by omega
   have nxt:znj W (k:Int)->∀j:Int,0<=j->j<((k+1:Nat):Int)->znj W j:=fun hq j h0 h1=>by
    by_cases hjk:j<(k:Int)
    ·exact hI j h0 hjk
    ·have:j=(k:Int):=by omega
     subst this; exact hq
   refine ⟨h.rd.g.ix k0 hlt,_,_,_,_,_,_,_,_,_,_,_,_,_,_,_,_,_,_,_,_,h.rd.g.cells k k0 hlt,fun _ _=>⟨fun g => ?_,fun g => ?_⟩⟩
   ·have hu:(gi W.groups (k:Int)).used=false:=by simpa using g
    refine ⟨_,D5 (g:=gi W.groups (k:Int)) (m:=m.ms (k:Int).toNat) hu,fun g2=>Mf fun pp => ?_,fun g2=>⟨⟨by omega,by omega⟩,Qu (by omega) ⟨by omega,nxt ⟨fun _=>Qi.1 (by simpa using g2),fun hu'=>by rw [hu'] at hu; cases hu⟩⟩⟩⟩;have g2:Jb (zkh (gi W.groups (k:Int)))=false:=by simpa using g2
    exact Lq.1 g2 ((GM.1 (pp (k:Int) k0 (by omega))).1.1 hu)
   ·have hu:(gi W.groups (k:Int)).used=true:=by simpa using g
    have bad:¬zru W (gi W.groups (k:Int))->¬∀k:Int,0<=k->k<8->OI W k:=fun hn pp=>hn ((GM.1 (pp (k:Int) k0 (by omega))).1.2 hu)
    refine ⟨_,Tq,_,fun _=>M0,fun g2 b1 hb1=>⟨Zs (gi W.groups (k:Int)).sum,fun _ wx hxw hcx=>zs4 hcx,fun _=>h.some,_,_,_,fun _=>h.cpus,_,fun _=>N8 h hs.n1 hs.n2 k0 hlt (hf _ k0 hlt),fun g3=>Mf (bad fun q => ?_),fun g3=>⟨⟨by omega,by omega⟩,Qu (by omega) ⟨by omega,nxt ⟨fun hu'=>(by rw [hu'] at hu; cases hu),fun _ => ?_⟩⟩⟩⟩,fun g2=>⟨fun e=>(by cases e),none,0,0,fun e=>(by cases e),false,fun e=>(by simp at e),fun g3=>Mf (bad fun q=>g2 ?_),fun g3=>(by simp at g3)⟩⟩
    ·have e1:Yn (gi W.groups (k:Int)).weight 1 20=true:=Qm.2 ⟨q.w1,q.w2⟩;have e2:((gi W.groups (k:Int)).cpus != 0)=true:=by simpa using q.m0
     have e5:(((gi W.groups (k:Int)).shelves.length:Nat):Int)=((W.cpus.length:Nat):Int):=by have:=q.len; omega
     rw [e1,e2,q.m,q.s,e5,Qi.2 q.q] at g3;simp at g3
    ·simp only [Bool.or_eq_false_iff,Bool.not_eq_false',bne_eq_false_iff_eq,Qm,Bool.and_eq_true,bne_iff_ne,Qi] at g3;obtain ⟨⟨⟨⟨a1,a2⟩,a3⟩,a4⟩,a5⟩:=g3;exact ⟨a1.1,a1.2,a2.2,a2.1,a3,by omega,a5⟩
    ·have e1:Yn (gi W.groups (k:Int)).weight 1 20=true:=Qm.2 ⟨q.w1,q.w2⟩;have e2:((gi W.groups (k:Int)).cpus != 0)=true:=by simpa using q.m0
     rw [e1,e2,q.m]; rfl
  ·have hge:=of_decide_eq_false hge;have h0:(0:Int)<(W.groups.length:Int):=by omega
   refine ⟨h.some,_,_,_,h.groups,h.rd.g.ix (by decide) h0,_,_,_,_,_,_,_,_,_,_,_,_,_,_,_,_,_,_,_,_,h.rd.g.cells 0 (by decide) h0,fun _ _=>Tv ?_⟩;simp only [Bool.and_eq_true,beq_iff_eq];constructor
   ·rintro ⟨⟨e1,e2⟩,e3⟩ j j0 j1;exact GM.2 ⟨hI j j0 (by omega),fun _ hj=>by subst hj; exact ⟨e1,e2,e3⟩⟩
   ·intro pp;have r:=(GM.1 (pp 0 (by decide) (by decide))).2 hs.tree.ru rfl;exact ⟨⟨r.1,r.2.1⟩,r.2.2⟩
theorem znh.wa (hs:znh W) (hg:∀k:Int,0<=k->k<8->OI W k):WA W:=⟨hs.n1,hs.n2,hs.c1,hs.c2,hs.t,hs.tree,hs.ups,hg⟩
theorem zma {n:Int}:Yn n (-10) 9=true↔Qd n≠0:=by
 unfold Qd
 cases h:Yn n (-10) 9 with
 | true=>
  have:=Qm.1 h;simp; omega
 | false=>simp
def B5 (W:Q8) (t:Int):Prop:=Ef W t/\((Q7 W t).state=1->Zs (Qb W (Q7 W t).group (Q7 W t).cpu).floor=true)
theorem Na (h:PD bs w p W m) (ha:WA W) (lg:W.groups.length<=maxLen):PX bs X1 #[.pointer p] w (.bool (Jb (∀t:Int,0<=t->t<12->B5 W t))):=
 MV p fun wr hx=>by
  have h:=(h.ext hx).less (cs:=[]) (by simp);have hgl:=ha.gl;have htl:=ha.t;refine ⟨h.some,_,_,_,h.tasks,?_⟩;refine Xa W.tasks.length 0 rfl (fun k=>k<=W.tasks.length/\∀j:Int,0<=j->j<(k:Int)->B5 W j) ⟨Nat.zero_le _,fun j h0 h1=>by omega⟩ fun k ⟨hk,hI⟩=>⟨fun hlt => ?_,fun hge => ?_⟩
  ·have hlt:=of_decide_eq_true hlt;have k0:(0:Int)<=(k:Int):=by omega
   have nxt:B5 W (k:Int)->Qn .i64 ((k:Int)+1)/\zis (fun k=>k<=W.tasks.length/\∀j:Int,0<=j->j<(k:Int)->B5 W j) [.int .i64 ((k:Int)+1)]/\XM W.tasks.length 0 [.int .i64 ((k:Int)+1)]<XM W.tasks.length 0 [.int .i64 (k:Int)]:=fun hq=>⟨⟨by omega,by omega⟩,Qu (by omega) ⟨by omega,fun j h0 h1=>by
    by_cases hjk:j<(k:Int)
    ·exact hI j h0 hjk
    ·have:j=(k:Int):=by omega
     subst this; exact hq⟩⟩
   have bad:¬B5 W (k:Int)->¬∀t:Int,0<=t->t<12->B5 W t:=fun hn pp=>hn (pp (k:Int) k0 (by omega))
   refine ⟨h.rd.t.ix Qz k0 hlt,_,_,_,_,_,_,_,_,_,h.rd.t k k0 hlt,fun _ _=>⟨_,fun wq=>NV CQ (zhc (gi W.tasks (k:Int)) Vl) _ _ wq,fun g => ?_,fun g => ?_⟩⟩
   ·rw [zcr,decide_eq_true_eq] at g;have hz:Q7 W (k:Int)=Vl:=g;exact nxt ⟨.inl ⟨by rw [hz]; rfl,hz⟩,fun e=>by rw [hz] at e; cases e⟩
   ·rw [zcr,decide_eq_false_iff_not] at g;have hz:¬Q7 W (k:Int)=Vl:=g
    have get:B5 W (k:Int)->znm W (gi W.tasks (k:Int)):=fun q=>by
     rcases q.1 with ⟨_,e⟩ | ⟨_,q⟩
     ·exact absurd e hz
     ·exact q
    refine ⟨fun _=>h.some,_,_,_,fun _=>h.groups,_,fun _=>P9 (c:=m.gC) h.rd.g lg,_,fun _=>KX,_,fun _=>M0,fun g2=>Mf (bad fun q => ?_),fun g2 b1 hb1 => ?_⟩
    ·have q:=get q;have e3:Yn (gi W.tasks (k:Int)).nice (-10) 9=true:=zma.2 q.n;have e4:((gi W.tasks (k:Int)).mask != 0)=true:=by simpa using q.m0
     rw [q.g,e3,q.m,e4] at g2;simp only [Bool.not_true,Bool.or_false,Bool.and_true,Bool.and_eq_true,bne_iff_ne] at g2;have:=q.st;omega
    ·simp only [Bool.or_eq_false_iff,Bool.not_eq_false',Bool.and_eq_true,bne_iff_ne] at g2;obtain ⟨⟨⟨a1,a2⟩,a3⟩,a4⟩:=g2
     have st:(gi W.tasks (k:Int)).state=1\/(gi W.tasks (k:Int)).state=2:=by
      by_cases h1:(gi W.tasks (k:Int)).state=1
      ·exact .inl h1
      ·refine .inr ?_;have:((gi W.tasks (k:Int)).state != 1)=true:=by simpa using h1
       rw [this,Bool.true_and] at a1
       simpa using a1
     refine ⟨_,fun wx hxw hcx=>ztd hcx,_,fun _=>C0,_,fun _=>MC h ha.c2 ha.tree k0 hlt a2,_,fun _=>N5,fun g3=>Mf (bad fun q => ?_),fun g3 => ?_⟩
     ·have q:=get q;have e4:Yn (gi W.tasks (k:Int)).load 0 8000000=true:=Qm.2 ⟨q.l1,q.l2⟩;have e5:Z4 (Qo W (Q7 W (k:Int)).group (Q7 W (k:Int)).mask) (gi W.tasks (k:Int)).cpu=true:=q.c;rw [q.v,q.s,q.u,e4,e5] at g3;cases g3
     ·simp only [Bool.or_eq_false_iff,Bool.not_eq_false',Qm,Bool.and_eq_true] at g3;obtain ⟨⟨b1',b2⟩,b3⟩:=g3;obtain ⟨u1,u2,_⟩:=Q5.1 a2;obtain ⟨c0,c1⟩:=Ms ha b3;have hsl:=ha.sl a2;have c2:(gi W.tasks (k:Int)).cpu<((gi W.groups (gi W.tasks (k:Int)).group).shelves.length:Int):=by omega
      have sh:=h.sh (g:=(gi W.tasks (k:Int)).group) u1 u2 c0 c2
      have mk:(((Q7 W (k:Int)).state=1->Zs (Qb W (Q7 W (k:Int)).group (Q7 W (k:Int)).cpu).floor=true/\OX (gi W.tasks (k:Int)).v (Qb W (gi W.tasks (k:Int)).group (gi W.tasks (k:Int)).cpu).floor (Qd (gi W.tasks (k:Int)).nice)=true))->B5 W (k:Int):=fun hf=>⟨.inr ⟨fun e=>by
        have e:(gi W.tasks (k:Int)).state=0:=e;omega,⟨st,a2,zma.1 a3,a4.2,a4.1,b1'.1,b1'.2.1,b1'.2.2,b2.1,b2.2,b3,fun e=>(hf e).2⟩⟩,fun e=>(hf e).1⟩
      refine ⟨_,_,MD,_,YD h u1 u2 c0 c2,sh.1,_,sh.2 (j:=0) rfl,fun _ b2 hb2=>⟨Zs (Qb W (gi W.tasks (k:Int)).group (gi W.tasks (k:Int)).cpu).floor,fun _ wx hxw hcx=>zs4 hcx,_,fun _ _=>PY,_,fun g4 _=>ME b1'.1 (by simpa using g4),fun g4=>Mf (bad fun q => ?_),fun g4=>nxt (mk fun e => ?_)⟩,fun g4=>⟨fun e=>(by cases e),fun _=>nxt (mk fun e=>absurd (beq_iff_eq.2 e) g4)⟩⟩
      ·simp only [Bool.and_eq_true,beq_iff_eq,Bool.or_eq_true,Bool.not_eq_true'] at g4;have e1:=(get q).f g4.1;have e2:=q.2 g4.1;rcases g4.2 with g5 | g5
       ·have e2:Zs (Qb W (gi W.tasks (k:Int)).group (gi W.tasks (k:Int)).cpu).floor=true:=e2;rw [e2] at g5; cases g5
       ·rw [e1] at g5; cases g5
      ·have e':((gi W.tasks (k:Int)).state==1)=true:=beq_iff_eq.2 e;rw [e',Bool.true_and] at g4;simp only [Bool.or_eq_false_iff,Bool.not_eq_false'] at g4;exact g4
  ·have hge:=of_decide_eq_false hge;exact ze1 fun t h0 h1=>hI t h0 (by omega)
theorem D6 (h:PD bs w p W m) (ha:WA W) (hf:∀i:Int,0<=i->i<(W.groups.length:Int)->zan (gi W.groups i)):PX bs Yv #[.pointer p] w (.bool (Jb (∀k c:Int,0<=k->k<8->0<=c->c<((gi W.groups k).shelves.length:Int)->OJ W k c))):=
 PL p fun wr hx=>by
  have h:=(h.ext hx).less (cs:=[]) (by simp);have hgl:=ha.gl;have hcl:=ha.c2
  let TS:=fun (k c:Int)=>Zs (Qb W k c).floor=true/\Zs (Qb W k c).v=true/\Zs (Qb W k c).sum=true/\1<=(Qb W k c).w/\(Qb W k c).w<=20
  have ts:(∀k c:Int,0<=k->k<8->0<=c->c<((gi W.groups k).shelves.length:Int)->OJ W k c)->∀k c:Int,0<=k->k<8->0<=c->c<((gi W.groups k).shelves.length:Int)->TS k c:=fun q k c h0 h1 h2 h3=>by
   have r:=q k c h0 h1 h2 h3;exact ⟨r.f,r.v,r.s,r.w1,r.w2⟩
  refine ⟨h.some,_,_,_,h.groups,?_⟩;refine Xa W.groups.length 0 rfl (fun k=>k<=W.groups.length/\∀j c:Int,0<=j->j<(k:Int)->0<=c->c<((gi W.groups j).shelves.length:Int)->TS j c) ⟨Nat.zero_le _,fun j c h0 h1=>by omega⟩ fun k ⟨hk,hI⟩=>⟨fun hlt => ?_,fun hge => ?_⟩
  ·have hlt:=of_decide_eq_true hlt;have k0:(0:Int)<=(k:Int):=by omega
   have hsm:(gi W.groups (k:Int)).shelves.length<=maxLen:=(hf _ k0 hlt).sh;refine ⟨h.rd.g.ix k0 hlt,_,_,_,_,_,_,_,_,_,_,_,_,_,_,_,_,_,_,_,_,h.rd.g.cells k k0 hlt,fun _ _ => ?_⟩;refine Xa (gi W.groups (k:Int)).shelves.length 0 rfl (fun c=>c<=(gi W.groups (k:Int)).shelves.length/\∀d:Int,0<=d->d<(c:Int)->TS (k:Int) d) ⟨Nat.zero_le _,fun j h0 h1=>by omega⟩ fun c ⟨hc,hJ⟩=>⟨fun hltc => ?_,fun hgec => ?_⟩
   ·have hltc:=of_decide_eq_true hltc;have c0:(0:Int)<=(c:Int):=by omega
    have rs:=h.rd.g.shelves (k:Int) k0 hlt;refine ⟨rs.ix ZF c0 hltc,_,_,_,_,_,rs c c0 hltc,fun _ _ b2 hb2=>⟨_,fun wx hxw hcx=>ztd hcx,_,fun _=>Tq,fun g=>Mf fun q => ?_,fun g=>⟨zhi hltc hsm,Qu (by omega) ⟨by omega,fun d h0 h1 => ?_⟩⟩⟩⟩
    ·have r:=ts q (k:Int) (c:Int) k0 (by omega) c0 hltc;have e4:Yn (Qb W (k:Int) (c:Int)).w 1 20=true:=Qm.2 ⟨r.2.2.2.1,r.2.2.2.2⟩;have g':((!(Zs (Qb W (k:Int) (c:Int)).floor&&(Zs (Qb W (k:Int) (c:Int)).v&&Zs (Qb W (k:Int) (c:Int)).sum))) || !Yn (Qb W (k:Int) (c:Int)).w 1 20)=true:=g;rw [r.1,r.2.1,r.2.2.1,e4] at g'
     cases g'
    ·by_cases hjk:d<(c:Int)
     ·exact hJ d h0 hjk
     ·have:d=(c:Int):=by omega
      subst this;have g':((!(Zs (Qb W (k:Int) (c:Int)).floor&&(Zs (Qb W (k:Int) (c:Int)).v&&Zs (Qb W (k:Int) (c:Int)).sum))) || !Yn (Qb W (k:Int) (c:Int)).w 1 20)=false:=g;simp only [Bool.or_eq_false_iff,Bool.not_eq_false',Bool.and_eq_true,Qm] at g';exact ⟨g'.1.1,g'.1.2.1,g'.1.2.2,g'.2.1,g'.2.2⟩
   ·have hgec:=of_decide_eq_false hgec;refine ⟨⟨by omega,by omega⟩,Qu (by omega) ⟨by omega,fun j d h0 h1 h2 h3 => ?_⟩⟩
    by_cases hjk:j<(k:Int)
    ·exact hI j d h0 hjk h2 h3
    ·have:j=(k:Int):=by omega
     subst this;exact hJ d h2 (by omega)
  have hge:=of_decide_eq_false hge;have hT:∀j c:Int,0<=j->j<8->0<=c->c<((gi W.groups j).shelves.length:Int)->TS j c:=fun j c h0 h1=>hI j c h0 (by omega)
  refine ⟨h.some,_,_,_,h.cpus,?_⟩;refine Xa W.cpus.length 0 rfl (fun c=>c<=W.cpus.length/\∀d k:Int,0<=d->d<(c:Int)->0<=k->k<8->d<((gi W.groups k).shelves.length:Int)->OJ W k d) ⟨Nat.zero_le _,fun j k h0 h1=>by omega⟩ fun c ⟨hc,hJ⟩=>⟨fun hltc => ?_,fun hgec => ?_⟩
  ·have hltc:=of_decide_eq_true hltc;have c0:(0:Int)<=(c:Int):=by omega
   obtain ⟨r1,r2,_⟩:=Q5.1 ha.root;have hrc:(c:Int)<((gi W.groups 0).shelves.length:Int):=by rw [ha.sl ha.root]; exact hltc
   have sh:=h.sh (g:=0) r1 r2 c0 hrc;have tr:=hT 0 (c:Int) (by decide) (by decide) c0 hrc;refine ⟨_,_,MD,fun _ _=>⟨_,YD h r1 r2 c0 hrc,sh.1,(Qb W 0 (c:Int)).on,sh.2 (j:=1) rfl,fun _=>sh.1,(Qb W 0 (c:Int)).v,fun _=>sh.2 (j:=2) rfl,fun _=>sh.1,(Qb W 0 (c:Int)).w,fun _=>sh.2 (j:=3) rfl,fun g=>Mf fun q => ?_,fun g => ?_⟩⟩
   ·have r:=(q 0 (c:Int) (by decide) (by decide) c0 hrc).root rfl;rw [r.1,r.2.1,r.2.2] at g;simp at g
   simp only [Bool.or_eq_false_iff,bne_eq_false_iff_eq] at g;have root:OJ W 0 (c:Int):=⟨tr.1,tr.2.1,tr.2.2.1,tr.2.2.2.1,tr.2.2.2.2,fun _=>⟨g.1.1,g.1.2,g.2⟩,fun hne=>absurd rfl hne,fun hne=>absurd rfl hne⟩
   refine Xa 8 1 rfl (fun k=>1<=k/\k<=8/\∀j:Int,0<=j->j<(k:Int)->(c:Int)<((gi W.groups j).shelves.length:Int)->OJ W j (c:Int)) ⟨Nat.le_refl _,by omega,fun j h0 h1 _=>by
    have:j=0:=by omega
    subst this; exact root⟩ fun k ⟨hk1,hk,hK⟩=>⟨fun hlt => ?_,fun hge2 => ?_⟩
   ·have hlt:=of_decide_eq_true hlt;have k0:(0:Int)<=(k:Int):=by omega
    have kl:(k:Int)<(W.groups.length:Int):=by omega
    have nxt:((c:Int)<((gi W.groups (k:Int)).shelves.length:Int)->OJ W (k:Int) (c:Int))->Qn .i64 ((k:Int)+1)/\zis (fun k=>1<=k/\k<=8/\∀j:Int,0<=j->j<(k:Int)->(c:Int)<((gi W.groups j).shelves.length:Int)->OJ W j (c:Int)) [.int .i64 ((k:Int)+1)]/\XM 8 0 [.int .i64 ((k:Int)+1)]<XM 8 0 [.int .i64 (k:Int)]:=fun hq=>⟨⟨by omega,by omega⟩,Qu (by omega) ⟨by omega,by omega,fun j h0 h1 h2=>by
     by_cases hjk:j<(k:Int)
     ·exact hK j h0 hjk h2
     ·have:j=(k:Int):=by omega
      subst this; exact hq h2⟩⟩
    refine ⟨h.some,_,_,_,h.groups,h.rd.g.ix k0 kl,_,h.rd.g.used k0 kl,fun g2=>nxt fun hh => ?_,fun g2 => ?_⟩
    ·have hu:(gi W.groups (k:Int)).used=false:=by simpa using g2
     have:=((ha.grp (k:Int) k0 (by omega)).1 hu).l;omega
    ·have hus:(gi W.groups (k:Int)).used=true:=by simpa using g2
     have hu:Q6 W.groups (k:Int)=true:=Q5.2 ⟨k0,kl,hus⟩;have hkc:(c:Int)<((gi W.groups (k:Int)).shelves.length:Int):=by rw [ha.sl hu]; exact hltc
     have hp:=ha.up hu (by omega);obtain ⟨v1,v2,_⟩:=Q5.1 hp;have hpc:(c:Int)<((gi W.groups (gi W.groups (k:Int)).parent).shelves.length:Int):=by rw [ha.sl hp]; exact hltc
     have sk:=h.sh (g:=(k:Int)) k0 kl c0 hkc;have sp:=h.sh (g:=(gi W.groups (k:Int)).parent) v1 v2 c0 hpc;have tk:=hT (k:Int) (c:Int) k0 (by omega) c0 hkc;have tp:=hT (gi W.groups (k:Int)).parent (c:Int) v1 (by omega) c0 hpc;refine ⟨_,YD h k0 kl c0 hkc,sk.1,(Qb W (k:Int) (c:Int)).on,sk.2 (j:=1) rfl,_,AV h ha c0 hltc,_,fun _=>zfq h ha hu c0 hltc,fun _=>sk.1,(Qb W (k:Int) (c:Int)).on,fun _=>sk.2 (j:=1) rfl,fun _ _=>sk.1,(Qb W (k:Int) (c:Int)).v,fun _ _=>sk.2 (j:=2) rfl,fun _ _=>h.some,_,_,_,fun _ _=>h.groups,fun _ _=>h.rd.g.ix k0 kl,_,fun _ _=>h.rd.g.parent k0 kl,_,fun _ _=>YD h v1 v2 c0 hpc,fun _ _=>sp.1,(Qb W (gi W.groups (k:Int)).parent (c:Int)).floor,fun _ _=>sp.2 (j:=0) rfl,fun _ _=>sk.1,(Qb W (k:Int) (c:Int)).w,fun _ _=>sk.2 (j:=3) rfl,_,fun _ _=>ME tk.2.1 tp.1,fun g3=>Mf fun q => ?_,fun g3=>nxt fun _ => ?_⟩
     ·have r:=q (k:Int) (c:Int) k0 (by omega) c0 hkc;have r1:=r.on (by omega);simp only [Bool.or_eq_true,Bool.and_eq_true,Bool.not_eq_true',beq_eq_false_iff_ne] at g3;rcases g3 with g3 | g3
      ·exact g3 r1
      ·have:=r.st (by omega) g3.1;rw [this] at g3
       cases g3.2
     ·simp only [Bool.or_eq_false_iff,Bool.not_eq_false',beq_iff_eq] at g3;refine ⟨tk.1,tk.2.1,tk.2.2.1,tk.2.2.2.1,tk.2.2.2.2,fun e=>by omega,fun _=>g3.1,fun _ ho => ?_⟩;have:=g3.2;rw [ho,Bool.true_and] at this
      simpa using this
   ·have hge2:=of_decide_eq_false hge2;refine ⟨⟨by omega,by omega⟩,Qu (by omega) ⟨by omega,fun d k' h0 h1 h2 h3 h4 => ?_⟩⟩
    by_cases hdc:d<(c:Int)
    ·exact hJ d k' h0 hdc h2 h3 h4
    ·have:d=(c:Int):=by omega
     subst this;exact hK k' h2 (by omega) h4
  ·have hgec:=of_decide_eq_false hgec;refine ze1 fun k d h0 h1 h2 h3=>hJ d k h2 ?_ h0 h1 h3
   have hus:(gi W.groups k).used=true:=by
    cases hu:(gi W.groups k).used with
    | true=>rfl
    | false=>
     have:=((ha.grp k h0 h1).1 hu).l;omega
   have:=ha.sl (Q5.2 ⟨h0,by omega,hus⟩);omega
theorem AW (h:PD bs w p W m) (ha:WA W) (hts:∀t:Int,0<=t->t<12->Ef W t) (hss:∀k c:Int,0<=k->k<8->0<=c->c<((gi W.groups k).shelves.length:Int)->OJ W k c):PX bs X6 #[.pointer p] w (.bool (Jb (∀c:Int,0<=c->c<(W.cpus.length:Int)->Ht W c))):=
 KK p fun wr hx=>by
  have h:=(h.ext hx).less (cs:=[]) (by simp);have hgl:=ha.gl;have htl:=ha.t;have hcl:=ha.c2;have hm9:=Zg;refine ⟨h.some,_,_,_,h.cpus,?_⟩;refine Xa W.cpus.length 0 rfl (fun c=>c<=W.cpus.length/\∀j:Int,0<=j->j<(c:Int)->Ht W j) ⟨Nat.zero_le _,fun j h0 h1=>by omega⟩ fun c ⟨hc,hI⟩=>⟨fun hlt => ?_,fun hge => ?_⟩
  ·have hlt:=of_decide_eq_true hlt;have c0:(0:Int)<=(c:Int):=by omega
   have nxt:Ht W (c:Int)->Qn .i64 ((c:Int)+1)/\zis (fun c=>c<=W.cpus.length/\∀j:Int,0<=j->j<(c:Int)->Ht W j) [.int .i64 ((c:Int)+1)]/\XM W.cpus.length 0 [.int .i64 ((c:Int)+1)]<XM W.cpus.length 0 [.int .i64 (c:Int)]:=fun hq=>⟨⟨by omega,by omega⟩,Qu (by omega) ⟨by omega,fun j h0 h1=>by
    by_cases hjk:j<(c:Int)
    ·exact hI j h0 hjk
    ·have:j=(c:Int):=by omega
     subst this; exact hq⟩⟩
   have bad:¬Ht W (c:Int)->¬∀c:Int,0<=c->c<(W.cpus.length:Int)->Ht W c:=fun hn pp=>hn (pp (c:Int) c0 hlt)
   refine ⟨h.rd.c.ix ZS c0 hlt,_,_,_,_,_,h.rd.c c c0 hlt,fun _ _ b1 hb1=>⟨_,fun wx hxw hcx=>ztm hcx,fun g=>Mf (bad fun q => ?_),fun g=>⟨fun g2=>nxt ?_,fun g2 => ?_⟩⟩⟩
   ·rw [q.b,q.i] at g; cases g
   ·simp only [Bool.not_eq_false',Bool.and_eq_true] at g;simp only [Bool.and_eq_true,beq_iff_eq] at g2;exact ⟨g.1,g.2,by omega,by omega,fun _=>g2.2,fun hh=>by omega⟩
   ·simp only [Bool.not_eq_false',Bool.and_eq_true] at g
    have ne:Ht W (c:Int)->0<=(gi W.cpus (c:Int)).cur:=fun q=>by
     rcases Int.lt_or_le (gi W.cpus (c:Int)).cur 0 with hneg | hpos
     ·have e1:=q.c1;have e2:=q.no hneg;have e3:(gi W.cpus (c:Int)).cur = -1:=by omega
      rw [e3,e2] at g2;simp at g2
     ·exact hpos
    have there:(Yn (gi W.cpus (c:Int)).cur 0 ((W.tasks.length:Int) - 1)&&((Q7 W (gi W.cpus (c:Int)).cur).state != 0))=true->0<=(gi W.cpus (c:Int)).cur/\(gi W.cpus (c:Int)).cur<(W.tasks.length:Int):=fun q=>by
     simp only [Bool.and_eq_true] at q;have:=Qm.1 q.1;omega
    have lu:0<=(gi W.cpus (c:Int)).cur/\(gi W.cpus (c:Int)).cur<(W.tasks.length:Int)->(Q7 W (gi W.cpus (c:Int)).cur).state=1->Q6 W.groups (Q7 W (gi W.cpus (c:Int)).cur).group=true:=fun q hs=>(GY ha (hts _ q.1 (by omega)) hs).1
    refine ⟨_,_,MD,fun _ _=>⟨_,fun _=>Pa h (by omega),((Q7 W (gi W.cpus (c:Int)).cur).cpu==(c:Int))&&Zr W (gi W.cpus (c:Int)).cur,fun q => ?_,_,fun _=>QG,fun g3=>Mf (bad fun q => ?_),fun g3 => ?_⟩⟩
    ·simp only [Bool.or_eq_false_iff,Bool.not_eq_false'] at q;have:=there q.2;exact AZ h ha this.1 this.2 c0 hlt (lu this)
    ·have t0:=ne q;have t1:=q.c2;have y:=q.yes t0;have e2:Yn (gi W.cpus (c:Int)).cur 0 ((W.tasks.length:Int) - 1)=true:=Qm.2 (by omega);have hst:(Q7 W (gi W.cpus (c:Int)).cur).state=1:=(zb0 (hts _ t0 (by omega)) y.2.2.2.2.1).2;have e4:Yn (gi W.cpus (c:Int)).ran 1 149=true:=Qm.2 ⟨y.2.1,y.2.2.1⟩;rw [y.1,e2,hst,y.2.2.2.1,y.2.2.2.2.1,e4] at g3;simp at g3
    ·simp only [Bool.or_eq_false_iff,Bool.not_eq_false'] at g3;obtain ⟨⟨⟨a1,a2⟩,a3⟩,a4⟩:=g3;obtain ⟨t0,t1⟩:=there a2;have a4:=Qm.1 a4;simp only [Bool.and_eq_true,beq_iff_eq] at a3;obtain ⟨hcpu,hline⟩:=a3;obtain ⟨q,_⟩:=zb0 (hts _ t0 (by omega)) hline;have au:=q.g;obtain ⟨u1,u2,_⟩:=Q5.1 au
     have sl:∀{x:Int},Q6 W.groups x=true->0<=x/\x<(W.groups.length:Int)/\(c:Int)<((gi W.groups x).shelves.length:Int)/\OJ W x (c:Int):=fun {x} hx=>by
      obtain ⟨v1,v2,_⟩:=Q5.1 hx;have c3:(c:Int)<((gi W.groups x).shelves.length:Int):=by rw [ha.sl hx]; exact hlt
      exact ⟨v1,v2,c3,hss x (c:Int) v1 (by omega) c0 c3⟩
     obtain ⟨_,_,c2,sp⟩:=sl au;have sh:=h.sh (g:=(Q7 W (gi W.cpus (c:Int)).cur).group) u1 u2 c0 c2;have mk:On W (c:Int)=true->Ht W (c:Int):=fun hst=>⟨g.1,g.2,by omega,t1,fun hh=>by omega,fun _=>⟨a1,a4.1,a4.2,hcpu,hline,hst⟩⟩
     refine ⟨h.some,_,_,_,h.tasks,h.rd.t.ix Qz t0 t1,_,_,_,_,_,_,_,_,_,h.rd.t _ t0 t1,fun _ _=>⟨h.rd.t _ t0 t1,rfl,h.tasks,_,YD h u1 u2 c0 c2,sh.1,_,sh.2 (j:=0) rfl,D2 q.v sp.f,_,PY,_,Ur,fun g4=>Mf (bad fun qq => ?_),fun g4 => ?_⟩⟩
     ·have g4:=of_decide_eq_true g4;have hd:¬((Q7 W (gi W.cpus (c:Int)).cur).v - (Qb W (Q7 W (gi W.cpus (c:Int)).cur).group (c:Int)).floor<=QZ (gi W.cpus (c:Int)).ran (Qd (Q7 W (gi W.cpus (c:Int)).cur).nice)):=Int.not_le.2 g4;have:=(qq.yes t0).2.2.2.2.2;unfold On at this;rw [decide_eq_false hd] at this;cases this
     ·have g4:=of_decide_eq_false g4;have hd:(Q7 W (gi W.cpus (c:Int)).cur).v - (Qb W (Q7 W (gi W.cpus (c:Int)).cur).group (c:Int)).floor<=QZ (gi W.cpus (c:Int)).ran (Qd (Q7 W (gi W.cpus (c:Int)).cur).nice):=Int.not_lt.1 g4
      have hS:On W (c:Int)=Vk W (Q7 W (gi W.cpus (c:Int)).cur).group (c:Int) (gi W.cpus (c:Int)).ran:=by
       unfold On;rw [decide_eq_true hd,Bool.true_and]
      refine ⟨fun vs=>∃x:Int,vs=[.int .i64 x]/\Q6 W.groups x=true/\Vk W x (c:Int) (gi W.cpus (c:Int)).ran=Vk W (Q7 W (gi W.cpus (c:Int)).cur).group (c:Int) (gi W.cpus (c:Int)).ran,fun vs=>(dep 3 W.groups (ZW 0 vs)).toNat,⟨_,rfl,au,rfl⟩,?_⟩;rintro x ⟨x',he,hux,hJ⟩;simp only [List.cons.injEq,Value.int.injEq,true_and,and_true] at he;subst he;refine ⟨fun hz => ?_,fun hz => ?_⟩
      ·have hz:x≠0:=by simpa using hz
       obtain ⟨hp,a,b,d,e,e2,hd⟩:=ZQ ha.tree hux hz;obtain ⟨x1,x2,x3,xs⟩:=sl hux;obtain ⟨p1,p2,p3,ps⟩:=sl hp;have sx:=h.sh (g:=x) x1 x2 c0 x3;have spp:=h.sh (g:=(gi W.groups x).parent) p1 p2 c0 p3;unfold Vk at hJ;rw [Y2 ha.tree hux hz,List.all_cons] at hJ
       refine ⟨_,YD h x1 x2 c0 x3,sx.1,_,sx.2 (j:=2) rfl,h.some,_,_,_,h.groups,h.rd.g.ix x1 x2,_,h.rd.g.parent x1 x2,_,YD h p1 p2 c0 p3,spp.1,_,spp.2 (j:=0) rfl,D2 xs.v ps.f,sx.1,_,sx.2 (j:=3) rfl,_,Ur,fun g5=>Mf (bad fun qq => ?_),fun g5=>⟨h.some,_,_,_,h.groups,h.rd.g.ix x1 x2,_,h.rd.g.parent x1 x2,⟨_,rfl,hp,?_⟩,by
        show (dep 3 W.groups (gi W.groups x).parent).toNat<(dep 3 W.groups x).toNat;omega⟩⟩
       ·have g5:=of_decide_eq_true g5;have hd:¬((Qb W x (c:Int)).v - (Qb W (gi W.groups x).parent (c:Int)).floor<=QZ (gi W.cpus (c:Int)).ran (Qb W x (c:Int)).w):=Int.not_le.2 g5;rw [decide_eq_false hd,Bool.false_and] at hJ;have:=(qq.yes t0).2.2.2.2.2;rw [hS] at this;unfold Vk at this;rw [<-hJ] at this;cases this
       ·have g5:=of_decide_eq_false g5;have hd:(Qb W x (c:Int)).v - (Qb W (gi W.groups x).parent (c:Int)).floor<=QZ (gi W.cpus (c:Int)).ran (Qb W x (c:Int)).w:=Int.not_lt.1 g5;rw [decide_eq_true hd,Bool.true_and] at hJ;exact hJ
      ·have hz:x=0:=by simpa using hz
       subst hz;refine nxt (mk ?_);rw [hS,<-hJ];unfold Vk;rw [show QQ W.groups 0=[] from Z2 _ _,List.all_nil]
  ·have hge:=of_decide_eq_false hge;exact ze1 fun t h0 h1=>hI t h0 (by omega)
theorem N9 (h:PD bs w p W m) (lc:W.cpus.length<=maxLen) (lg:W.groups.length<=maxLen):PX bs X0 #[.pointer p] w (.bool (Jb (znh W))):=
 MU p fun wr hx=>by
  have h:=(h.ext hx).less (cs:=[]) (by simp);refine ⟨h.some,_,h.now,fun b hb=>⟨Zs W.now,fun wx hxw hcx=>zs4 hcx,fun _=>h.some,_,_,_,fun _=>h.cpus,_,fun _=>QG,Xm W.cpus,fun g=>OR h ?_,fun _=>h.some,_,_,_,fun _=>h.tasks,fun _=>h.some,_,_,_,fun _=>h.groups,OE W.groups,fun _=>AU h.rd.g lg,Tv ?_⟩⟩
  ·simp only [Bool.and_eq_true,Qm] at g;omega
  ·simp only [Bool.and_eq_true,Qm,beq_iff_eq,bne_iff_ne,ZU,UC];constructor
   ·rintro ⟨⟨⟨⟨e1,e2⟩,e3⟩,e4⟩,e5⟩;exact ⟨e1.1,e1.2,by omega,by omega,by omega,e5,e3⟩
   ·intro q;have:=q.t;have:=q.c1;have:=q.c2;exact ⟨⟨⟨⟨⟨q.n1,q.n2⟩,by omega⟩,q.ups⟩,by omega⟩,q.tree⟩
theorem N6 (h:Xf bs w W m) (lc:W.cpus.length<=maxLen) (lg:W.groups.length<=maxLen) (hf:∀i:Int,0<=i->i<(W.groups.length:Int)->zan (gi W.groups i)) :
  PX bs Ti #[.agg (Qa W m).toArray] w (.bool (QA W)):=by
 refine MX fun wr0 hx0=>BC W.now m.cO W.cpus.length m.cC m.tO W.tasks.length m.tC m.gO W.groups.length m.gC (R:=fun v w'=>v = .bool (QA W)/\Q0 [] wr0 w') ?_
 have h:=(h.ext hx0).less (cs:=[]) (by simp);intro b wb hxb hb hcell _ b1 hb1
 have hP:∀{bs:List Nat} {w1:World},Q0 [] wb w1->(∀x∈bs,wb.heap.size<=x)->PD bs w1 (some ⟨b,0,none⟩) W m:=fun {bs w1} hx hbs=>by
  have hbn:b∉bs:=fun hm=>by
   have:=hbs b hm;have:=Vn hcell;omega
  have hrd:Xf bs w1 W m:=((h.ext hxb).wide (cs:=bs) fun x hm=>.inr (hbs x hm)).ext hx.of_nil;exact ⟨PE (VS hcell hx (by simp)) hbn (k0:=0) fun j v hj=>by rw [Nat.zero_add,Nat.zero_add]; exact hj,hrd⟩
 let Cn:=fun (k:Nat)=>match k with
  | 0=>znh W
  | 1=>∀k:Int,0<=k->k<8->OI W k
  | 2=>∀t:Int,0<=t->t<12->B5 W t
  | 3=>∀k c:Int,0<=k->k<8->0<=c->c<((gi W.groups k).shelves.length:Int)->OJ W k c
  | _=>∀c:Int,0<=c->c<(W.cpus.length:Int)->Ht W c
 have all:Xn W->∀k:Nat,k<5->Cn k:=fun q k hk=>by
  have:k=0\/k=1\/k=2\/k=3\/k=4:=by omega
  rcases this with rfl | rfl | rfl | rfl | rfl
  ·exact ⟨q.a.n1,q.a.n2,q.a.c1,q.a.c2,q.a.t,q.a.tree,q.a.ups⟩
  ·exact q.a.grp
  ·refine fun t h0 h1=>⟨q.t t h0 h1,fun hs => ?_⟩
   have hu:=GY q.a (q.t t h0 h1) hs;obtain ⟨u1,u2,_⟩:=Q5.1 hu.1;have:=q.a.gl;exact (q.s _ _ u1 (by omega) hu.2.1 (by rw [q.a.sl hu.1]; exact hu.2.2)).f
  ·exact q.s
  ·exact q.c
 have back:(∀k:Nat,k<5->Cn k)->Xn W:=fun q=>by
  have q0:znh W:=q 0 (by decide);have q1:∀k:Int,0<=k->k<8->OI W k:=q 1 (by decide);have q2:∀t:Int,0<=t->t<12->B5 W t:=q 2 (by decide);exact ⟨q0.wa q1,fun t h0 h1=>(q2 t h0 h1).1,q 3 (by decide),q 4 (by decide)⟩
 have cond:∀k:Nat,k<5->(∀j:Nat,j<k->Cn j)->∀{w1:World},Q0 [] wb w1->∃F:FuncId,(#[.func (.func X0) #[] #[],.func (.func YC) #[] #[],.func (.func X1) #[] #[],.func (.func Yv) #[] #[],.func (.func X6) #[] #[]]:Array Value)[k]? = some (.func (.func F) #[] #[])/\(∀(w:World) (x:Value),(zc7 (.func (.func F) #[] #[]) [x]).run Tryz.prog w = .ok (.enter F #[x]) w)/\∃rv:Bool,(rv=true↔Cn k)/\PX [b1] F #[.pointer (some ⟨b,0,none⟩)] w1 (.bool rv):=fun k hk hj {w1} hx=>by
  have hp:=hP (bs:=[b1]) hx (by simpa using hb1);have:k=0\/k=1\/k=2\/k=3\/k=4:=by omega
  rcases this with rfl | rfl | rfl | rfl | rfl
  ·exact ⟨_,rfl,fun _ _=>rfl,_,Qi,N9 hp lc lg⟩
  ·have q0:znh W:=hj 0 (by decide);exact ⟨_,rfl,fun _ _=>rfl,_,Qi,F9 hp q0 hf⟩
  ·have q0:znh W:=hj 0 (by decide);have q1:∀k:Int,0<=k->k<8->OI W k:=hj 1 (by decide);exact ⟨_,rfl,fun _ _=>rfl,_,Qi,Na hp (q0.wa q1) lg⟩
  ·have q0:znh W:=hj 0 (by decide);have q1:∀k:Int,0<=k->k<8->OI W k:=hj 1 (by decide);exact ⟨_,rfl,fun _ _=>rfl,_,Qi,D6 hp (q0.wa q1) hf⟩
  ·have q0:znh W:=hj 0 (by decide);have q1:∀k:Int,0<=k->k<8->OI W k:=hj 1 (by decide);have q2:∀t:Int,0<=t->t<12->B5 W t:=hj 2 (by decide);have q3:∀k c:Int,0<=k->k<8->0<=c->c<((gi W.groups k).shelves.length:Int)->OJ W k c:=hj 3 (by decide);exact ⟨_,rfl,fun _ _=>rfl,_,Qi,AW hp (q0.wa q1) (fun t h0 h1=>(q2 t h0 h1).1) q3⟩
 refine ⟨fun vs w1=>∃k:Nat,vs=[.bool true,.int .i64 (k:Int)]/\k<=5/\Q0 [] wb w1/\∀j:Nat,j<k->Cn j,Zw 5 1,fun wr hx _=>⟨0,rfl,by omega,hx,fun j hj=>absurd hj (Nat.not_lt_zero j)⟩,?_⟩;rintro ok x w1 hs1 ⟨k,he,hk,hX,hI⟩;simp only [List.cons.injEq,Value.int.injEq,Value.bool.injEq,true_and,and_true] at he;obtain ⟨rfl,rfl⟩:=he
 have fr:∀{w2:World},Q0 [b1] w1 w2->Q0 [] wb w2:=fun {w2} hx=>hX.fresh hx fun y hm=>.inl (by
  have:y=b1:=by simpa using hm
  omega)
 refine ⟨fun hlt => ?_,fun hge wr hx=>⟨?_,hxb.trans (fr hx)⟩⟩
 ·have hlt:=of_decide_eq_true hlt;obtain ⟨F,hF,_⟩:=cond k (by omega) hI hX;refine ⟨.func F,#[],#[],⟨by omega,by omega,by rw [Int.toNat_natCast]; exact hF⟩,fun wr1 hx1 hs2 => ?_⟩;obtain ⟨F',hF',hcv,rv,hrv,hpu⟩:=cond k (by omega) hI (fr hx1);rw [hF] at hF';simp only [Option.some.injEq,Value.func.injEq,Fn.func.injEq,and_self,and_true] at hF';subst hF';refine .inl ⟨F,#[.pointer (some ⟨b,0,none⟩)],?_,?_⟩
  ·exact hcv _ _
  ·refine (hpu wr1 (Q0.refl _ _)).mono fun e w3 ⟨he,hx3⟩=>⟨rv,he,Qe hx3 hs2,fun g wr2 hx4=>⟨?_,hxb.trans ((fr hx1).trans hx3 |>.fresh hx4 fun y hm=>.inl (by
    have:y=b1:=by simpa using hm
    omega))⟩,fun g=>⟨⟨by omega,by omega⟩,fun wr3 hx4 _=>⟨⟨k+1,by simp,by omega,((fr hx1).trans hx3).fresh hx4 fun y hm=>.inl (by
    have:y=b1:=by simpa using hm
    omega),fun j hj => ?_⟩,QU (k:=k) rfl rfl (by omega)⟩⟩⟩
   ·have g:rv=false:=by simpa using g
    exact Mf fun q=>by
     rw [hrv.2 (all q k (by omega))] at g; cases g
   ·by_cases hjk:j<k
    ·exact hI j hjk
    ·have:j=k:=by omega
     subst this;exact hrv.1 (by simpa using g)
 ·have hge:=of_decide_eq_false hge;have:k=5:=by omega
  subst this;exact ze1 (back hI)
end
theorem Kg:zj9 Tryz.prog Md 5 Zt 40 (⟨false,0,0,0,0⟩:Ow):=Lw (by kernel_rfl) fun _=>rfl
theorem L7:Tryz.prog.underlying Y0=some (.slice Zt):=by kernel_rfl
theorem TP:zj9 Tryz.prog YJ 9 QK 72 (⟨0,0,0,0,0,0,0,0,0⟩:OY):=Lw (by kernel_rfl) fun _=>rfl
theorem K7:Tryz.prog.underlying Ze=some (.slice QK):=by kernel_rfl
section
variable {W:Q8} {m:MW} {w w':World}
structure zp8 (base:Nat) (w:World) (W:Q8) (m:MW):Prop where
 c:Jr Md 5 Zt base w m.cO m.cC W.cpus
 t:Jr YJ 9 QK base w m.tO m.tC W.tasks
 g:∃ps:List (Zv×MG),ps.map (·.1)=W.groups/\(fun k:Nat=>(gi ps (k:Int)).2)=m.ms/\Py base w m.gO m.gC ps
theorem zp8.mono {base base':Nat} (h:zp8 base w W m) (hb:base'<=base):zp8 base' w W m:=
 ⟨h.c.mono hb,h.t.mono hb,by
  obtain ⟨ps,h1,h2,h3⟩:=h.g;exact ⟨ps,h1,h2,h3.mono hb⟩⟩
end
structure Sc (w0:World) (bs:List Nat) (w:World):Prop where
 ext:Q0 [] w0 w
 new:∀x∈bs,w0.heap.size<=x
theorem Sc.start (w:World):Sc w [] w:=⟨Q0.refl _ _,by simp⟩
theorem Sc.step {w0:World} {bs:List Nat} {w w':World} (h:Sc w0 bs w) (hx:Q0 bs w w'):Sc w0 bs w':=⟨h.ext.fresh hx fun x hm=>.inl (h.new x hm),h.new⟩
theorem Sc.call {w0:World} {bs cs:List Nat} {w w':World} (h:Sc w0 bs w) (hx:Q0 cs w w') (hc:∀x∈cs,w0.heap.size<=x):Sc w0 bs w':=⟨h.ext.fresh hx fun x hm=>.inl (hc x hm),h.new⟩
theorem Sc.call0 {w0:World} {bs:List Nat} {w w':World} (h:Sc w0 bs w) (hx:Q0 [] w w'):Sc w0 bs w':=⟨h.ext.trans hx,h.new⟩
theorem Sc.add {w0:World} {bs:List Nat} {w:World} {b:Nat} (h:Sc w0 bs w) (hb:w.heap.size<=b):Sc w0 (bs++[b]) w:=⟨h.ext,fun x hm=>by
 rcases List.mem_append.1 hm with hm | hm
 ·exact h.new x hm
 ·have:x=b:=by simpa using hm
  have:=h.ext.size;omega⟩
theorem Sc.sub {w0:World} {bs cs:List Nat} {w:World} (h:Sc w0 bs w) (hs:∀x∈cs,x∈bs):Sc w0 cs w:=⟨h.ext,fun x hm=>h.new x (hs x hm)⟩
theorem Sc.put {w0:World} {bs:List Nat} {w w':World} {b:Nat} (h:Sc w0 bs w) (hx:Q0 bs w w') (hb:w.heap.size<=b):Sc w0 (bs++[b]) w':=⟨(h.step hx).ext,(h.add hb).new⟩
structure Ob {α:Type} (enc:α->List Value) (z:Nat) (ty:TypeId) (base:Nat) (bs:List Nat) (w:World) (o:OA) (cap:Nat) (l:List α):Prop where
 own:Jr enc z ty base w o cap l
 nb:∀x∈Qy o,x∉bs
section
variable {α:Type} {enc:α->List Value} {z:Nat} {ty:TypeId} {base:Nat} {bs cs:List Nat} {w w':World} {o:OA} {cap:Nat} {l:List α} {b:Nat}
theorem Ob.of (h:Jr enc z ty base w o cap l) (hs:∀x∈bs,x<base):Ob enc z ty base bs w o cap l:=⟨h,fun x hx hm=>by
 have:=(h.lt x hx).1;have:=hs x hm;omega⟩
theorem Ob.step (h:Ob enc z ty base bs w o cap l) (hx:Q0 bs w w'):Ob enc z ty base bs w' o cap l:=⟨h.own.ext hx h.nb,h.nb⟩
theorem Ob.call0 (h:Ob enc z ty base bs w o cap l) (hx:Q0 [] w w'):Ob enc z ty base bs w' o cap l:=⟨h.own.ext0 hx,h.nb⟩
theorem Ob.call (h:Ob enc z ty base bs w o cap l) (hx:Q0 cs w w') (hd:∀x∈Qy o,x∉cs):Ob enc z ty base bs w' o cap l:=⟨h.own.ext hx hd,h.nb⟩
theorem Ob.add (h:Ob enc z ty base bs w o cap l) (hb:w.heap.size<=b):Ob enc z ty base (bs++[b]) w o cap l:=⟨h.own,fun x hx hm=>by
 rcases List.mem_append.1 hm with hm | hm
 ·exact h.nb x hx hm
 ·have:x=b:=by simpa using hm
  have:=(h.own.lt x hx).2;omega⟩
theorem Ob.put (h:Ob enc z ty base bs w o cap l) (hx:Q0 bs w w') (hb:w.heap.size<=b):Ob enc z ty base (bs++[b]) w' o cap l:=⟨(h.step hx).own,(h.add hb).nb⟩
theorem Ob.sub (h:Ob enc z ty base bs w o cap l) (hs:∀x∈cs,x∈bs):Ob enc z ty base cs w o cap l:=⟨h.own,fun x hx hm=>h.nb x hx (hs x hm)⟩
theorem Ob.mono {base':Nat} (h:Ob enc z ty base bs w o cap l) (hb:base'<=base):Ob enc z ty base' bs w o cap l:=⟨h.own.mono hb,h.nb⟩
theorem Ob.rd [Inhabited α] (h:Ob enc z ty base bs w o cap l) (hz:∀x,(enc x).length=z):Rd enc z bs w o l:=h.own.rd hz h.nb
end
theorem Rd.scb {α:Type} [Inhabited α] {enc:α->List Value} {z:Nat} {w0:World} {bs:List Nat} {w:World} {o:OA} {l:List α} (h:Rd enc z [] w0 o l) (hs:Sc w0 bs w):Rd enc z bs w o l:=(h.wide (cs:=bs) fun x hm=>.inr (hs.new x hm)).ext hs.ext.of_nil
theorem zls {bs cs:List Nat} {w w':World} (hx:Q0 cs w w') (hs:∀b∈bs,b<w.heap.size) (hd:∀x∈cs,x∉bs):Q9 bs w w':=fun x hm=>hx.block x (hs x hm) fun hm'=>hd x hm' hm
theorem Ob.app1 {α:Type} [Inhabited α] {P:Program} {enc:α->List Value} {z:Nat} {ty t:TypeId} {bytes:Nat} {zero:α} (E:zj9 P enc z ty bytes zero) (ht:P.underlying t=some (.slice ty)) {base:Nat} {bs:List Nat} {w:World} {o:OA} {cap:Nat} {l:List α} (hO:Ob enc z ty base bs w o cap l)
  (hs:∀x∈bs,x<w.heap.size) (hbase:base<=w.heap.size) {x:α} {b:Nat} {t':TypeId} {fz:Nat×Nat} (hb:w.heap[b]? = some (.cells (enc x).toArray t' fz)) (h1:Zd (enc x)=true) (hl:l.length<=1048576) (hby:bytes<=1000) (tr:TypeId) (cs:Array Bool) :
  ∃o' cap' w',(builtin .append #[t,t] tr cs #[.slice o l.length cap,.slice (some ⟨b,0,none⟩) 1 1]).run P w = .ok (.value (.slice o' (l++[x]).length cap')) w'/\Q9 bs w w'/\Ob enc z ty base bs w' o' cap' (l++[x])/\Q0 (Qy o) w w':=by
 have hbb:(2*(l.length+1))*bytes<=281474976710656:=Nat.le_trans (Nat.mul_le_mul (show 2*(l.length+1)<=2097154 by omega) hby) (by decide);obtain ⟨o2,c2,w2,hrun,hO2,hx2,ho2⟩:=zeg E ht hO.own hb h1 hbb (by omega) tr cs hbase;refine ⟨o2,c2,w2,hrun,fun y hm=>hx2.block y (hs y hm) fun hm'=>hO.nb y hm' hm,⟨hO2,fun y hy hm => ?_⟩,hx2⟩;rcases ho2 with rfl | rfl
 ·exact hO.nb y hy hm
 ·have:y=w.heap.size:=by simpa [Qy] using hy
  have:=hs y hm;omega
def Xz (f:Nat->Int):Nat->Int
 | 0=>0
 | k+1=>Xz f k+f k
theorem Uw {f:Nat->Int} {B:Int} (h:∀j,0<=f j/\f j<=B):∀k:Nat,0<=Xz f k/\Xz f k<=(k:Int)*B
 | 0=>by simp [Xz]
 | k+1=>by
  have ih:=Uw h k;have:=h k;simp only [Xz];rw [show ((k+1:Nat):Int)*B=(k:Int)*B+B by rw [show ((k+1:Nat):Int)=(k:Int)+1 by omega,Int.add_mul,Int.one_mul]];omega
theorem Xy (n:Int):0<=Qd n/\Qd n<=20:=by
 unfold Qd;split
 ·rename_i h;have:=Qm.1 h;omega
 ·omega
def CY (W:Q8) (c:Int) (j:Nat):Int:=if (((Q7 W (j:Int)).cpu==c)&&Zr W (j:Int))=true then Qd (Q7 W (j:Int)).nice else 0
def zdq (W:Q8) (g c:Int) (j:Nat):Int:=if ((((Q7 W (j:Int)).state==1)&&((Q7 W (j:Int)).cpu==c))&&Vi 3 W.groups g (Q7 W (j:Int)).group)=true then Qd (Q7 W (j:Int)).nice else 0
theorem zqq {W:Q8} {g c:Int} {k:Nat} (h:((((Q7 W (k:Int)).state==1)&&((Q7 W (k:Int)).cpu==c))&&Vi 3 W.groups g (Q7 W (k:Int)).group)=true):zdq W g c k=Qd (Q7 W (k:Int)).nice:=if_pos h
theorem zqp {W:Q8} {g c:Int} {k:Nat} (h:((((Q7 W (k:Int)).state==1)&&((Q7 W (k:Int)).cpu==c))&&Vi 3 W.groups g (Q7 W (k:Int)).group)=false):zdq W g c k=0:=if_neg (by rw [h]; decide)
def GZ (W:Q8) (c:Int):Int:=Xz (CY W c) W.tasks.length
def N3 (W:Q8) (g c:Int):Int:=Xz (zdq W g c) W.tasks.length
theorem E7 (W:Q8) (c:Int) (j:Nat):0<=CY W c j/\CY W c j<=20:=by
 unfold CY;split
 ·exact Xy _
 ·omega
theorem N2 (W:Q8) (g c:Int) (j:Nat):0<=zdq W g c j/\zdq W g c j<=20:=by
 unfold zdq;split
 ·exact Xy _
 ·omega
def X2 (W:Q8) (c:Int):Bool:=Yn c 0 ((W.cpus.length:Int) - 1)
theorem VT {W:Q8} {c:Int} (h:X2 W c=true):0<=c/\c<(W.cpus.length:Int):=by have:=Qm.1 h; omega
theorem Xn.li {W:Q8} (wp:Xn W) {t:Int} (t0:0<=t) (t1:t<(W.tasks.length:Int)) (hs:(Q7 W t).state=1):Q6 W.groups (Q7 W t).group=true/\0<=(Q7 W t).cpu/\(Q7 W t).cpu<(W.cpus.length:Int):=by
 have:=wp.a.t;exact GY wp.a (wp.t t t0 (by omega)) hs
structure TU (W:Q8):Prop where
 a:WA W
 li:∀{t:Int},0<=t->t<(W.tasks.length:Int)->(Q7 W t).state=1->Q6 W.groups (Q7 W t).group=true/\0<=(Q7 W t).cpu/\(Q7 W t).cpu<(W.cpus.length:Int)
structure Xe (W:Q8):Prop where
 c:W.cpus.length<=maxLen
 t:W.tasks.length<=maxLen
 g:W.groups.length<=maxLen
 f:∀i:Int,0<=i->i<(W.groups.length:Int)->zan (gi W.groups i)
section
variable {W:Q8} {m:MW} {w:World} {bs:List Nat} {p:OA}
theorem V2 {c:Int} (h:Xf bs w W m) (wp:Xn W):PX bs X3 #[.agg (Qa W m).toArray,.int .i64 c] w (.int .i64 (GZ W c)):=
 NF W.now m.cO W.cpus.length m.cC m.tO W.tasks.length m.tC m.gO W.groups.length m.gC c fun wr hx=>by
  have h:=(h.ext hx).less (cs:=[]) (by simp);have htl:=wp.a.t;intro _ _;refine T6 W.tasks.length 0 rfl (fun x k=>k<=W.tasks.length/\x=Xz (CY W c) k) ⟨Nat.zero_le _,rfl⟩ fun x k ⟨hk,hx2⟩=>⟨fun hlt => ?_,fun hge => ?_⟩
  ·have hlt:=of_decide_eq_true hlt;have hr:=Uw (E7 W c) k;have hw:=Xy (Q7 W (k:Int)).nice;have eF:CY W c k=if (((Q7 W (k:Int)).cpu==c)&&Zr W (k:Int))=true then Qd (Q7 W (k:Int)).nice else 0:=rfl;refine ⟨h.t.ix Qz (by omega) hlt,_,h.t.f (by omega) hlt (j:=0) rfl,fun _=>h.t.ix Qz (by omega) hlt,_,fun _=>h.t.f (by omega) hlt (j:=2) rfl,Zr W (k:Int),fun _=>U6 h wp.a (by omega) hlt fun hs=>wp.li (by omega) hlt hs,fun g2=>⟨h.t.ix Qz (by omega) hlt,_,h.t.f (by omega) hlt (j:=3) rfl,Qd (Q7 W (k:Int)).nice,Zu,⟨by omega,by omega⟩,⟨by omega,by omega⟩,Qx (by omega) ⟨by omega,?_⟩⟩,fun g2=>⟨⟨by omega,by omega⟩,Qx (by omega) ⟨by omega,?_⟩⟩⟩
   ·have g2:((((Q7 W (k:Int)).state==1)&&((Q7 W (k:Int)).cpu==c))&&Zr W (k:Int))=true:=g2;simp only [Bool.and_eq_true] at g2;simp only [Xz]; rw [eF,if_pos (by rw [g2.1.2,g2.2]; rfl),hx2]
   ·have g2:((((Q7 W (k:Int)).state==1)&&((Q7 W (k:Int)).cpu==c))&&Zr W (k:Int))=false:=g2
    simp only [Xz]; rw [eF,if_neg (fun hc=>by
     simp only [Bool.and_eq_true] at hc;have hl:=hc.2;unfold Zr at hl;simp only [Bool.and_eq_true] at hl;rw [hc.1,hc.2,hl.1] at g2
     cases g2),hx2]; omega
  ·have hge:=of_decide_eq_false hge;have:k=W.tasks.length:=by omega
   subst this;rw [hx2]; rfl
theorem Pg {g c:Int} (h:Xf bs w W m) (wp:TU W) (hl:Xe W) (hu:Q6 W.groups g=true):PX bs J6 #[.agg (Qa W m).toArray,.int .i64 g,.int .i64 c] w (.int .i64 (N3 W g c)):=
 DF W.now m.cO W.cpus.length m.cC m.tO W.tasks.length m.tC m.gO W.groups.length m.gC g c fun wr hx=>by
  have h:=(h.ext hx).less (cs:=[]) (by simp);have htl:=wp.a.t;intro _ _;refine T6 W.tasks.length 0 rfl (fun x k=>k<=W.tasks.length/\x=Xz (zdq W g c) k) ⟨Nat.zero_le _,rfl⟩ fun x k ⟨hk,hx2⟩=>⟨fun hlt => ?_,fun hge => ?_⟩
  ·have hlt:=of_decide_eq_true hlt;have hr:=Uw (N2 W g c) k;have hw:=Xy (Q7 W (k:Int)).nice
   have hun:(((Q7 W (k:Int)).state==1)&&((Q7 W (k:Int)).cpu==c))=true->Tu W.groups g (Q7 W (k:Int)).group=Vi 3 W.groups g (Q7 W (k:Int)).group:=fun q=>by
    simp only [Bool.and_eq_true,beq_iff_eq] at q;unfold Tu;rw [UC.2 wp.a.tree,hu,(wp.li (by omega) hlt q.1).1]; rfl
   have eF:zdq W g c k=if ((((Q7 W (k:Int)).state==1)&&((Q7 W (k:Int)).cpu==c))&&Vi 3 W.groups g (Q7 W (k:Int)).group)=true then Qd (Q7 W (k:Int)).nice else 0:=rfl
   have e2:((((Q7 W (k:Int)).state==1)&&((Q7 W (k:Int)).cpu==c))&&Vi 3 W.groups g (Q7 W (k:Int)).group)=((((Q7 W (k:Int)).state==1)&&((Q7 W (k:Int)).cpu==c))&&Tu W.groups g (Q7 W (k:Int)).group):=by
    cases hq:(((Q7 W (k:Int)).state==1)&&((Q7 W (k:Int)).cpu==c)) with
    | false=>rfl
    | true=>rw [hun hq]
   refine ⟨h.t.ix Qz (by omega) hlt,_,_,_,_,_,_,_,_,_,h.t k (by omega) hlt,fun _ _=>⟨Tu W.groups g (Q7 W (k:Int)).group,fun _=>VJ h.g hl.g,fun g2=>⟨Qd (Q7 W (k:Int)).nice,Zu,⟨by omega,by omega⟩,⟨by omega,by omega⟩,Qx (by omega) ⟨by omega,?_⟩⟩,fun g2=>⟨⟨by omega,by omega⟩,Qx (by omega) ⟨by omega,?_⟩⟩⟩⟩
   ·simp only [Xz]; rw [zqq (W:=W) (g:=g) (c:=c) (k:=k) (e2.trans g2),hx2]
   ·simp only [Xz]; rw [zqp (W:=W) (g:=g) (c:=c) (k:=k) (e2.trans g2),hx2]; omega
  ·have hge:=of_decide_eq_false hge;have:k=W.tasks.length:=by omega
   subst this;rw [hx2]; rfl
theorem zrj {b:Nat} {wb w1:World} {t:TypeId} (hcell:wb.heap[b]? = some (.cells (Qa W m).toArray t (0,0))) (h:Xf [] wb W m) (hx:Q0 [] wb w1) (hbs:∀x∈bs,wb.heap.size<=x):PD bs w1 (some ⟨b,0,none⟩) W m:=by
 have hbn:b∉bs:=fun hm=>by
  have:=hbs b hm;have:=Vn hcell;omega
 have hrd:Xf bs w1 W m:=(h.wide (cs:=bs) fun x hm=>.inr (hbs x hm)).ext hx.of_nil;exact ⟨PE (VS hcell hx (by simp)) hbn (k0:=0) fun j v hj=>by rw [Nat.zero_add,Nat.zero_add]; exact hj,hrd⟩
end
def zji (k:Int):Ow:=⟨Int.tmod (k) 3==0,k+1,k+1+1,k+1+1+1,k+1+1+1+1⟩
theorem Jr.same {α:Type} {enc:α->List Value} {z:Nat} {ty:TypeId} {base:Nat} {w:World} {o:OA} {cap:Nat} {l l':List α} (h:Jr enc z ty base w o cap l) (he:l'.flatMap enc=l.flatMap enc) (hl:l'.length=l.length):Jr enc z ty base w o cap l':=by
 rcases h with ⟨h1,rfl,h3⟩ | ⟨b,sp,rfl,h1,h2,h3,h4⟩
 ·exact .inl ⟨h1,List.eq_nil_of_length_eq_zero hl,h3⟩
 ·exact .inr ⟨b,sp,rfl,h1,by rw [he]; exact h2,by rw [he]; exact h3,by omega⟩
theorem KU {α:Type} {enc:α->List Value}:∀(l:List α) (i:Nat) (x:α),(∀y,l[i]? = some y->enc x=enc y)->(l.set i x).flatMap enc=l.flatMap enc
 | [],_,_,_=>rfl
 | y::r,0,x,h=>by simp only [List.set_cons_zero,List.flatMap_cons]; rw [h y rfl]
 | y::r,i+1,x,h=>by
  simp only [List.set_cons_succ,List.flatMap_cons];rw [KU r i x fun z hz=>h z (by simpa using hz)]
theorem zqo {α:Type} [Inhabited α] {l:List α} {i:Int} (h0:0<=i) (hi:i<(l.length:Int)):l[i.toNat]? = some (gi l i):=by
 obtain ⟨k,rfl⟩:=Int.eq_ofNat_of_zero_le h0;rw [Int.toNat_natCast];exact zn5 (by omega)
section
variable {base:Nat} {w w':World} {o:OA} {cap:Nat} {ps:List (Zv×MG)}
theorem Py.foreign {α:Type} {enc:α->List Value} {z:Nat} {ty:TypeId} {base' cap':Nat} {o':OA} {l:List α} (h:Py base w o cap ps) (h':Jr enc z ty base' w o' cap' l)
  (n1:QM≠ty) (n2:Qc≠ty) (n3:Yy≠ty) (n4:Ym≠ty) (hx:Q0 (Qy o') w w'):Py base w' o cap ps:=
 ⟨h.row.ext hx (h.row.ty_ne h' n1),fun i a b=>(h.each i a b).ext hx fun x hm=>by
  simp only [Qr,List.mem_append] at hm;rcases hm with (hm | hm) | hm
  ·exact (h.each i a b).loc.ty_ne h' n2 x hm
  ·exact (h.each i a b).dry.ty_ne h' n3 x hm
  ·exact (h.each i a b).shl.ty_ne h' n4 x hm,h.dj⟩
theorem Py.sto (h:Py base w o cap ps) {i:Int} (h0:0<=i) (hi:i<(ps.length:Int)) {p:Zv×MG} (hp:Pz base w p)
  (hd:∀j:Int,0<=j->j<(ps.length:Int)->i≠j->∀b∈Qr (gi ps j).2,b∉Qr p.2) {j:Nat} {vs:List Value}
  (he:TQ p=(TQ (gi ps i)).take j++vs++(TQ (gi ps i)).drop (j+vs.length)) (hj:j+vs.length<=14):Py base (Go.Proofs.YtclpmgfpjeaibaaGreat.sto w o (Int.toNat i*14+j) vs) o cap (ps.set i.toNat p):=by
 have hx:=h.row.stoX (Int.toNat i*14+j) vs;have hlen:(ps.set i.toNat p).length=ps.length:=List.length_set;refine ⟨h.row.sto YI.len h0 hi he hj,fun k hk hkl => ?_,fun a k ha hal hk hkl hak b hb hb' => ?_⟩
 ·rw [hlen] at hkl;rw [Qw _ _ h0 hi hk];split
  ·exact hp.ext hx (XA h.row hp)
  ·exact (h.each k hk hkl).ext hx (XA h.row (h.each k hk hkl))
 ·rw [hlen] at hal hkl;rw [Qw _ _ h0 hi ha] at hb;rw [Qw _ _ h0 hi hk] at hb'
  by_cases e1:i=a
  ·rw [if_pos e1] at hb
   by_cases e2:i=k
   ·omega
   ·rw [if_neg e2] at hb';exact hd k hk hkl e2 b hb' hb
  ·rw [if_neg e1] at hb
   by_cases e2:i=k
   ·rw [if_pos e2] at hb';exact hd a ha hal e1 b hb hb'
   ·rw [if_neg e2] at hb';exact h.dj a k ha hal hk hkl hak b hb hb'
theorem Py.in (h:Py base w o cap ps) {i:Int} (h0:0<=i) (hi:i<(ps.length:Int)) {p:Zv×MG} {bs:List Nat} (hx:Q0 bs w w') (hb:∀x∈bs,x∈Qr (gi ps i).2)
  (hp:Pz base w' p) (hm:p.2=(gi ps i).2) (he:TQ p=TQ (gi ps i)):Py base w' o cap (ps.set i.toNat p):=by
 have hlen:(ps.set i.toNat p).length=ps.length:=List.length_set;refine ⟨?_,fun k hk hkl => ?_,fun a k ha hal hk hkl hak b hb1 hb' => ?_⟩
 ·refine (h.row.ext hx fun b hb1 hb2=>XA h.row (h.each i h0 hi) b (hb b hb2) hb1).same (KU _ _ _ fun y hy => ?_) hlen;rw [zqo h0 hi] at hy;cases hy;exact he
 ·rw [hlen] at hkl;rw [Qw _ _ h0 hi hk];split
  ·exact hp
  ·rename_i hne;exact (h.each k hk hkl).ext hx fun b hb1 hb2=>h.dj i k h0 hi hk hkl hne b (hb b hb2) hb1
 ·rw [hlen] at hal hkl;rw [Qw _ _ h0 hi ha] at hb1;rw [Qw _ _ h0 hi hk] at hb'
  have e1:b∈Qr (gi ps a).2:=by
   by_cases e:i=a
   ·rw [if_pos e,hm,e] at hb1; exact hb1
   ·rw [if_neg e] at hb1; exact hb1
  have e2:b∈Qr (gi ps k).2:=by
   by_cases e:i=k
   ·rw [if_pos e,hm,e] at hb'; exact hb'
   ·rw [if_neg e] at hb'; exact hb'
  exact h.dj a k ha hal hk hkl hak b e1 e2
end
def zju (W:Q8) (m:MW):List (Zv×MG):=(List.range W.groups.length).map fun (k:Nat)=>(gi W.groups (k:Int),m.ms k)
theorem Xc (W:Q8) (m:MW):(zju W m).length=W.groups.length:=by simp [zju]
theorem V8 {W:Q8} {m:MW} {i:Int} (h0:0<=i) (hi:i<(W.groups.length:Int)):gi (zju W m) i=(gi W.groups i,m.ms i.toNat):=by
 obtain ⟨k,rfl⟩:=Int.eq_ofNat_of_zero_le h0;rw [JD (by rw [Xc]; omega)];simp [zju]
def QL (n:Nat) (m:MW):List Nat:=Qy m.cO++Qy m.tO++Qy m.gO++(List.range n).flatMap fun (k:Nat)=>Qr (m.ms k)
structure Yf (n base:Nat) (w:World) (W:Q8) (m:MW):Prop where
 c:Jr Md 5 Zt base w m.cO m.cC W.cpus
 t:Jr YJ 9 QK base w m.tO m.tC W.tasks
 g:Py base w m.gO m.gC (zju W m)
 len:W.groups.length=n
section
variable {n base:Nat} {w w':World} {W:Q8} {m:MW} {bs:List Nat}
theorem Do {x:Nat} (h:x∈Qy m.cO):x∈QL n m:=by simp [QL,h]
theorem Dq {x:Nat} (h:x∈Qy m.tO):x∈QL n m:=by simp [QL,h]
theorem Dp {x:Nat} (h:x∈Qy m.gO):x∈QL n m:=by simp [QL,h]
theorem Jl {x k:Nat} (hk:k<n) (h:x∈Qr (m.ms k)):x∈QL n m:=by
 unfold QL;exact List.mem_append_right _ (List.mem_flatMap.2 ⟨k,List.mem_range.2 hk,h⟩)
theorem Ec {x:Nat} (h:x∈QL n m):x∈Qy m.cO\/x∈Qy m.tO\/x∈Qy m.gO\/∃k,k<n/\x∈Qr (m.ms k):=by
 unfold QL at h;simp only [List.mem_append,List.mem_flatMap,List.mem_range] at h;rcases h with ((h | h) | h) | ⟨k,hk,h⟩
 ·exact .inl h
 ·exact .inr (.inl h)
 ·exact .inr (.inr (.inl h))
 ·exact .inr (.inr (.inr ⟨k,hk,h⟩))
theorem Yf.each (h:Yf n base w W m) {i:Int} (h0:0<=i) (hi:i<(n:Int)):Pz base w (gi W.groups i,m.ms i.toNat):=by
 have:=h.g.each i h0 (by rw [Xc,h.len]; exact hi)
 rwa [V8 h0 (by rw [h.len]; exact hi)] at this
theorem Yf.lt (h:Yf n base w W m):∀x∈QL n m,base<=x/\x<w.heap.size:=fun x hx=>by
 rcases Ec hx with hx | hx | hx | ⟨k,hk,hx⟩
 ·exact h.c.lt x hx
 ·exact h.t.lt x hx
 ·exact h.g.row.lt x hx
 ·exact (h.each (i:=(k:Int)) (by omega) (by omega)).lt x (by simpa using hx)
theorem Yf.ext (h:Yf n base w W m) (hx:Q0 bs w w') (hd:∀x∈QL n m,x∉bs):Yf n base w' W m:=
 ⟨h.c.ext hx fun b hb=>hd b (Do hb),h.t.ext hx fun b hb=>hd b (Dq hb),
  ⟨h.g.row.ext hx fun b hb=>hd b (Dp hb),fun i a b=>by
   have b':i<(W.groups.length:Int):=by rw [Xc] at b; exact b
   have hl:=h.len;refine (h.g.each i a b).ext hx fun x hm => ?_
   rw [V8 a b'] at hm;exact hd x (Jl (by omega) hm),h.g.dj⟩,h.len⟩
theorem Yf.ext0 (h:Yf n base w W m) (hx:Q0 [] w w'):Yf n base w' W m:=h.ext hx (by simp)
theorem Yf.mono {base':Nat} (h:Yf n base w W m) (hb:base'<=base):Yf n base' w W m:=⟨h.c.mono hb,h.t.mono hb,h.g.mono hb,h.len⟩
theorem Yf.rd (h:Yf n base w W m) (hd:∀x∈QL n m,x∉bs):Xf bs w W m:=by
 have hl:=h.len;refine ⟨h.c.rd Kg.len fun b hb=>hd b (Do hb),h.t.rd TP.len fun b hb=>hd b (Dq hb),⟨fun i h0 hi => ?_,fun i h0 hi => ?_,fun i h0 hi => ?_,fun i h0 hi => ?_⟩⟩
 ·have:=h.g.row.rd YI.len (bs:=bs) (fun b hb=>hd b (Dp hb)) i h0 (by rw [Xc]; exact hi)
  rwa [V8 h0 hi] at this
 ·exact (h.each h0 (by omega)).loc.rd Yg.len fun b hb=>hd b (Jl (k:=i.toNat) (by omega) (by simp [Qr]; exact .inl hb))
 ·exact (h.each h0 (by omega)).dry.rd X5.len fun b hb=>hd b (Jl (k:=i.toNat) (by omega) (by simp [Qr]; exact .inr (.inl hb)))
 ·exact (h.each h0 (by omega)).shl.rd Vq.len fun b hb=>hd b (Jl (k:=i.toNat) (by omega) (by simp [Qr]; exact .inr (.inr hb)))
theorem Yf.stoT (h:Yf n base w W m) {i:Int} (h0:0<=i) (hi:i<(W.tasks.length:Int)) {j:Nat} {vs:List Value} {x:OY} (he:YJ x=(YJ (gi W.tasks i)).take j++vs++(YJ (gi W.tasks i)).drop (j+vs.length)) (hj:j+vs.length<=9) :
  Yf n base (sto w m.tO (Int.toNat i*9+j) vs) { W with tasks:=W.tasks.set i.toNat x } m:=
 ⟨h.c.ext (h.t.stoX _ _) (h.c.ty_ne h.t (by decide)),h.t.sto TP.len h0 hi he hj,h.g.foreign h.t (by decide) (by decide) (by decide) (by decide) (h.t.stoX _ _),h.len⟩
theorem Yf.stoC (h:Yf n base w W m) {i:Int} (h0:0<=i) (hi:i<(W.cpus.length:Int)) {j:Nat} {vs:List Value} {x:Ow} (he:Md x=(Md (gi W.cpus i)).take j++vs++(Md (gi W.cpus i)).drop (j+vs.length)) (hj:j+vs.length<=5) :
  Yf n base (sto w m.cO (Int.toNat i*5+j) vs) { W with cpus:=W.cpus.set i.toNat x } m:=
 ⟨h.c.sto Kg.len h0 hi he hj,h.t.ext (h.c.stoX _ _) (h.t.ty_ne h.c (by decide)),h.g.foreign h.c (by decide) (by decide) (by decide) (by decide) (h.c.stoX _ _),h.len⟩
def TH (m:MW) (k:Nat) (p:MG):MW:={ m with ms:=fun j=>if k=j then p else m.ms j }
theorem z9 (m:MW) (k:Nat):TH m k (m.ms k)=m:=by
 unfold TH
 have:(fun j=>if k=j then m.ms k else m.ms j)=m.ms:=by
  funext j
  split
  ·rename_i e; rw [e]
  ·rfl
 rw [this]
theorem zch {i:Int} (h0:0<=i) (hi:i<(W.groups.length:Int)) (g:Zv) (p:MG):zju { W with groups:=W.groups.set i.toNat g } (TH m i.toNat p)=(zju W m).set i.toNat (g,p):=by
 refine zlb (by rw [Xc,List.length_set,List.length_set,Xc]) fun k hk => ?_
 rw [Xc,List.length_set] at hk;rw [V8 (by omega) (by rw [List.length_set]; omega),Qw _ _ h0 hi (by omega),Qw _ _ h0 (by rw [Xc]; exact hi) (by omega)];simp only [TH]
 by_cases e:i=(k:Int)
 ·rw [if_pos e,if_pos e,if_pos (by omega)]
 ·rw [if_neg e,if_neg e,if_neg (by omega),V8 (by omega) (by omega)]
theorem Yf.foreignM {p:MG} (h:Yf n base w W m) {i:Int} (hn:∀x∈Qr p,x∉QL n m\/x∈Qr (m.ms i.toNat)) (h0:0<=i) (hi:i<(n:Int)):∀j:Int,0<=j->j<((zju W m).length:Int)->i≠j->∀b∈Qr (gi (zju W m) j).2,b∉Qr p:=fun j hj hjl hij b hb hb'=>by
 have hl:=h.len;rw [Xc] at hjl;have hb2:=hb;rw [V8 hj hjl] at hb;rcases hn b hb' with h1 | h1
 ·exact h1 (Jl (by omega) hb)
 ·have:=h.g.dj i j h0 (by rw [Xc]; omega) hj (by rw [Xc]; exact hjl) hij b (by rw [V8 h0 (by omega)]; exact h1);exact this hb2
theorem Yf.stoG (h:Yf n base w W m) {i:Int} (h0:0<=i) (hi:i<(n:Int)) {g:Zv} {p:MG} (hp:Pz base w (g,p)) (hn:∀x∈Qr p,x∉QL n m\/x∈Qr (m.ms i.toNat)) {j:Nat} {vs:List Value}
  (he:Yo g p=(Yo (gi W.groups i) (m.ms i.toNat)).take j++vs++(Yo (gi W.groups i) (m.ms i.toNat)).drop (j+vs.length)) (hj:j+vs.length<=14) :
  Yf n base (sto w m.gO (Int.toNat i*14+j) vs) { W with groups:=W.groups.set i.toNat g } (TH m i.toNat p):=by
 have hl:=h.len;have hx:=h.g.row.stoX (Int.toNat i*14+j) vs;refine ⟨h.c.ext hx (h.c.ty_ne h.g.row (by decide)),h.t.ext hx (h.t.ty_ne h.g.row (by decide)),?_,by rw [List.length_set]; exact hl⟩;have:=h.g.sto h0 (by rw [Xc]; omega) hp (h.foreignM hn h0 hi) (j:=j) (vs:=vs) (by rw [V8 h0 (by omega)]; exact he) hj;rw [zch h0 (by omega)];exact this
theorem Yf.stoG0 (h:Yf n base w W m) {i:Int} (h0:0<=i) (hi:i<(n:Int)) {g:Zv} (e1:g.band.locals=(gi W.groups i).band.locals) (e2:g.band.dry=(gi W.groups i).band.dry) (e3:g.shelves=(gi W.groups i).shelves) {j:Nat} {vs:List Value}
  (he:Yo g (m.ms i.toNat)=(Yo (gi W.groups i) (m.ms i.toNat)).take j++vs++(Yo (gi W.groups i) (m.ms i.toNat)).drop (j+vs.length)) (hj:j+vs.length<=14) :
  Yf n base (sto w m.gO (Int.toNat i*14+j) vs) { W with groups:=W.groups.set i.toNat g } m:=by
 have hm:=h.each h0 hi;have:=h.stoG h0 hi (g:=g) (p:=m.ms i.toNat) ⟨by rw [e1]; exact hm.loc,by rw [e2]; exact hm.dry,by rw [e3]; exact hm.shl⟩ (fun x hx=>.inr hx) he hj
 rwa [z9] at this
theorem Yf.in (h:Yf n base w W m) {i:Int} (h0:0<=i) (hi:i<(n:Int)) {g:Zv} (hx:Q0 bs w w') (hb:∀x∈bs,x∈Qr (m.ms i.toNat)) (hp:Pz base w' (g,m.ms i.toNat)) (he:Yo g (m.ms i.toNat)=Yo (gi W.groups i) (m.ms i.toNat)) :
  Yf n base w' { W with groups:=W.groups.set i.toNat g } m:=by
 have hl:=h.len;have hmi:=h.each h0 hi
 have hf:∀{α:Type} {enc:α->List Value} {z:Nat} {ty:TypeId} {base' cap':Nat} {o':OA} {l:List α},Jr enc z ty base' w o' cap' l->ty≠Qc->ty≠Yy->ty≠Ym->∀b∈Qy o',b∉bs:=fun ho n1 n2 n3 b hb1 hb2=>by
  have hm:=hb b hb2;simp only [Qr,List.mem_append] at hm;rcases hm with (hm | hm) | hm
  ·exact ho.ty_ne hmi.loc n1 b hb1 hm
  ·exact ho.ty_ne hmi.dry n2 b hb1 hm
  ·exact ho.ty_ne hmi.shl n3 b hb1 hm
 refine ⟨h.c.ext hx (hf h.c (by decide) (by decide) (by decide)),h.t.ext hx (hf h.t (by decide) (by decide) (by decide)),?_,by rw [List.length_set]; exact hl⟩;have:=h.g.in h0 (by rw [Xc]; omega) (p:=(g,m.ms i.toNat)) hx (by rw [V8 h0 (by omega)]; exact hb) hp (by rw [V8 h0 (by omega)]) (by rw [V8 h0 (by omega)]; exact he);have hs:=zch (m:=m) h0 (W:=W) (by omega) g (m.ms i.toNat);rw [z9] at hs;rw [hs];exact this
theorem zpj (W:Q8) (i:Int) (c:Int) (x:Ma) (mg:MG):Yo { gi W.groups i with shelves:=(gi W.groups i).shelves.set c.toNat x } mg=Yo (gi W.groups i) mg:=by
 simp [Yo]
theorem Yf.stoS (h:Yf n base w W m) {i c:Int} (h0:0<=i) (hi:i<(n:Int)) (c0:0<=c) (c1:c<((gi W.groups i).shelves.length:Int)) {j:Nat} {vs:List Value} {x:Ma}
  (he:P4 x=(P4 (gi (gi W.groups i).shelves c)).take j++vs++(P4 (gi (gi W.groups i).shelves c)).drop (j+vs.length)) (hj:j+vs.length<=5) :
  Yf n base (sto w (m.ms i.toNat).sO (Int.toNat c*5+j) vs) { W with groups:=W.groups.set i.toNat { gi W.groups i with shelves:=(gi W.groups i).shelves.set c.toNat x } } m:=by
 have hm:=h.each h0 hi;have hx:=hm.shl.stoX (Int.toNat c*5+j) vs;exact h.in h0 hi hx (fun x hx=>by simp [Qr]; exact .inr (.inr hx)) ⟨hm.loc.ext hx (hm.loc.ty_ne hm.shl (by decide)),hm.dry.ext hx (hm.dry.ty_ne hm.shl (by decide)),hm.shl.sto Vq.len c0 c1 he hj⟩ (zpj _ _ _ _ _)
end
structure Mv (n base:Nat) (bs:List Nat) (w0:World) (m0:MW) (w:World) (W:Q8) (m:MW):Prop where
 own:Yf n base w W m
 ext:Q0 (QL n m0) w0 w
 sub:∀x∈QL n m,x∈QL n m0\/w0.heap.size<=x
 hd:m={ m0 with ms:=m.ms }
 nb:∀x∈QL n m,x∉bs
 new:∀x∈bs,w0.heap.size<=x
section
variable {n base:Nat} {bs cs:List Nat} {w0 w w':World} {W W':Q8} {m0 m m':MW} {b:Nat}
theorem Mv.start (h:Yf n base w W m):Mv n base [] w m w W m:=⟨h,Q0.refl _ _,fun x hx=>.inl hx,rfl,by simp,by simp⟩
theorem Mv.add (h:Mv n base bs w0 m0 w W m) (hb:w.heap.size<=b):Mv n base (bs++[b]) w0 m0 w W m:=⟨h.own,h.ext,h.sub,h.hd,fun x hx hm=>by
 rcases List.mem_append.1 hm with hm | hm
 ·exact h.nb x hx hm
 ·have:x=b:=by simpa using hm
  have:=(h.own.lt x hx).2;omega,fun x hm=>by
 rcases List.mem_append.1 hm with hm | hm
 ·exact h.new x hm
 ·have:x=b:=by simpa using hm
  have:=h.ext.size;omega⟩
theorem Mv.sub' (h:Mv n base bs w0 m0 w W m) (hs:∀x∈cs,x∈bs):Mv n base cs w0 m0 w W m:=⟨h.own,h.ext,h.sub,h.hd,fun x hx hm=>h.nb x hx (hs x hm),fun x hm=>h.new x (hs x hm)⟩
theorem Mv.close (h:Mv n base bs w0 m0 w W m):Mv n base [] w0 m0 w W m:=h.sub' (by simp)
theorem Mv.step (h:Mv n base bs w0 m0 w W m) (hx:Q0 bs w w'):Mv n base bs w0 m0 w' W m:=⟨h.own.ext hx h.nb,h.ext.fresh hx fun x hm=>.inl (h.new x hm),h.sub,h.hd,h.nb,h.new⟩
theorem Mv.call0 (h:Mv n base bs w0 m0 w W m) (hx:Q0 [] w w'):Mv n base bs w0 m0 w' W m:=⟨h.own.ext0 hx,h.ext.trans hx.of_nil,h.sub,h.hd,h.nb,h.new⟩
theorem Mv.call (h:Mv n base bs w0 m0 w W m) (k:Mv n base [] w m w' W' m') (hs:∀x∈bs,x<w.heap.size):Mv n base bs w0 m0 w' W' m':=
 ⟨k.own,h.ext.fresh k.ext fun x hm=>(h.sub x hm).symm,fun x hx=>by
  rcases k.sub x hx with h1 | h1
  ·exact h.sub x h1
  ·have:=h.ext.size;exact .inr (by omega),by rw [k.hd,h.hd],fun x hx hm=>by
  rcases k.sub x hx with h1 | h1
  ·exact h.nb x h1 hm
  ·have:=hs x hm;omega,h.new⟩
theorem Mv.deed (h:Mv n base bs w0 m0 w W m) (k:Yf n base w' W' m) (hx:Q0 (QL n m) w w'):Mv n base bs w0 m0 w' W' m:=
 ⟨k,h.ext.fresh hx fun x hm=>(h.sub x hm).symm,h.sub,h.hd,h.nb,h.new⟩
theorem Mv.kept (h:Mv n base bs w0 m0 w W m) (k:Mv n base [] w m w' W' m') (hs:∀x∈bs,x<w.heap.size):Q9 bs w w':=fun x hm=>k.ext.block x (hs x hm) fun hm'=>h.nb x hm' hm
theorem Mv.rd (h:Mv n base bs w0 m0 w W m):Xf bs w W m:=h.own.rd h.nb
theorem Mv.rd0 (h:Mv n base bs w0 m0 w W m):Xf [] w W m:=h.own.rd (by simp)
theorem Mv.encW_eq (h:Mv n base bs w0 m0 w W m) {W0:Q8} (e0:W.now=W0.now) (e1:W.cpus.length=W0.cpus.length) (e2:W.tasks.length=W0.tasks.length) (e3:W.groups.length=W0.groups.length):Qa W m=Qa W0 m0:=by
 rw [h.hd];simp only [Qa,e0,e1,e2,e3]
end
structure OW (n base:Nat) (bs:List Nat) (w:World) (W:Q8) (m:MW):Prop where
 own:Yf n base w W m
 nb:∀x∈QL n m,x∉bs
section
variable {n base:Nat} {bs cs:List Nat} {w w':World} {W:Q8} {m:MW} {b:Nat}
theorem OW.of (h:Yf n base w W m) (hs:∀x∈bs,x<base):OW n base bs w W m:=⟨h,fun x hx hm=>by
 have:=(h.lt x hx).1;have:=hs x hm;omega⟩
theorem OW.step (h:OW n base bs w W m) (hx:Q0 bs w w'):OW n base bs w' W m:=⟨h.own.ext hx h.nb,h.nb⟩
theorem OW.call0 (h:OW n base bs w W m) (hx:Q0 [] w w'):OW n base bs w' W m:=⟨h.own.ext0 hx,h.nb⟩
theorem OW.add (h:OW n base bs w W m) (hb:w.heap.size<=b):OW n base (bs++[b]) w W m:=⟨h.own,fun x hx hm=>by
 rcases List.mem_append.1 hm with hm | hm
 ·exact h.nb x hx hm
 ·have:x=b:=by simpa using hm
  have:=(h.own.lt x hx).2;omega⟩
theorem OW.put (h:OW n base bs w W m) (hx:Q0 bs w w') (hb:w.heap.size<=b):OW n base (bs++[b]) w' W m:=⟨(h.step hx).own,(h.add hb).nb⟩
theorem OW.put2 {b2:Nat} (h:OW n base bs w W m) (hx:Q0 bs w w') (hb:w.heap.size<=b) (hb2:w.heap.size<=b2):OW n base (bs++[b]++[b2]) w' W m:=⟨(h.step hx).own,((h.add hb).add hb2).nb⟩
theorem OW.sub (h:OW n base bs w W m) (hs:∀x∈cs,x∈bs):OW n base cs w W m:=⟨h.own,fun x hx hm=>h.nb x hx (hs x hm)⟩
theorem OW.mono {base':Nat} (h:OW n base bs w W m) (hb:base'<=base):OW n base' bs w W m:=⟨h.own.mono hb,h.nb⟩
theorem OW.rd (h:OW n base bs w W m):Xf bs w W m:=h.own.rd h.nb
theorem OW.rd0 (h:OW n base bs w W m):Xf [] w W m:=h.own.rd (by simp)
end
def QI (p:Nat->Bool) (v:Nat->Int):Nat->Int
 | 0 => -1
 | k+1=>if (p k&&(decide (QI p v k<0)||decide (v k<v (QI p v k).toNat)))=true then (k:Int) else QI p v k
theorem Z8 (p:Nat->Bool) (v:Nat->Int):∀k:Nat,(QI p v k = -1/\∀j,j<k->p j=false) \/
  (0<=QI p v k/\QI p v k<(k:Int)/\p (QI p v k).toNat=true/\(∀j,j<k->p j=true->v (QI p v k).toNat<=v j)/\∀j:Nat,(j:Int)<QI p v k->p j=true->v (QI p v k).toNat<v j)
 | 0=>.inl ⟨rfl,fun j hj=>absurd hj (Nat.not_lt_zero j)⟩
 | k+1=>by
  simp only [QI];split
  ·rename_i h;simp only [Bool.and_eq_true,Bool.or_eq_true,decide_eq_true_eq] at h;refine .inr ⟨by omega,by omega,by simpa using h.1,fun j hj hp => ?_,fun j hj hp => ?_⟩
   ·rw [Int.toNat_natCast]
    by_cases hjk:j=k
    ·subst hjk; exact Int.le_refl _
    ·rcases Z8 p v k with ⟨_,h2⟩ | ⟨h1,_,_,h4,_⟩
     ·rw [h2 j (by omega)] at hp; cases hp
     ·have:=h4 j (by omega) hp;rcases h.2 with h5 | h5 <;> omega
   ·rw [Int.toNat_natCast];rcases Z8 p v k with ⟨_,h2⟩ | ⟨h1,_,_,h4,_⟩
    ·rw [h2 j (by omega)] at hp; cases hp
    ·have:=h4 j (by omega) hp;rcases h.2 with h5 | h5 <;> omega
  ·rename_i h;rcases Z8 p v k with ⟨h1,h2⟩ | ⟨h1,h2,h3,h4,h5⟩
   ·refine .inl ⟨h1,fun j hj => ?_⟩
    by_cases hjk:j=k
    ·subst hjk
     cases hp:p j with
     | false=>rfl
     | true=>
      exfalso; apply h
      rw [hp,h1]; rfl
    ·exact h2 j (by omega)
   ·refine .inr ⟨h1,by omega,h3,fun j hj hp => ?_,h5⟩
    by_cases hjk:j=k
    ·subst hjk;rcases Int.lt_or_le (v j) (v (QI p v j).toNat) with h6 | h6
     ·exfalso; apply h
      rw [hp,decide_eq_true h6]; simp
     ·exact h6
    ·exact h4 j (by omega) hp
theorem zfu {p:Nat->Bool} {v:Nat->Int} {n k:Nat} (hk:k<n) (hp:p k=true) (h0:0<=QI p v n) (hv:v k=v (QI p v n).toNat) (hb:∀j,j<k->p j=true->v j≠v (QI p v n).toNat):QI p v n=(k:Int):=by
 rcases Z8 p v n with ⟨h1,_⟩ | ⟨_,h2,h3,h4,h5⟩
 ·omega
 ·by_cases hlt:(k:Int)<QI p v n
  ·have:=h5 k hlt hp; omega
  ·by_cases hgt:QI p v n<(k:Int)
   ·exact absurd rfl (hb _ (by omega) h3)
   ·omega
def Za (W:Q8) (g c:Int) (i:Nat):Bool:=if i<12 then Te W g c i else XL W g c (i - 12)
def Zb (W:Q8) (c:Int) (i:Nat):Int:=if i<12 then (Q7 W (i:Int)).v else (Qb W ((i - 12:Nat):Int) c).v
def QE (W:Q8) (g c:Int):Int:=QI (Za W g c) (Zb W c) 20
def zhs:Nat->Q8->Int->Int->Int
 | 0,_,_,_ => -1
 | f+1,W,g,c=>if QE W g c<0 then -1 else if QE W g c<12 then QE W g c else zhs f W (QE W g c - 12) c
def Pj (W:Q8) (g c:Int):Int:=zhs (4 - dep 3 W.groups g).toNat W g c
def Ql (W:Q8) (c:Int):Int:=if (gi W.cpus c).cur>=0/\(gi W.cpus c).ran<50 then (gi W.cpus c).cur else Pj W 0 c
theorem V4 {W:Q8} {g c:Int} {i:Nat} (h:i<12):Za W g c i=Te W g c i:=if_pos h
theorem Jk {W:Q8} {g c:Int} {i:Nat}:Za W g c (12+i)=XL W g c i:=by
 unfold Za;rw [if_neg (by omega),show 12+i - 12=i by omega]
theorem Dl {W:Q8} {c:Int} {i:Nat} (h:i<12):Zb W c i=(Q7 W (i:Int)).v:=if_pos h
theorem Dk {W:Q8} {c:Int} {i:Nat}:Zb W c (12+i)=(Qb W (i:Int) c).v:=by
 unfold Zb;rw [if_neg (by omega),show 12+i - 12=i by omega]
theorem zho (W:Q8) (g c:Int):Za W g c 12=false:=by
 rw [show (12:Nat)=12+0 from rfl,Jk]; rfl
theorem Kh {W:Q8} {g c:Int} (ha:WA W) (hu:Q6 W.groups g=true) (h:12<=QE W g c):Q6 W.groups (QE W g c - 12)=true/\QE W g c - 12≠0/\dep 3 W.groups (QE W g c - 12)=dep 3 W.groups g+1/\QE W g c<20:=by
 unfold QE at *;rcases Z8 (Za W g c) (Zb W c) 20 with ⟨h1,_⟩ | ⟨h1,h2,h3,_,_⟩
 ·omega
 ·have e:(QI (Za W g c) (Zb W c) 20).toNat=12+((QI (Za W g c) (Zb W c) 20).toNat - 12):=by omega
  rw [e,Jk] at h3;unfold XL at h3;simp only [Bool.and_eq_true,decide_eq_true_eq,beq_iff_eq] at h3;obtain ⟨⟨k1,k2,k3⟩,_⟩:=h3;have ek:(((QI (Za W g c) (Zb W c) 20).toNat - 12:Nat):Int)=QI (Za W g c) (Zb W c) 20 - 12:=by omega
  rw [ek] at k2 k3;have hgl:=ha.gl;have hk:Q6 W.groups (QI (Za W g c) (Zb W c) 20 - 12)=true:=Q5.2 ⟨by omega,by omega,k2⟩;have hz:QI (Za W g c) (Zb W c) 20 - 12≠0:=by omega
  obtain ⟨_,_,_,d,e1,e2,_⟩:=ZQ ha.tree hk hz;rw [k3] at e2;exact ⟨hk,hz,by omega,by omega⟩
theorem Mt {W:Q8} (ha:WA W) {g:Int} (hu:Q6 W.groups g=true):0<=dep 3 W.groups g/\dep 3 W.groups g<=3:=by
 have hr:=Vp W.groups 3 g
 by_cases hz:g=0
 ·subst hz; rw [Y4]; omega
 ·obtain ⟨_,_,_,d,e1,_⟩:=ZQ ha.tree hu hz;omega
theorem Dt {W:Q8} (ha:WA W) {g c:Int} (hu:Q6 W.groups g=true):Pj W g c=if QE W g c<0 then -1 else if QE W g c<12 then QE W g c else Pj W (QE W g c - 12) c:=by
 have hd:=Mt ha hu;have e:(4 - dep 3 W.groups g).toNat=(3 - dep 3 W.groups g).toNat+1:=by omega
 show zhs (4 - dep 3 W.groups g).toNat W g c=_;rw [e];simp only [zhs];split
 ·rfl
 ·split
  ·rfl
  ·obtain ⟨_,_,hk,_⟩:=Kh ha hu (c:=c) (by omega);unfold Pj;rw [hk,show (4 - (dep 3 W.groups g+1))=3 - dep 3 W.groups g by omega]
section
variable {W:Q8} {m:MW} {w:World} {bs:List Nat} {p:OA}
def Z5 (W:Q8) (g c:Int) (k:Nat):Int:=if QI (Za W g c) (Zb W c) k<0 then 0 else Zb W c (QI (Za W g c) (Zb W c) k).toNat
def ZC (W:Q8) (g c:Int) (k:Nat):Bool:=decide (0<=QI (Za W g c) (Zb W c) k)
theorem CI {W:Q8} {g c:Int} {k:Nat}:(decide (QI (Za W g c) (Zb W c) k<0)||decide (Zb W c k<Zb W c (QI (Za W g c) (Zb W c) k).toNat))=(!ZC W g c k||decide (Zb W c k<Z5 W g c k)):=by
 unfold ZC Z5
 by_cases h:QI (Za W g c) (Zb W c) k<0
 ·have h2:decide (0<=QI (Za W g c) (Zb W c) k)=false:=decide_eq_false (by omega);rw [if_pos h,decide_eq_true h,h2]; rfl
 ·have h2:decide (0<=QI (Za W g c) (Zb W c) k)=true:=decide_eq_true (by omega);rw [if_neg h,decide_eq_false h,h2]; rfl
theorem zc4 {W:Q8} {g c:Int} {k:Nat} (h:(Za W g c k&&(!ZC W g c k||decide (Zb W c k<Z5 W g c k)))=true):Z5 W g c (k+1)=Zb W c k/\ZC W g c (k+1)=true:=by
 rw [<-CI] at h
 have e:QI (Za W g c) (Zb W c) (k+1)=(k:Int):=by
  simp only [QI]; rw [if_pos h]
 unfold Z5 ZC;rw [e,if_neg (by omega),Int.toNat_natCast];exact ⟨rfl,decide_eq_true (by omega)⟩
theorem za5 {W:Q8} {g c:Int} {k:Nat} (h:(Za W g c k&&(!ZC W g c k||decide (Zb W c k<Z5 W g c k)))=false):Z5 W g c (k+1)=Z5 W g c k/\ZC W g c (k+1)=ZC W g c k:=by
 rw [<-CI] at h
 have e:QI (Za W g c) (Zb W c) (k+1)=QI (Za W g c) (Zb W c) k:=by
  simp only [QI]; rw [if_neg (by rw [h]; decide)]
 unfold Z5 ZC;rw [e];exact ⟨rfl,rfl⟩
theorem MJ {g c:Int} (h:Xf bs w W m) (ha:WA W) (c0:0<=c) (c1:c<(W.cpus.length:Int)):PX bs U1 #[.agg (Qa W m).toArray,.int .i64 g,.int .i64 c] w (.tuple #[.int .i64 (Z5 W g c 20),.bool (ZC W g c 20)]):=
 NJ W.now m.cO W.cpus.length m.cC m.tO W.tasks.length m.tC m.gO W.groups.length m.gC g c fun wr hx=>by
  have h:=(h.ext hx).less (cs:=[]) (by simp);have hgl:=ha.gl;have htl:=ha.t;intro _ _;refine ⟨fun vs=>∃k:Nat,k<=12/\vs=[.int .i64 (Z5 W g c k),.bool (ZC W g c k),.int .i64 (k:Int)],XM 12 2,⟨0,by omega,rfl⟩,?_⟩;rintro best some t ⟨k,hk,he⟩;simp only [List.cons.injEq,Value.int.injEq,Value.bool.injEq,true_and,and_true] at he;obtain ⟨rfl,rfl,rfl⟩:=he;refine ⟨fun hlt => ?_,fun hge => ?_⟩
  ·have hlt:=of_decide_eq_true hlt;have hk12:k<12:=by omega
   refine ⟨h.t.ix Qz (by omega) hlt,_,_,_,_,_,_,_,_,_,h.t k (by omega) hlt,fun _ _=>⟨fun q=>⟨⟨by omega,by omega⟩,⟨k+1,by omega,?_⟩,QU (k:=k) rfl rfl hk12⟩,fun q=>⟨⟨by omega,by omega⟩,⟨k+1,by omega,?_⟩,QU (k:=k) rfl rfl hk12⟩⟩⟩
   ·have q':(Za W g c k&&(!ZC W g c k||decide (Zb W c k<Z5 W g c k)))=true:=by rw [V4 hk12,Dl hk12]; exact q
    obtain ⟨e1,e2⟩:=zc4 q';rw [e1,e2,Dl hk12]; simp [Q7]
   ·have q':(Za W g c k&&(!ZC W g c k||decide (Zb W c k<Z5 W g c k)))=false:=by rw [V4 hk12,Dl hk12]; exact q
    obtain ⟨e1,e2⟩:=za5 q';rw [e1,e2]; simp
  ·have hge:=of_decide_eq_false hge;have:k=12:=by omega
   subst this;have e12:Z5 W g c 13=Z5 W g c 12/\ZC W g c 13=ZC W g c 12:=za5 (by rw [zho]; rfl);refine ⟨fun vs=>∃k:Nat,1<=k/\k<=8/\vs=[.int .i64 (Z5 W g c (12+k)),.bool (ZC W g c (12+k)),.int .i64 (k:Int)],XM 8 2,⟨1,by omega,by omega,by rw [show 12+1=13 from rfl,e12.1,e12.2]; rfl⟩,?_⟩;rintro best1 some1 t1 ⟨k,hk1,hk,he⟩;simp only [List.cons.injEq,Value.int.injEq,Value.bool.injEq,true_and,and_true] at he;obtain ⟨rfl,rfl,rfl⟩:=he;refine ⟨fun hlt => ?_,fun hge => ?_⟩
   ·have hlt:=of_decide_eq_true hlt;have hk0:(0:Int)<=(k:Int):=by omega
    have used:∀{x:Bool},(((gi W.groups (k:Int)).used&&((gi W.groups (k:Int)).parent==g))&&x)=true->Q6 W.groups (k:Int)=true/\c<((gi W.groups (k:Int)).shelves.length:Int):=fun {x} q=>by
     simp only [Bool.and_eq_true] at q;have hu:=zcv hlt q.1.1;exact ⟨hu,by rw [ha.sl hu]; exact c1⟩
    have eA:XL W g c k=(((gi W.groups (k:Int)).used&&((gi W.groups (k:Int)).parent==g))&&(Qb W (k:Int) c).on):=by
     unfold XL; rw [decide_eq_true hk1,Bool.true_and]
    have eP:Za W g c (12+k)=(((gi W.groups (k:Int)).used&&((gi W.groups (k:Int)).parent==g))&&(Qb W (k:Int) c).on):=by rw [Jk,eA]
    refine ⟨h.g.ix hk0 hlt,_,h.g.used hk0 hlt,fun _=>h.g.ix hk0 hlt,_,fun _=>h.g.parent hk0 hlt,(Qb W (k:Int) c).on,fun q=>U7 h ha (used (x:=true) (by rw [q]; rfl)).1 c0 c1,fun _ _=>h.g.ix hk0 hlt,_,_,_,fun _ _=>h.g.shelf hk0 hlt,fun _ q=>(h.g.shelves _ hk0 hlt).ix ZF c0 (used q).2,(Qb W (k:Int) c).v,fun _ q=>ze3.f (h.g.shelves _ hk0 hlt) c0 (used q).2 (j:=2) rfl,fun q => ?_,fun q=>⟨⟨by omega,by omega⟩,⟨k+1,by omega,by omega,?_⟩,QU (k:=k) rfl rfl (by omega)⟩⟩
    ·have q2:=q;simp only [Bool.and_eq_true] at q2;have hu:=used (x:=(Qb W (k:Int) c).on) (by simp only [Bool.and_eq_true]; exact q2.1);have q':(Za W g c (12+k)&&(!ZC W g c (12+k)||decide (Zb W c (12+k)<Z5 W g c (12+k))))=true:=by rw [eP,Dk]; exact q
     obtain ⟨e1,e2⟩:=zc4 q';refine ⟨h.g.ix hk0 hlt,_,_,_,h.g.shelf hk0 hlt,(h.g.shelves _ hk0 hlt).ix ZF c0 hu.2,_,ze3.f (h.g.shelves _ hk0 hlt) c0 hu.2 (j:=2) rfl,⟨by omega,by omega⟩,⟨k+1,by omega,by omega,?_⟩,QU (k:=k) rfl rfl (by omega)⟩;rw [show 12+(k+1)=12+k+1 from rfl,e1,e2,Dk]; simp [Qb]
    ·have q':(Za W g c (12+k)&&(!ZC W g c (12+k)||decide (Zb W c (12+k)<Z5 W g c (12+k))))=false:=by rw [eP,Dk]; exact q
     obtain ⟨e1,e2⟩:=za5 q';rw [show 12+(k+1)=12+k+1 from rfl,e1,e2]; simp
   ·have hge:=of_decide_eq_false hge;have:k=8:=by omega
    subst this;rfl
theorem C8 {g c:Int} (h:Xf bs w W m) (ha:WA W) (hu:Q6 W.groups g=true) (c0:0<=c) (c1:c<(W.cpus.length:Int)):PX bs Ji #[.agg (Qa W m).toArray,.int .i64 g,.int .i64 c] w (.int .i64 (Pj W g c)):=by
 have hgl:=ha.gl;have htl:=ha.t
 have key:∀(n:Nat) (g:Int),Q6 W.groups g=true->(3 - dep 3 W.groups g).toNat=n->∀{bs:List Nat} {w:World},Xf bs w W m->PX bs Ji #[.agg (Qa W m).toArray,.int .i64 g,.int .i64 c] w (.int .i64 (Pj W g c)):=by
  intro n
  induction n using Nat.strongRecOn with
  | ind n ih=>
   intro g hu hn bs w h;refine CA W.now m.cO W.cpus.length m.cC m.tO W.tasks.length m.tC m.gO W.groups.length m.gC g c fun wr hx => ?_
   have h:=(h.ext hx).less (cs:=[]) (by simp);have hstep:=Dt ha hu (c:=c);have hd:=Mt ha hu;intro _ _;refine ⟨_,_,MJ h ha c0 c1,fun q => ?_,fun q => ?_⟩
   ·have q:¬0<=QI (Za W g c) (Zb W c) 20:=by
     unfold ZC at q
     simpa using q
    have q:¬0<=QE W g c:=q;rw [hstep,if_pos (by omega)]
   have hF0:0<=QI (Za W g c) (Zb W c) 20:=by
    unfold ZC at q
    simpa using q
   have hF:0<=QE W g c:=hF0
   have hbest:Z5 W g c 20=Zb W c (QE W g c).toNat:=by
    show (if QE W g c<0 then 0 else Zb W c (QE W g c).toNat)=_;rw [if_neg (show ¬QE W g c<0 by omega)]
   have found:∀k:Nat,k<20->Za W g c k=true->Zb W c k=Z5 W g c 20->(∀j,j<k->Za W g c j=true->Zb W c j≠Z5 W g c 20)->QE W g c=(k:Int):=fun k hk hp hv hb=>by
    rw [hbest] at hv hb;exact zfu hk hp hF hv hb
   refine ⟨fun vs=>∃k:Nat,vs=[.int .i64 (k:Int)]/\k<=12/\∀j,j<k->Za W g c j=true->Zb W c j≠Z5 W g c 20,XM 12 0,⟨0,rfl,by omega,fun j hj=>absurd hj (Nat.not_lt_zero j)⟩,?_⟩;rintro t ⟨k,he,hk,hI⟩;simp only [List.cons.injEq,Value.int.injEq,true_and,and_true] at he;subst he;refine ⟨fun hlt => ?_,fun hge => ?_⟩
   ·have hlt:=of_decide_eq_true hlt;have hk12:k<12:=by omega
    refine ⟨h.t.ix Qz (by omega) hlt,_,_,_,_,_,_,_,_,_,h.t k (by omega) hlt,fun b1 hb1=>⟨fun q2 => ?_,fun q2=>⟨⟨by omega,by omega⟩,⟨k+1,by simp,by omega,fun j hj hp hv => ?_⟩,QU (k:=k) rfl rfl hk12⟩⟩⟩
    ·have q2':(Te W g c k&&((Q7 W (k:Int)).v==Z5 W g c 20))=true:=q2;simp only [Bool.and_eq_true,beq_iff_eq] at q2';have:=found k (by omega) (by rw [V4 hk12]; exact q2'.1) (by rw [Dl hk12]; exact q2'.2) hI;rw [hstep,if_neg (by omega),if_pos (by omega),this]
    ·by_cases hjk:j<k
     ·exact hI j hjk hp hv
     ·have:j=k:=by omega
      subst this;rw [V4 hk12] at hp;rw [Dl hk12] at hv;have q2':(Te W g c j&&((Q7 W (j:Int)).v==Z5 W g c 20))=false:=q2;rw [hp,hv] at q2';simp at q2'
   ·have hge:=of_decide_eq_false hge;have:k=12:=by omega
    subst this
    refine ⟨fun vs=>∃k:Nat,vs=[.int .i64 (k:Int)]/\1<=k/\k<=8/\∀j,j<12+k->Za W g c j=true->Zb W c j≠Z5 W g c 20,XM 8 0,⟨1,rfl,by omega,by omega,fun j hj hp=>by
     by_cases hj12:j<12
     ·exact hI j hj12 hp
     ·have:j=12:=by omega
      subst this;rw [zho] at hp; cases hp⟩,?_⟩
    rintro t2 ⟨k,he,hk1,hk,hI2⟩;simp only [List.cons.injEq,Value.int.injEq,true_and,and_true] at he;subst he;refine ⟨fun hlt => ?_,fun hge2 => ?_⟩
    ·have hlt:=of_decide_eq_true hlt;have hk0:(0:Int)<=(k:Int):=by omega
     have used:∀{x:Bool},(((gi W.groups (k:Int)).used&&((gi W.groups (k:Int)).parent==g))&&x)=true->Q6 W.groups (k:Int)=true/\c<((gi W.groups (k:Int)).shelves.length:Int):=fun {x} q=>by
      simp only [Bool.and_eq_true] at q;have hu:=zcv hlt q.1.1;exact ⟨hu,by rw [ha.sl hu]; exact c1⟩
     have eA:XL W g c k=(((gi W.groups (k:Int)).used&&((gi W.groups (k:Int)).parent==g))&&(Qb W (k:Int) c).on):=by
      unfold XL; rw [decide_eq_true hk1,Bool.true_and]
     have eP:Za W g c (12+k)=(((gi W.groups (k:Int)).used&&((gi W.groups (k:Int)).parent==g))&&(Qb W (k:Int) c).on):=by rw [Jk,eA]
     refine ⟨h.g.ix hk0 hlt,_,h.g.used hk0 hlt,fun _=>h.g.ix hk0 hlt,_,fun _=>h.g.parent hk0 hlt,(Qb W (k:Int) c).on,fun q=>U7 h ha (used (x:=true) (by rw [q]; rfl)).1 c0 c1,fun _=>h.g.ix hk0 hlt,_,_,_,fun _=>h.g.shelf hk0 hlt,fun q=>(h.g.shelves _ hk0 hlt).ix ZF c0 (used q).2,(Qb W (k:Int) c).v,fun q=>ze3.f (h.g.shelves _ hk0 hlt) c0 (used q).2 (j:=2) rfl,fun q => ?_,fun q=>⟨⟨by omega,by omega⟩,⟨k+1,by simp,by omega,by omega,fun j hj hp hv => ?_⟩,QU (k:=k) rfl rfl (by omega)⟩⟩
     ·have q2:=q;simp only [Bool.and_eq_true,beq_iff_eq] at q2;have hfk:=found (12+k) (by omega) (by rw [eP]; simp only [Bool.and_eq_true,beq_iff_eq]; exact q2.1) (by rw [Dk]; exact q2.2) hI2;have hkid:=Kh ha hu (c:=c) (by omega);have ek:QE W g c - 12=(k:Int):=by omega
      rw [ek] at hkid;have hdk:=Mt ha hkid.1;refine ⟨_,ih _ (show (3 - dep 3 W.groups (k:Int)).toNat<n by omega) (k:Int) hkid.1 rfl h,?_⟩;rw [hstep,if_neg (by omega),if_neg (by omega),ek]
     ·by_cases hjk:j<12+k
      ·exact hI2 j hjk hp hv
      ·have:j=12+k:=by omega
       subst this;rw [eP] at hp;rw [Dk] at hv;rw [hp,hv] at q;simp at q
    ·have hge2:=of_decide_eq_false hge2;have:k=8:=by omega
     subst this;rcases Z8 (Za W g c) (Zb W c) 20 with ⟨h1,_⟩ | ⟨h1,h2,h3,_,_⟩
     ·have:QE W g c = -1:=h1;omega
     ·exact absurd hbest.symm (hI2 (QE W g c).toNat (by unfold QE; omega) h3)
 exact key _ g hu rfl h
theorem C9 {c:Int} (h:Xf bs w W m) (ha:WA W) (c0:0<=c) (c1:c<(W.cpus.length:Int)):PX bs O2 #[.agg (Qa W m).toArray,.int .i64 c] w (.int .i64 (Ql W c)):=by
 refine CB W.now m.cO W.cpus.length m.cC m.tO W.tasks.length m.tC m.gO W.groups.length m.gC c fun wr hx => ?_
 have h:=(h.ext hx).less (cs:=[]) (by simp);intro _ _;refine ⟨h.c.ix ZS c0 c1,_,h.c.f c0 c1 (j:=1) rfl,fun _=>h.c.ix ZS c0 c1,_,fun _=>h.c.f c0 c1 (j:=2) rfl,fun g=>⟨h.c.ix ZS c0 c1,_,h.c.f c0 c1 (j:=1) rfl,?_⟩,fun g=>⟨_,C8 h ha ha.root c0 c1,?_⟩⟩
 ·simp only [Bool.and_eq_true,decide_eq_true_eq] at g;unfold Ql; rw [if_pos g]
 ·unfold Ql; rw [if_neg (fun hc=>by
   rw [decide_eq_true hc.1,decide_eq_true hc.2] at g; cases g)]
end
def setTk (W:Q8) (t:Int) (x:OY):Q8:={ W with tasks:=W.tasks.set t.toNat x }
def setCp (W:Q8) (c:Int) (x:Ow):Q8:={ W with cpus:=W.cpus.set c.toNat x }
def setGr (W:Q8) (g:Int) (x:Zv):Q8:={ W with groups:=W.groups.set g.toNat x }
def setSh (W:Q8) (g c:Int) (s:Ma):Q8:=setGr W g { gi W.groups g with shelves:=(gi W.groups g).shelves.set c.toNat s }
def setBd (W:Q8) (g:Int) (b:Ja):Q8:=setGr W g { gi W.groups g with band:=b }
theorem BX {α:Type} [Inhabited α] (l:List α) (i:Int):gi l i=gi l ((i.toNat:Nat):Int):=by unfold gi; rw [Int.toNat_natCast]
structure QP (gs gs':List Zv):Prop where
 len:gs'.length=gs.length
 u:∀i:Int,(gi gs' i).used=(gi gs i).used
 p:∀i:Int,(gi gs' i).parent=(gi gs i).parent
 n:∀i:Int,(gi gs' i).name=(gi gs i).name
theorem QP.refl (gs:List Zv):QP gs gs:=⟨rfl,fun _=>rfl,fun _=>rfl,fun _=>rfl⟩
theorem QP.trans {a b c:List Zv} (h:QP a b) (k:QP b c):QP a c:=⟨k.len.trans h.len,fun i=>(k.u i).trans (h.u i),fun i=>(k.p i).trans (h.p i),fun i=>(k.n i).trans (h.n i)⟩
theorem QP.usd {gs gs':List Zv} (h:QP gs gs') (i:Int):Q6 gs' i=Q6 gs i:=by unfold Q6; rw [h.len,h.u]
theorem QP.dep {gs gs':List Zv} (h:QP gs gs'):∀(f:Nat) (i:Int),Go.Proofs.YtclpmgfpjeaibaaGreat.dep f gs' i=Go.Proofs.YtclpmgfpjeaibaaGreat.dep f gs i
 | 0,i=>rfl
 | f+1,i=>by simp only [Go.Proofs.YtclpmgfpjeaibaaGreat.dep]; rw [h.p,h.dep f]
theorem QP.path {gs gs':List Zv} (h:QP gs gs'):∀(f:Nat) (i:Int),JE f gs' i=JE f gs i
 | 0,i=>rfl
 | f+1,i=>by simp only [JE]; rw [h.p,h.path f]
theorem QP.tree {gs gs':List Zv} (h:QP gs gs') (t:ZP gs):ZP gs':=
 ⟨by rw [h.len]; exact t.len,by rw [h.u]; exact t.ru,by rw [h.p]; exact t.rp,by rw [h.n]; exact t.rn,fun g a b c=>by rw [h.u] at c; rw [h.n]; exact t.nm g a b c,fun g a b c=>by rw [h.u] at c; rw [h.usd,h.p]; exact t.par g a b c,
  fun g a b c=>by rw [h.u] at c; rw [h.dep]; exact t.dp g a b c,fun g k a b c d e=>by rw [h.u] at d e; rw [h.p,h.p,h.n,h.n]; exact t.uniq g k a b c d e⟩
theorem Yc {W:Q8} {g:Int} {x:Zv} (h0:0<=g) (h1:g<(W.groups.length:Int)) {i:Int} (hi:0<=i):gi (setGr W g x).groups i=if g=i then x else gi W.groups i:=Qw _ _ h0 h1 hi
theorem XW {W:Q8} {g:Int} {x:Zv} (h0:0<=g) (h1:g<(W.groups.length:Int)) (u:x.used=(gi W.groups g).used) (p:x.parent=(gi W.groups g).parent) (n:x.name=(gi W.groups g).name):QP W.groups (setGr W g x).groups:=by
 have key:∀i:Int,gi (setGr W g x).groups i=if g=((i.toNat:Nat):Int) then x else gi W.groups i:=fun i=>by
  rw [BX,Yc h0 h1 (by omega),<-BX W.groups i]
 refine ⟨List.length_set,fun i => ?_,fun i => ?_,fun i => ?_⟩
 all_goals
  rw [key];split
  ·rename_i e;rw [BX W.groups i,<-e]; assumption
  ·rfl
theorem WA.set {W:Q8} (ha:WA W) {g:Int} {x:Zv} (h0:0<=g) (h1:g<8) (u:x.used=(gi W.groups g).used) (p:x.parent=(gi W.groups g).parent) (n:x.name=(gi W.groups g).name) (hN:x.used=false->zkh x) (hU:x.used=true->ze4 W g x):WA (setGr W g x):=by
 have hl:=ha.gl;refine ⟨ha.n1,ha.n2,ha.c1,ha.c2,ha.t,(XW h0 (by omega) u p n).tree ha.tree,ha.ups,fun k k0 k1 => ?_⟩;show OI (setGr W g x) k;unfold OI;rw [Yc h0 (by omega) k0]
 by_cases e:g=k
 ·subst e;rw [if_pos rfl];exact ⟨hN,fun hu=>by have:=hU hu; exact ⟨this.w1,this.w2,this.m,this.m0,this.s,this.len,this.root,this.none,this.band⟩⟩
 ·rw [if_neg e];have:=ha.grp k k0 k1;exact ⟨this.1,fun hu=>by have:=this.2 hu; exact ⟨this.w1,this.w2,this.m,this.m0,this.s,this.len,this.root,this.none,this.band⟩⟩
theorem WA.setSh {W:Q8} (ha:WA W) {g c:Int} {s:Ma} (h0:0<=g) (h1:g<8):WA (setSh W g c s):=by
 have hg:=ha.grp g h0 h1;refine ha.set h0 h1 rfl rfl rfl (fun hu => ?_) fun hu => ?_
 ·have:=hg.1 hu;exact ⟨this.p,this.n,this.w,this.c,this.pe,this.ne,this.s,by rw [List.length_set]; exact this.l,this.b⟩
 ·have:=hg.2 hu;exact ⟨this.w1,this.w2,this.m,this.m0,this.s,by rw [List.length_set]; exact this.len,this.root,this.none,this.band⟩
theorem XV {W:Q8} {g c:Int} {s:Ma} (h0:0<=g) (h1:g<(W.groups.length:Int)) (c0:0<=c) (c1:c<((gi W.groups g).shelves.length:Int)) {i d:Int} (hi:0<=i) (hd:0<=d):Qb (setSh W g c s) i d=if g=i/\c=d then s else Qb W i d:=by
 unfold Qb Go.Proofs.YtclpmgfpjeaibaaGreat.setSh;rw [Yc h0 h1 hi]
 by_cases e:g=i
 ·subst e;rw [if_pos rfl,Qw _ _ c0 c1 hd]
  by_cases e2:c=d
  ·rw [if_pos e2,if_pos ⟨rfl,e2⟩]
  ·rw [if_neg e2,if_neg (fun h=>e2 h.2)]
 ·rw [if_neg e,if_neg (fun h=>e h.1)]
theorem Xd {W:Q8} {g c:Int} {s:Ma} (h0:0<=g) (h1:g<(W.groups.length:Int)):QP W.groups (setSh W g c s).groups:=XW h0 h1 rfl rfl rfl
theorem Kf {W:Q8} {g c:Int} {s:Ma} (h0:0<=g) (h1:g<(W.groups.length:Int)) {i d:Int} (hi:0<=i):UE (setSh W g c s) i d=UE W i d:=by
 unfold UE Go.Proofs.YtclpmgfpjeaibaaGreat.setSh;rw [Yc h0 h1 hi];split
 ·rename_i e; subst e; rfl
 ·rfl
theorem CJ {W:Q8} {g c:Int} {s:Ma} (h0:0<=g) (h1:g<(W.groups.length:Int)) {i:Int} (hi:0<=i):(gi (setSh W g c s).groups i).band=(gi W.groups i).band:=by
 unfold Go.Proofs.YtclpmgfpjeaibaaGreat.setSh;rw [Yc h0 h1 hi];split
 ·rename_i e; subst e; rfl
 ·rfl
theorem zab {W:Q8} {g c:Int} {s:Ma} (h0:0<=g) (h1:g<(W.groups.length:Int)) {i:Int} (hi:0<=i):(gi (setSh W g c s).groups i).shelves.length=(gi W.groups i).shelves.length:=by
 unfold Go.Proofs.YtclpmgfpjeaibaaGreat.setSh;rw [Yc h0 h1 hi];split
 ·rename_i e; subst e; simp
 ·rfl
structure SW (K:Int) (W:Q8):Prop where
 a:WA W
 t:∀t:Int,0<=t->t<12->(Q7 W t).state≠0->Q6 W.groups (Q7 W t).group=true/\0<=(Q7 W t).cpu/\(Q7 W t).cpu<(W.cpus.length:Int)
 tv:∀t:Int,0<=t->t<12->0<=(Q7 W t).v/\(Q7 W t).v<=K
 s:∀k c:Int,Q6 W.groups k=true->0<=c->c<(W.cpus.length:Int)->0<=(Qb W k c).floor/\(Qb W k c).floor<=K/\0<=(Qb W k c).v/\(Qb W k c).v<=K/\1<=(Qb W k c).w/\(Qb W k c).w<=20
 cu:∀c:Int,0<=c->c<(W.cpus.length:Int)->-1<=(gi W.cpus c).cur/\(gi W.cpus c).cur<12
structure SF (F K:Int) (W:Q8):Prop where
 w:SW K W
 f:∀k c:Int,Q6 W.groups k=true->0<=c->c<(W.cpus.length:Int)->(Qb W k c).floor<=F
theorem SW.mono {K K':Int} {W:Q8} (h:SW K W) (hk:K<=K'):SW K' W:=
 ⟨h.a,h.t,fun t a b=>by have:=h.tv t a b; omega,fun k c u a b=>by have:=h.s k c u a b; omega,h.cu⟩
theorem SW.sf {K:Int} {W:Q8} (h:SW K W):SF K K W:=⟨h,fun k c u a b=>(h.s k c u a b).2.1⟩
theorem SF.mono {F K F' K':Int} {W:Q8} (h:SF F K W) (hf:F<=F') (hk:K<=K'):SF F' K' W:=⟨h.w.mono hk,fun k c u a b=>by have:=h.f k c u a b; omega⟩
theorem SW.li {K:Int} {W:Q8} (h:SW K W) {t:Int} (t0:0<=t) (t1:t<(W.tasks.length:Int)) (hs:(Q7 W t).state=1):Q6 W.groups (Q7 W t).group=true/\0<=(Q7 W t).cpu/\(Q7 W t).cpu<(W.cpus.length:Int):=by
 have hl:=h.a.t;exact h.t t t0 (by omega) (by omega)
theorem SF.setSh {F K:Int} {W:Q8} (h:SF F K W) {g c:Int} {s:Ma} (hu:Q6 W.groups g=true) (c0:0<=c) (c1:c<(W.cpus.length:Int)) (f0:0<=s.floor) (f1:s.floor<=F) (fk:s.floor<=K) (v0:0<=s.v) (v1:s.v<=K) (w1:1<=s.w) (w2:s.w<=20):SF F K (setSh W g c s):=by
 obtain ⟨u0,u1,_⟩:=Q5.1 hu;have hl:=h.w.a.gl;have hs:=h.w.a.sl hu;have hT:=Xd (W:=W) (g:=g) (c:=c) (s:=s) u0 u1
 have e:∀k d:Int,Q6 (Go.Proofs.YtclpmgfpjeaibaaGreat.setSh W g c s).groups k=true->0<=d->Qb (Go.Proofs.YtclpmgfpjeaibaaGreat.setSh W g c s) k d=if g=k/\c=d then s else Qb W k d:=fun k d uk hd=>by
  rw [hT.usd] at uk;exact XV u0 u1 c0 (by omega) (Q5.1 uk).1 hd
 refine ⟨⟨h.w.a.setSh u0 (by omega),fun t a b n=>by rw [hT.usd]; exact h.w.t t a b n,h.w.tv,fun k d uk a b => ?_,h.w.cu⟩,fun k d uk a b => ?_⟩
 ·rw [e k d uk a];rw [hT.usd] at uk;split
  ·exact ⟨f0,fk,v0,v1,w1,w2⟩
  ·exact h.w.s k d uk a b
 ·rw [e k d uk a];rw [hT.usd] at uk;split
  ·exact f1
  ·exact h.f k d uk a b
def Ye (W:Q8) (k c:Int):Ma:=
 { Qb W k c with
  v:=if (QN W k c && !UE W k c)=true/\(Qb W k c).on=false then (Qb W (gi W.groups k).parent c).floor+YV ((Qb W k c).v - (Qb W (gi W.groups k).parent c).floor) (Qb W k c).w else (Qb W k c).v
  on:=QN W k c && !UE W k c }
def ZK (W:Q8) (c d:Int):Nat->Q8
 | 0=>W
 | k+1=>if (gi (ZK W c d k).groups (k:Int)).used=true/\dep 3 (ZK W c d k).groups (k:Int)=d then setSh (ZK W c d k) (k:Int) c (Ye (ZK W c d k) (k:Int) c) else ZK W c d k
theorem zjc {W:Q8} {c d:Int} (h:d≠0):ZK W c d 1=W:=by
 show (if (gi W.groups ((0:Nat):Int)).used=true/\dep 3 W.groups ((0:Nat):Int)=d then _ else W)=W;refine if_neg fun hc=>h ?_
 have:=hc.2;rw [show (((0:Nat):Int))=0 from rfl,Y4] at this;exact this.symm
def Xs (W:Q8) (c:Int):Nat->Q8
 | 0=>W
 | j+1=>ZK (Xs W c j) c (3 - (j:Int)) 8
def QJ (W:Q8) (c:Int):Q8:=Xs W c 3
abbrev Qk:Int:=34686091440
theorem zlw {F K:Int} {W:Q8} (h:SF F K W) (hk:F+Qk<=K) {k c d:Int} (hu:Q6 W.groups k=true) (hd:dep 3 W.groups k=d) (d1:1<=d) (c0:0<=c) (c1:c<(W.cpus.length:Int)):SF F K (setSh W k c (Ye W k c)):=by
 have hz:k≠0:=fun e=>by subst e; rw [Y4] at hd; omega
 have hp:=h.w.a.up hu hz;have s1:=h.w.s k c hu c0 c1;have s2:=h.w.s _ c hp c0 c1;have f1:=h.f k c hu c0 c1;have f2:=h.f _ c hp c0 c1;have lc:=ZO ((Qb W k c).v - (Qb W (gi W.groups k).parent c).floor) (Qb W k c).w;have lm:=ZJ (Qb W k c).w;refine h.setSh hu c0 c1 s1.1 f1 (by show (Qb W k c).floor<=K; omega) ?_ ?_ s1.2.2.2.2.1 s1.2.2.2.2.2
 ·simp only [Ye]; split <;> omega
 ·simp only [Ye]; simp only [Qk] at hk; split <;> omega
structure Je (W W':Q8):Prop where
 n:W'.now=W.now
 c:W'.cpus=W.cpus
 t:W'.tasks=W.tasks
 g:QP W.groups W'.groups
 b:∀i:Int,0<=i->(gi W'.groups i).band=(gi W.groups i).band
 l:∀i:Int,0<=i->(gi W'.groups i).shelves.length=(gi W.groups i).shelves.length
theorem Je.refl (W:Q8):Je W W:=⟨rfl,rfl,rfl,QP.refl _,fun _ _=>rfl,fun _ _=>rfl⟩
theorem Je.trans {A B C:Q8} (h:Je A B) (k:Je B C):Je A C:=⟨k.n.trans h.n,k.c.trans h.c,k.t.trans h.t,h.g.trans k.g,fun i hi=>(k.b i hi).trans (h.b i hi),fun i hi=>(k.l i hi).trans (h.l i hi)⟩
theorem Pl {W:Q8} {g c:Int} {s:Ma} (h0:0<=g) (h1:g<(W.groups.length:Int)):Je W (setSh W g c s):=⟨rfl,rfl,rfl,Xd h0 h1,fun _ hi=>CJ h0 h1 hi,fun _ hi=>zab h0 h1 hi⟩
theorem Ni {F K:Int} {W:Q8} (h:SF F K W) (hk:F+Qk<=K) {c d:Int} (d1:1<=d) (c0:0<=c) (c1:c<(W.cpus.length:Int)):∀k:Nat,k<=8->SF F K (ZK W c d k)/\Je W (ZK W c d k)
 | 0,_=>⟨h,Je.refl _⟩
 | k+1,hk8=>by
  obtain ⟨ih,io⟩:=Ni h hk (d:=d) d1 c0 c1 k (by omega);have hl:=ih.w.a.gl;simp only [ZK];split
  ·rename_i hc;have hu:Q6 (ZK W c d k).groups (k:Int)=true:=Q5.2 ⟨by omega,by omega,hc.1⟩;exact ⟨zlw ih hk hu hc.2 d1 c0 (by rw [io.c]; exact c1),io.trans (Pl (by omega) (by omega))⟩
  ·exact ⟨ih,io⟩
theorem Di {F K:Int} {W:Q8} (h:SF F K W) (hk:F+Qk<=K) {c:Int} (c0:0<=c) (c1:c<(W.cpus.length:Int)):∀j:Nat,j<=3->SF F K (Xs W c j)/\Je W (Xs W c j)
 | 0,_=>⟨h,Je.refl _⟩
 | j+1,hj=>by
  obtain ⟨a1,b1⟩:=Di h hk c0 c1 j (by omega);obtain ⟨a2,b2⟩:=Ni a1 hk (c:=c) (d:=3 - (j:Int)) (by omega) c0 (by rw [b1.c]; exact c1) 8 (by omega);exact ⟨a2,b1.trans b2⟩
theorem Dh {F K:Int} {W:Q8} (h:SF F K W) (hk:F+Qk<=K) {c:Int} (c0:0<=c) (c1:c<(W.cpus.length:Int)):SF F K (QJ W c)/\Je W (QJ W c):=Di h hk c0 c1 3 (Nat.le_refl _)
def Yz (W:Q8):Nat->Q8
 | 0=>W
 | c+1=>QJ (Yz W c) (c:Int)
theorem TI {F K:Int} {W:Q8} (h:SF F K W) (hk:F+Qk<=K):∀c:Nat,c<=W.cpus.length->SF F K (Yz W c)/\Je W (Yz W c)
 | 0,_=>⟨h,Je.refl _⟩
 | c+1,hc=>by
  obtain ⟨a,b⟩:=TI h hk c (by omega);obtain ⟨a2,b2⟩:=Dh a hk (c:=(c:Int)) (by omega) (by rw [b.c]; omega);exact ⟨a2,b.trans b2⟩
def Yd (b:Ja) (c:Int):Ja:={ b with pool:=b.pool+gi b.locals c,locals:=b.locals.set c.toNat 0,dry:=if b.pool+gi b.locals c>0 then List.replicate b.dry.length false else b.dry }
theorem K2 (l:List Int) (c:Int) (x:Int) (c0:0<=c) (c1:c<(l.length:Int)):∀k:Nat,JX (l.set c.toNat x) k=JX l k+if c<(k:Int) then x - gi l c else 0
 | 0=>by simp only [JX]; rw [if_neg (by omega)]; omega
 | k+1=>by
  simp only [JX];rw [K2 l c x c0 c1 k,Qw _ _ c0 c1 (by omega)]
  by_cases e:c=(k:Int)
  ·subst e;rw [if_neg (by omega),if_pos rfl,if_pos (by omega)]; omega
  ·rw [if_neg e]
   by_cases h:c<(k:Int)
   ·rw [if_pos h,if_pos (by omega)]; omega
   ·rw [if_neg h,if_neg (by omega)]; omega
theorem zcq {l:List Int} (h:∀c:Int,0<=c->c<(l.length:Int)->0<=gi l c) {c:Int} (c0:0<=c):∀k:Nat,k<=l.length->0<=JX l k/\(c<(k:Int)->gi l c<=JX l k)
 | 0,_=>by simp only [JX]; exact ⟨by omega,fun h=>by omega⟩
 | k+1,hk=>by
  have ih:=zcq h c0 k (by omega);have:=h (k:Int) (by omega) (by omega);simp only [JX];refine ⟨by omega,fun hc => ?_⟩
  by_cases e:c=(k:Int)
  ·subst e; omega
  ·have:=ih.2 (by omega); omega
theorem Tp {α:Type} [Inhabited α] (n:Nat) (x:α) {i:Int} (h0:0<=i) (h1:i<(n:Int)):gi (List.replicate n x) i=x:=by
 obtain ⟨k,rfl⟩:=Int.eq_ofNat_of_zero_le h0;rw [JD (by simp; omega)]; simp
theorem zdl {b:Ja} (h:Vd b) {c:Int} (c0:0<=c) (c1:c<(b.locals.length:Int)) (hp:0<gi b.locals c):Vd (Yd b c)/\(Yd b c).locals.length=b.locals.length/\(Yd b c).quota=b.quota:=by
 have hs:=K2 b.locals c 0 c0 c1 b.locals.length;rw [if_pos c1] at hs;have hn:=zcq (fun d d0 d1=>(h.each d d0 d1).1) c0 b.locals.length (Nat.le_refl _);have hn2:=hn.2 c1;have p1:=h.p1;have s1:=h.s1;have su:=h.sum;have hpos:b.pool+gi b.locals c>0:=by omega
 refine ⟨⟨h.q1,h.q2,?_,?_,?_,?_,?_,h.s1,h.s2,fun d d0 d1 => ?_,?_⟩,by simp [Yd],rfl⟩
 ·simp only [Yd,List.length_set]; exact h.l1
 ·simp only [Yd,List.length_set]; exact h.l2
 ·simp only [Yd]; rw [if_pos hpos]; simp [h.dl]
 ·simp only [Yd]; omega
 ·simp only [Yd]; omega
 ·simp only [Yd,List.length_set] at d1 ⊢;have hd:=h.dl;have he:=h.each d d0 d1;rw [if_pos hpos,Tp _ _ d0 (by omega),Qw _ _ c0 c1 d0];have:=h.q1;refine ⟨?_,?_,fun h=>by cases h⟩
  ·split <;> omega
  ·split <;> omega
 ·simp only [Yd,List.length_set];rw [hs]; omega
def Yr (W:Q8) (k:Int):Nat->Q8
 | 0=>W
 | c+1=>if gi (gi (Yr W k c).groups k).band.locals (c:Int)>0/\QN (Yr W k c) k (c:Int)=false then setBd (Yr W k c) k (Yd (gi (Yr W k c).groups k).band (c:Int)) else Yr W k c
def YF (W:Q8):Nat->Q8
 | 0=>W
 | k+1=>if (gi (YF W k).groups (k:Int)).used=true/\(gi (YF W k).groups (k:Int)).band.quota≠0 then Yr (YF W k) (k:Int) (YF W k).cpus.length else YF W k
def KV (W:Q8):Q8:=YF W 8
structure UH (W W':Q8):Prop where
 n:W'.now=W.now
 c:W'.cpus=W.cpus
 t:W'.tasks=W.tasks
 g:QP W.groups W'.groups
 s:∀i:Int,0<=i->(gi W'.groups i).shelves=(gi W.groups i).shelves
theorem UH.refl (W:Q8):UH W W:=⟨rfl,rfl,rfl,QP.refl _,fun _ _=>rfl⟩
theorem UH.trans {A B C:Q8} (h:UH A B) (k:UH B C):UH A C:=⟨k.n.trans h.n,k.c.trans h.c,k.t.trans h.t,h.g.trans k.g,fun i hi=>(k.s i hi).trans (h.s i hi)⟩
theorem q9 {W:Q8} {g:Int} {b:Ja} (h0:0<=g) (h1:g<(W.groups.length:Int)):UH W (setBd W g b):=⟨rfl,rfl,rfl,XW h0 h1 rfl rfl rfl,fun i hi=>by
 unfold setBd;rw [Yc h0 h1 hi];split
 ·rename_i e; subst e; rfl
 ·rfl⟩
theorem SF.onlyB {F K:Int} {W W':Q8} (h:SF F K W) (ho:UH W W') (ha:WA W'):SF F K W':=by
 have e:∀k c:Int,Q6 W'.groups k=true->Qb W' k c=Qb W k c:=fun k c hu=>by unfold Qb; rw [ho.s k (Q5.1 hu).1]
 have et:∀t:Int,Q7 W' t=Q7 W t:=fun t=>by unfold Q7; rw [ho.t]
 refine ⟨⟨ha,fun t a b n => ?_,fun t a b=>by rw [et]; exact h.w.tv t a b,fun k c u a b => ?_,fun c a b => ?_⟩,fun k c u a b => ?_⟩
 ·rw [et] at n ⊢; rw [ho.g.usd,ho.c]; exact h.w.t t a b n
 ·rw [e k c u]; rw [ho.g.usd] at u; rw [ho.c] at b; exact h.w.s k c u a b
 ·rw [ho.c] at b ⊢; exact h.w.cu c a b
 ·rw [e k c u]; rw [ho.g.usd] at u; rw [ho.c] at b; exact h.f k c u a b
theorem WA.setBd {W:Q8} (ha:WA W) {g:Int} {b:Ja} (hu:Q6 W.groups g=true) (hq:(gi W.groups g).band.quota≠0) (hb:Vd b) (hl:b.locals.length=W.cpus.length) (he:b.quota=(gi W.groups g).band.quota):WA (setBd W g b):=by
 obtain ⟨u0,u1,hg⟩:=ha.u hu;have hb0:=hg.band hq;refine ha.set u0 u1 rfl rfl rfl (fun hn => ?_) fun _=>⟨hg.w1,hg.w2,hg.m,hg.m0,hg.s,hg.len,fun h=>⟨(hg.root h).1,(hg.root h).2.1,by show b.quota=0; rw [he]; exact (hg.root h).2.2⟩,fun h=>absurd (he.symm.trans h) hq,fun _=>⟨hb,hl,hb0.2.2⟩⟩
 have:(gi W.groups g).used=false:=hn;rw [(Q5.1 hu).2.2] at this;cases this
theorem GL {F K:Int} {W:Q8} (h:SF F K W) {k:Int} (hu:Q6 W.groups k=true) (hq:(gi W.groups k).band.quota≠0):∀c:Nat,c<=W.cpus.length->SF F K (Yr W k c)/\UH W (Yr W k c)/\(gi (Yr W k c).groups k).band.quota≠0
 | 0,_=>⟨h,UH.refl _,hq⟩
 | c+1,hc=>by
  obtain ⟨a,b,q⟩:=GL h hu hq c (by omega);simp only [Yr];split
  ·rename_i hcond;have hu':Q6 (Yr W k c).groups k=true:=by rw [b.g.usd]; exact hu
   obtain ⟨u0,u1,hg⟩:=a.w.a.u hu';have hb:=hg.band q;have hl:=a.w.a.gl;have hcl:(Yr W k c).cpus.length=W.cpus.length:=by rw [b.c]
   obtain ⟨g1,g2,g3⟩:=zdl hb.1 (c:=(c:Int)) (by omega) (by omega) hcond.1;have ho:=q9 (W:=Yr W k c) (b:=Yd (gi (Yr W k c).groups k).band (c:Int)) u0 (by omega);refine ⟨a.onlyB ho (a.w.a.setBd hu' q g1 (by rw [g2,hb.2.1]) g3),b.trans ho,?_⟩;show (gi (setGr _ k _).groups k).band.quota≠0;rw [Yc u0 (by omega) u0,if_pos rfl];exact fun e=>q (by rw [<-g3]; exact e)
  ·exact ⟨a,b,q⟩
theorem T4 {F K:Int} {W:Q8} (h:SF F K W):∀k:Nat,k<=8->SF F K (YF W k)/\UH W (YF W k)
 | 0,_=>⟨h,UH.refl _⟩
 | k+1,hk=>by
  obtain ⟨a,b⟩:=T4 h k (by omega);simp only [YF];split
  ·rename_i hc;have hl:=a.w.a.gl;obtain ⟨a2,b2,_⟩:=GL a (k:=(k:Int)) (Q5.2 ⟨by omega,by omega,hc.1⟩) hc.2 _ (Nat.le_refl _);exact ⟨a2,b.trans b2⟩
  ·exact ⟨a,b⟩
def D0 (W:Q8) (k c:Int):Ma:={ Qb W k c with floor:=Z5 W k c 20 }
def QV (W:Q8) (c:Int):Nat->Q8
 | 0=>W
 | k+1=>if (gi (QV W c k).groups (k:Int)).used=true/\ZC (QV W c k) (k:Int) c 20=true/\Z5 (QV W c k) (k:Int) c 20>(Qb (QV W c k) (k:Int) c).floor then setSh (QV W c k) (k:Int) c (D0 (QV W c k) (k:Int) c) else QV W c k
def Zi (W:Q8) (c:Int):Q8:=QV W c 8
theorem ze8 {K:Int} {W:Q8} (h:SW K W) {k c:Int} (c0:0<=c) (c1:c<(W.cpus.length:Int)) (hK:0<=K):0<=Z5 W k c 20/\Z5 W k c 20<=K:=by
 unfold Z5;split
 ·omega
 ·rename_i hn;have hl:=h.a.gl;rcases Z8 (Za W k c) (Zb W c) 20 with h1 | h1
  ·omega
  ·obtain ⟨j,hj⟩:∃j:Nat,QI (Za W k c) (Zb W c) 20=(j:Int):=⟨(QI (Za W k c) (Zb W c) 20).toNat,by omega⟩;rw [hj,Int.toNat_natCast] at h1 ⊢;have hp:=h1.2.2.1;unfold Zb
   by_cases h12:j<12
   ·rw [if_pos h12];exact h.tv (j:Int) (by omega) (by omega)
   ·rw [if_neg h12];unfold Za at hp;rw [if_neg h12] at hp;unfold XL at hp;simp only [Bool.and_eq_true] at hp;have hu:Q6 W.groups ((j - 12:Nat):Int)=true:=Q5.2 ⟨by omega,by omega,hp.1.2.1⟩;have:=h.s _ c hu c0 c1;omega
theorem Ki {K:Int} {W:Q8} (h:SW K W) (hK:0<=K) {c:Int} (c0:0<=c) (c1:c<(W.cpus.length:Int)):∀k:Nat,k<=8->SW K (QV W c k)/\Je W (QV W c k)
 | 0,_=>⟨h,Je.refl _⟩
 | k+1,hk=>by
  obtain ⟨a,b⟩:=Ki h hK c0 c1 k (by omega);have hl:=a.a.gl;have c1':c<((QV W c k).cpus.length:Int):=by rw [b.c]; exact c1
  simp only [QV];split
  ·rename_i hc;have hu:Q6 (QV W c k).groups (k:Int)=true:=Q5.2 ⟨by omega,by omega,hc.1⟩;have s1:=a.s _ c hu c0 c1';have br:=ze8 a (k:=(k:Int)) c0 c1' hK;exact ⟨(a.sf.setSh (s:=D0 (QV W c k) (k:Int) c) hu c0 c1' br.1 br.2 br.2 s1.2.2.1 s1.2.2.2.1 s1.2.2.2.2.1 s1.2.2.2.2.2).w,b.trans (Pl (by omega) (by omega))⟩
  ·exact ⟨a,b⟩
def Xi (x:Ow):Ow:={ x with cur := -1,ran:=0 }
def endW (W:Q8) (c:Int):Q8:=setCp W c (Xi (gi W.cpus c))
theorem zig {cs cs':List Ow}:∀k:Nat,(∀j:Nat,j<k->(gi cs' (j:Int)).up=(gi cs (j:Int)).up)->Jc cs' k=Jc cs k
 | 0,_=>rfl
 | k+1,h=>by simp only [Jc]; rw [zig k fun j hj=>h j (by omega),h k (by omega)]
theorem zcs {cs cs':List Ow} (hl:cs'.length=cs.length) (h:∀j:Nat,j<cs.length->(gi cs' (j:Int)).up=(gi cs (j:Int)).up):Xm cs'=Xm cs:=by
 unfold Xm;rw [hl];exact zig _ h
theorem WA.cp {W:Q8} (ha:WA W) {cs:List Ow} (hl:cs.length=W.cpus.length) (hu:Xm cs≠0):WA { W with cpus:=cs }:=
 ⟨ha.n1,ha.n2,by show 1<=cs.length; rw [hl]; exact ha.c1,by show cs.length<=4; rw [hl]; exact ha.c2,ha.t,ha.tree,hu,fun k a b=>by
  have:=ha.grp k a b;refine ⟨this.1,fun hu => ?_⟩;have hg:=this.2 hu
  exact ⟨hg.w1,hg.w2,hg.m,hg.m0,hg.s,by show (gi W.groups k).shelves.length=cs.length; rw [hl]; exact hg.len,hg.root,hg.none,fun q=>by
   have:=hg.band q;exact ⟨this.1,by show (gi W.groups k).band.locals.length=cs.length; rw [hl]; exact this.2.1,this.2.2⟩⟩⟩
theorem SW.endW {K:Int} {W:Q8} (h:SW K W) {c:Int} (c0:0<=c) (c1:c<(W.cpus.length:Int)):SW K (endW W c):=by
 have hl:(W.cpus.set c.toNat (Xi (gi W.cpus c))).length=W.cpus.length:=List.length_set;have hg:∀d:Int,0<=d->gi (W.cpus.set c.toNat (Xi (gi W.cpus c))) d=if c=d then Xi (gi W.cpus c) else gi W.cpus d:=fun d d0=>Qw _ _ c0 c1 d0
 refine ⟨h.a.cp hl ?_,fun t a b n => ?_,h.tv,fun k d u a b => ?_,fun d a b => ?_⟩
 ·rw [zcs hl fun j hj => ?_]
  ·exact h.a.ups
  ·rw [hg _ (by omega)];split
   ·rename_i e; rw [e]; rfl
   ·rfl
 ·show _/\_/\_<(((W.cpus.set c.toNat (Xi (gi W.cpus c))).length:Nat):Int);rw [hl];exact h.t t a b n
 ·have b:d<(((W.cpus.set c.toNat (Xi (gi W.cpus c))).length:Nat):Int):=b;rw [hl] at b;exact h.s k d u a b
 ·have b:d<(((W.cpus.set c.toNat (Xi (gi W.cpus c))).length:Nat):Int):=b;rw [hl] at b;show _<=(gi (W.cpus.set c.toNat (Xi (gi W.cpus c))) d).cur/\_;rw [show (gi (Go.Proofs.YtclpmgfpjeaibaaGreat.endW W c).cpus d).cur=(gi (W.cpus.set c.toNat (Xi (gi W.cpus c))) d).cur from rfl,hg _ a];split
  ·exact ⟨Int.le_refl _,show (-1:Int)<12 by decide⟩
  ·exact h.cu d a b
def PW (W:Q8) (c:Int):Bool:=decide ((gi W.cpus c).cur>=0)&&(((Q7 W (gi W.cpus c).cur).cpu != c) || !Zr W (gi W.cpus c).cur)
def Va (W:Q8) (c:Int):Q8:=if PW (Zi (QJ W c) c) c=true then endW (Zi (QJ W c) c) c else Zi (QJ W c) c
def Jp (W:Q8):Nat->Q8
 | 0=>W
 | c+1=>Va (Jp W c) (c:Int)
def Qg (W:Q8):Q8:=Jp (KV (Yz W W.cpus.length)) W.cpus.length
structure Fr (W W':Q8):Prop where
 n:W'.now=W.now
 c:W'.cpus.length=W.cpus.length
 t:W'.tasks=W.tasks
 g:QP W.groups W'.groups
theorem Fr.refl (W:Q8):Fr W W:=⟨rfl,rfl,rfl,QP.refl _⟩
theorem Fr.trans {A B C:Q8} (h:Fr A B) (k:Fr B C):Fr A C:=⟨k.n.trans h.n,k.c.trans h.c,k.t.trans h.t,h.g.trans k.g⟩
theorem Je.fr {W W':Q8} (h:Je W W'):Fr W W':=⟨h.n,by rw [h.c],h.t,h.g⟩
theorem UH.fr {W W':Q8} (h:UH W W'):Fr W W':=⟨h.n,by rw [h.c],h.t,h.g⟩
theorem BW (W:Q8) (c:Int):Fr W (endW W c):=⟨rfl,List.length_set,rfl,QP.refl _⟩
theorem zm1 {K:Int} {W:Q8} (h:SW K W) (hK:0<=K) {c:Int} (c0:0<=c) (c1:c<(W.cpus.length:Int)):SW (K+Qk) (Va W c)/\Fr W (Va W c):=by
 obtain ⟨a1,b1⟩:=Dh (F:=K) (K:=K+Qk) (h.sf.mono (Int.le_refl _) (by simp only [Qk]; omega)) (Int.le_refl _) c0 c1;obtain ⟨a2,b2⟩:=Ki a1.w (by simp only [Qk]; omega) c0 (c:=c) (by rw [b1.c]; exact c1) 8 (by omega);have hf:=b1.fr.trans b2.fr;unfold Va;split
 ·exact ⟨SW.endW a2 c0 (by show c<((QV (QJ W c) c 8).cpus.length:Int); rw [hf.c]; exact c1),hf.trans (BW _ _)⟩
 ·exact ⟨a2,hf⟩
theorem K0 {K:Int} {W:Q8} (h:SW K W) (hK:0<=K):∀c:Nat,c<=W.cpus.length->SW (K+(c:Int)*Qk) (Jp W c)/\Fr W (Jp W c)
 | 0,_=>⟨h.mono (by simp),Fr.refl _⟩
 | c+1,hc=>by
  obtain ⟨a,b⟩:=K0 h hK c (by omega);obtain ⟨a2,b2⟩:=zm1 a (by simp only [Qk]; omega) (c:=(c:Int)) (by omega) (by rw [b.c]; omega);exact ⟨a2.mono (by simp only [Qk]; omega),b.trans b2⟩
abbrev Uu:Int:=5*Qk
theorem VP {K:Int} {W:Q8} (h:SW K W) (hK:0<=K):SW (K+Uu) (Qg W)/\Fr W (Qg W):=by
 obtain ⟨a1,b1⟩:=TI (F:=K) (K:=K+Qk) (h.sf.mono (Int.le_refl _) (by simp only [Qk]; omega)) (Int.le_refl _) W.cpus.length (Nat.le_refl _);obtain ⟨a2,b2⟩:=T4 a1 8 (by omega);have hf:=b1.fr.trans b2.fr;obtain ⟨a3,b3⟩:=K0 a2.w (by simp only [Qk]; omega) W.cpus.length (by show W.cpus.length<=(YF (Yz W W.cpus.length) 8).cpus.length; rw [hf.c]; exact Nat.le_refl _);have:=h.a.c2;exact ⟨a3.mono (by simp only [Qk,Uu]; omega),hf.trans b3⟩
abbrev Qp:Int:=50000000000000000
structure KQ (W:Q8):Prop where
 n:W.now<=Qp
 c:∀c:Int,0<=c->c<(W.cpus.length:Int)->(gi W.cpus c).busy<=Qp/\(gi W.cpus c).idle<=Qp
 t:∀t:Int,0<=t->t<(W.tasks.length:Int)->(gi W.tasks t).v<=Qp/\(gi W.tasks t).sum<=Qp/\(gi W.tasks t).used<=Qp
 g:∀k:Int,0<=k->k<(W.groups.length:Int)->(gi W.groups k).sum<=Qp
 s:∀k c:Int,0<=k->k<(W.groups.length:Int)->0<=c->c<((gi W.groups k).shelves.length:Int)->(Qb W k c).floor<=Qp/\(Qb W k c).v<=Qp/\(Qb W k c).sum<=Qp
noncomputable def QF (W:Q8):Bool:=Jb (KQ W)
theorem Oo {W:Q8} (wp:Xn W) (r:KQ W):SW Qp W:=by
 have ht:=wp.a.t;have hg:=wp.a.gl;refine ⟨wp.a,fun t t0 t1 n => ?_,fun t t0 t1 => ?_,fun k c u c0 c1 => ?_,fun c c0 c1 => ?_⟩
 ·rcases wp.t t t0 t1 with h | h
  ·exact absurd h.1 n
  ·exact ⟨h.2.g,Ms wp.a h.2.c⟩
 ·refine ⟨?_,(r.t t t0 (by omega)).1⟩;rcases wp.t t t0 t1 with h | h
  ·rw [h.2]; exact Int.le_refl _
  ·exact (ZU.1 h.2.v).1
 ·obtain ⟨u0,u1,_⟩:=Q5.1 u;have hl:=wp.a.sl u;have hs:=wp.s k c u0 (by omega) c0 (by omega);have hr:=r.s k c u0 u1 c0 (by omega);exact ⟨(ZU.1 hs.f).1,hr.1,(ZU.1 hs.v).1,hr.2.1,hs.w1,hs.w2⟩
 ·have hc:=wp.c c c0 c1;have h1:=hc.c1;have h2:=hc.c2;omega
theorem WA.tk {W:Q8} (ha:WA W) {ts:List OY} (hl:ts.length=W.tasks.length):WA { W with tasks:=ts }:=
 ⟨ha.n1,ha.n2,ha.c1,ha.c2,by show ts.length=12; rw [hl]; exact ha.t,ha.tree,ha.ups,fun k a b=>by
  have:=ha.grp k a b;refine ⟨this.1,fun hu => ?_⟩;have hg:=this.2 hu;exact ⟨hg.w1,hg.w2,hg.m,hg.m0,hg.s,hg.len,hg.root,hg.none,hg.band⟩⟩
theorem SW.setTk {K:Int} {W:Q8} (h:SW K W) {t:Int} (t0:0<=t) (t1:t<12) {x:OY} (hx:x.state≠0->Q6 W.groups x.group=true/\0<=x.cpu/\x.cpu<(W.cpus.length:Int)) (v0:0<=x.v) (v1:x.v<=K):SW K (setTk W t x):=by
 have hl:=h.a.t;have e:∀i:Int,0<=i->Q7 (Go.Proofs.YtclpmgfpjeaibaaGreat.setTk W t x) i=if t=i then x else Q7 W i:=fun i i0=>Qw _ _ t0 (by omega) i0
 refine ⟨h.a.tk List.length_set,fun i a b n => ?_,fun i a b => ?_,h.s,h.cu⟩
 ·rw [e i a] at n ⊢;split
  ·rename_i he; rw [if_pos he] at n; exact hx n
  ·rename_i he; rw [if_neg he] at n; exact h.t i a b n
 ·rw [e i a];split
  ·exact ⟨v0,v1⟩
  ·exact h.tv i a b
def Pv:Q8:=⟨0,[],[],[]⟩
def zo4:MW:=⟨none,0,none,0,none,0,fun _=>⟨none,0,none,0,none,0⟩⟩
noncomputable def Xh (W:Q8) (bar:Int) (W':Q8):Q8×Int:=if QA W=false then (Pv,1) else if bar≠0 then (W,bar) else (W',0)
theorem zno {W W':Q8} {bar:Int} (h:QA W=false):Xh W bar W'=(Pv,1):=if_pos h
theorem znp {W W':Q8} {bar:Int} (h:QA W=true) (hb:bar≠0):Xh W bar W'=(W,bar):=by unfold Xh; rw [if_neg (by rw [h]; decide),if_pos hb]
theorem zqa {W W':Q8} {bar:Int} (h:QA W=true) (hb:bar=0):Xh W bar W'=(W',0):=by unfold Xh; rw [if_neg (by rw [h]; decide),if_neg (by simpa using hb)]
def Zh (W:Q8) (t:Int):Bool:=Yn t 0 ((W.tasks.length:Int) - 1)&&((Q7 W t).state != 0)
theorem ZL {W:Q8} {t:Int} (h:Zh W t=true):0<=t/\t<(W.tasks.length:Int)/\(Q7 W t).state≠0:=by
 unfold Zh at h;simp only [Bool.and_eq_true,bne_iff_ne,ne_eq] at h;have:=Qm.1 h.1;exact ⟨by omega,by omega,h.2⟩
noncomputable def Vo (W:Q8) (t:Int):Int:=if Zh W t=false then 2 else if (Q7 W t).state≠1 then 6 else if QF W=false then 10 else 0
def ze9 (W:Q8) (t:Int):Q8:=Qg (setTk W t { Q7 W t with state:=2 })
theorem zc5 {W:Q8} {t:Int} (hW:QA W=true) (hb:Vo W t=0):Zh W t=true/\(Q7 W t).state=1/\SW Qp W/\SW Qp (setTk W t { Q7 W t with state:=2 }):=by
 have wp:=Qi.1 hW;unfold Vo at hb
 split at hb
 ·cases hb
 ·rename_i h1
  split at hb
  ·cases hb
  ·rename_i h2
   split at hb
   ·cases hb
   ·rename_i h3;have h1:Zh W t=true:=by simpa using h1
    have h2:(Q7 W t).state=1:=by simpa using h2
    have h3:QF W=true:=by simpa using h3
    have sw:=Oo wp (Qi.1 h3);obtain ⟨t0,t1,n⟩:=ZL h1;have hl:=wp.a.t;have hv:=sw.tv t t0 (by omega);exact ⟨h1,h2,sw,sw.setTk t0 (by omega) (fun _=>sw.t t t0 (by omega) n) hv.1 hv.2⟩
def JC (b:Ja):Ja:=⟨b.quota,b.quota,0,List.replicate b.dry.length 0,List.replicate b.dry.length false⟩
def Yt (b:Ja) (c:Int):Ja×Int:=
 if gi b.locals c>0 then (b,0)
 else (⟨b.quota,b.pool - ZT 20 b.pool,b.spent,b.locals.set c.toNat (ZT 20 b.pool),b.dry.set c.toNat (ZT 20 b.pool==0)⟩,if ZT 20 b.pool=0 then 2 else 0)
def VQ (b:Ja) (c n:Int):Ja×Int:=
 if n<1\/n>gi b.locals c then (b,3) else ({ b with spent:=b.spent+n,locals:=b.locals.set c.toNat (gi b.locals c - n) },0)
def Yu (b:Ja) (op:zpv):Ja×Int:=
 if op.kind=4 then (JC b,0)
 else if Yn op.at' 0 ((b.locals.length:Int) - 1)=false then (b,1)
 else if op.kind=1 then Yt b op.at'
 else if op.kind=2 then VQ b op.at' op.n
 else if op.kind=3 then (Yd b op.at',0)
 else (b,1)
structure QT (base:Nat) (w:World) (b:Ja) (p:MG):Prop where
 loc:Jr XY 1 Qc base w p.lO p.lC b.locals
 dry:Jr Mc 1 Yy base w p.dO p.dC b.dry
def ZE (p:MG):List Nat:=Qy p.lO++Qy p.dO
theorem QT.lt {base:Nat} {w:World} {b:Ja} {p:MG} (h:QT base w b p):∀x∈ZE p,base<=x/\x<w.heap.size:=fun x hx=>by
 rcases List.mem_append.1 hx with hx | hx
 ·exact h.loc.lt x hx
 ·exact h.dry.lt x hx
theorem QT.ext {base:Nat} {w w':World} {b:Ja} {p:MG} {bs:List Nat} (h:QT base w b p) (hx:Q0 bs w w') (hd:∀x∈ZE p,x∉bs):QT base w' b p:=
 ⟨h.loc.ext hx fun x hm=>hd x (List.mem_append_left _ hm),h.dry.ext hx fun x hm=>hd x (List.mem_append_right _ hm)⟩
theorem QT.ext0 {base:Nat} {w w':World} {b:Ja} {p:MG} (h:QT base w b p) (hx:Q0 [] w w'):QT base w' b p:=h.ext hx (by simp)
theorem QT.extB {base:Nat} {w w':World} {b:Ja} {p:MG} {bs:List Nat} (h:QT base w b p) (hx:Q0 bs w w') (hb:∀x∈bs,x<base):QT base w' b p:=h.ext hx fun x hm hm'=>by
 have:=(h.lt x hm).1;have:=hb x hm';omega
theorem QT.mono {base base':Nat} {w:World} {b:Ja} {p:MG} (h:QT base w b p) (hb:base'<=base):QT base' w b p:=⟨h.loc.mono hb,h.dry.mono hb⟩
theorem QT.stoL {base:Nat} {w:World} {b:Ja} {p:MG} (h:QT base w b p) {c:Int} (c0:0<=c) (c1:c<(b.locals.length:Int)) (x:Int):QT base (sto w p.lO (Int.toNat c*1) [.int .i64 x]) { b with locals:=b.locals.set c.toNat x } p:=
 ⟨h.loc.sto Yg.len c0 c1 (j:=0) (vs:=[.int .i64 x]) (x:=x) rfl (by simp),h.dry.ext (h.loc.stoX _ _) (h.dry.ty_ne h.loc (by decide))⟩
theorem QT.stoD {base:Nat} {w:World} {b:Ja} {p:MG} (h:QT base w b p) {c:Int} (c0:0<=c) (c1:c<(b.dry.length:Int)) (x:Bool):QT base (sto w p.dO (Int.toNat c*1) [.bool x]) { b with dry:=b.dry.set c.toNat x } p:=
 ⟨h.loc.ext (h.dry.stoX _ _) (h.loc.ty_ne h.dry (by decide)),h.dry.sto X5.len c0 c1 (j:=0) (vs:=[.bool x]) (x:=x) rfl (by simp)⟩
theorem QT.xL {base:Nat} {w:World} {b:Ja} {p:MG} (h:QT base w b p) (n:Nat) (vs:List Value):Q0 (ZE p) w (sto w p.lO n vs):=(h.loc.stoX n vs).mono fun x hx=>List.mem_append_left _ hx
theorem QT.xD {base:Nat} {w:World} {b:Ja} {p:MG} (h:QT base w b p) (n:Nat) (vs:List Value):Q0 (ZE p) w (sto w p.dO n vs):=(h.dry.stoX n vs).mono fun x hx=>List.mem_append_right _ hx
section
variable {b:Ja} {m:MG} {w:World}
theorem K3 {α:Type} [Inhabited α] {l:List α} {i:Nat} (h:i<l.length):l.take i++[gi l (i:Int)]=l.take (i+1):=by
 rw [List.take_succ_eq_append_getElem h,JD h]
theorem GU (h1:zka [] w m.lO b.locals) (h2:znl [] w m.dO b.dry) (hd:b.dry.length=b.locals.length) (hl:b.locals.length<=1048576) :
  Cz VU #[.agg (Z3 b m).toArray] w fun e w'=>∃p,e = .returned (.agg (Z3 b p).toArray)/\QT w.heap.size w' b p/\Q0 [] w w':=by
 refine (zbi b.quota b.pool b.spent m.lO b.locals.length m.lC m.dO b.dry.length m.dC (R:=fun v w'=>∃p,v = .agg (Z3 b p).toArray/\QT w.heap.size w' b p/\Q0 [] w w') ?_).mono fun e w' ⟨v,he,p,hv,h3⟩=>⟨p,by rw [he,hv],h3⟩
 intro x hx0 x5 hx5 x6 hx6
 refine ⟨fun vs w1=>∃(i:Nat) (p:MG),vs=[.int .i64 (i:Int),.int .i64 b.quota,.int .i64 b.pool,.int .i64 b.spent,.slice p.lO (b.locals.take i).length p.lC,.slice p.dO (b.dry.take i).length p.dC]/\i<=b.locals.length/\Sc w [x,x5,x6] w1/\Ob XY 1 Qc w.heap.size [x,x5,x6] w1 p.lO p.lC (b.locals.take i)/\Ob Mc 1 Yy w.heap.size [x,x5,x6] w1 p.dO p.dC (b.dry.take i),
  Zw b.locals.length 0,fun wr hx _=>⟨0,⟨none,0,none,0,none,0⟩,by simp,Nat.zero_le _,(((Sc.start w).add hx0).add hx5 |>.add hx6).call0 hx,⟨.inl ⟨rfl,rfl,rfl⟩,by simp [Qy]⟩,⟨.inl ⟨rfl,rfl,rfl⟩,by simp [Qy]⟩⟩,?_⟩
 rintro c1 l l1 l2 l3O l3L l3C l4O l4L l4C wv hs ⟨i,p,he,hi,s1,hO,hD⟩;simp only [List.cons.injEq,Value.int.injEq,Value.slice.injEq,true_and,and_true] at he;obtain ⟨rfl,rfl,rfl,rfl,⟨rfl,rfl,rfl⟩,rfl,rfl,rfl⟩:=he;refine ⟨fun hlt => ?_,fun hge => ?_⟩
 ·have hlt:=of_decide_eq_true hlt;have hr1:=h1.scb s1;refine ⟨hr1.ix Vr (by omega) hlt,_,hr1 i (by omega) hlt,fun b8 hb8=>⟨rfl,fun wr3 hx3 hs3 hcell => ?_⟩⟩;have s2:=s1.put hx3 hb8;have hO2:=hO.put hx3 hb8;have hD2:=hD.put hx3 hb8;obtain ⟨o2,c2,w2,hrun,hk2,hO3,hy2⟩:=hO2.app1 Yg Pq (x:=gi b.locals (i:Int)) hs3 s2.ext.size hcell (zsc _) (by rw [List.length_take]; omega) (by decide) Y3 #[false,false];rw [K3 (by omega)] at hrun hO3;have s3:=s2.call hy2 fun x hm=>(hO2.own.lt x hm).1
  have hD3:=hD2.call hy2 (hD2.own.ty_ne hO2.own (by decide));have hr2:=h2.scb s3;refine ⟨_,_,_,w2,hrun,hk2,hr2.ix BL (by omega) (by omega),_,hr2 i (by omega) (by omega),fun b9 hb9=>⟨rfl,fun wr4 hx4 hs4 hcell4 => ?_⟩⟩;have s4:=s3.put hx4 hb9;have hO4:=hO3.put hx4 hb9;have hD4:=hD3.put hx4 hb9;obtain ⟨o4,c4,w4,hrun4,hk4,hD5,hy4⟩:=hD4.app1 X5 DY (x:=gi b.dry (i:Int)) hs4 s4.ext.size hcell4 (zs1 _) (by rw [List.length_take]; omega) (by decide) Ux #[false,false];rw [K3 (by omega)] at hrun4 hD5;have s5:=s4.call hy4 fun x hm=>(hD4.own.lt x hm).1
  have hO5:=hO4.call hy4 (hO4.own.ty_ne hD4.own (by decide));refine ⟨_,_,_,w4,hrun4,hk4,⟨by omega,by omega⟩,fun w5 hx5 _=>⟨⟨i+1,⟨o2,c2,o4,c4,none,0⟩,rfl,by omega,(s5.step hx5).sub (by simp),(hO5.step hx5).sub (by simp),(hD5.step hx5).sub (by simp)⟩,?_⟩⟩;simp only [Zw,XM,ZW,List.getElem?_cons_zero];omega
 ·have hge:=of_decide_eq_false hge;have e1:b.locals.take i=b.locals:=List.take_of_length_le (by omega);have e2:b.dry.take i=b.dry:=List.take_of_length_le (by omega);rw [e1] at hO ⊢;rw [e2] at hD ⊢;exact fun w2 hx2=>⟨p,rfl,⟨(hO.step hx2).own,(hD.step hx2).own⟩,(s1.step hx2).ext⟩
theorem znc (l:List Bool) (k:Nat) (h:k<l.length):(List.replicate k false++l.drop k).set k false=List.replicate (k+1) false++l.drop (k+1):=by
 rw [List.set_append,if_neg (by simp),List.length_replicate,Nat.sub_self,List.drop_eq_getElem_cons h,List.set_cons_zero,List.replicate_succ',List.append_assoc,List.singleton_append]
theorem GV {base:Nat} (h:QT base w b m) (hl:b.dry.length<=1048576) :
  Cz VV #[.agg (Z3 b m).toArray] w fun e w'=>e = .returned (.agg (Z3 b m).toArray)/\QT base w' { b with dry:=List.replicate b.dry.length false } m/\Q0 (ZE m) w w':=by
 refine (zbj b.quota b.pool b.spent m.lO b.locals.length m.lC m.dO b.dry.length m.dC (R:=fun v w'=>v = .agg (Z3 b m).toArray/\QT base w' { b with dry:=List.replicate b.dry.length false } m/\Q0 (ZE m) w w') ?_).mono fun e w' ⟨v,he,hv,h3⟩=>⟨by rw [he,hv],h3⟩
 intro x hx0 x5 hx5
 have hnb:∀y∈ZE m,y∉[x,x5]:=fun y hy hm=>by
  have:=(h.lt y hy).2;simp only [List.mem_cons,List.not_mem_nil,or_false] at hm;rcases hm with rfl | rfl <;> omega
 have hfr:∀y∈[x,x5],w.heap.size<=y:=fun y hm=>by
  simp only [List.mem_cons,List.not_mem_nil,or_false] at hm;rcases hm with rfl | rfl <;> assumption
 refine Of b.dry.length 0 rfl (fun k w1=>k<=b.dry.length/\QT base w1 { b with dry:=List.replicate k false++b.dry.drop k } m/\Q0 (ZE m) w w1) (fun w1 hx1 _=>⟨Nat.zero_le _,by simpa using h.ext0 hx1,hx1.of_nil⟩) fun k w1 hs ⟨hk,hO,hX⟩=>⟨fun hlt => ?_,fun hge => ?_⟩
 ·have hlt:=of_decide_eq_true hlt;have hlen:(List.replicate k false++b.dry.drop k).length=b.dry.length:=by simp; omega
  have e1:=hO.stoD (c:=(k:Int)) (by omega) (by show (k:Int)<((List.replicate k false++b.dry.drop k).length:Int); rw [hlen]; exact hlt) false;have e2:({ b with dry:=(List.replicate k false++b.dry.drop k).set k false }:Ja)={ b with dry:=List.replicate (k+1) false++b.dry.drop (k+1) }:=by rw [znc _ _ (by omega)]
  have hix:=hO.dry.ix (i:=(k:Int)) (by omega) (by show (k:Int)<((List.replicate k false++b.dry.drop k).length:Int); rw [hlen]; exact hlt);have hwr:=hO.dry.wr X5.len (bs:=[x,x5]) (fun y hy=>hnb y (List.mem_append_right _ hy)) (i:=(k:Int)) (by omega) (by show (k:Int)<((List.replicate k false++b.dry.drop k).length:Int); rw [hlen]; exact hlt) (j:=0) (n:=1) (by decide);refine ⟨by rw [<-hlen]; exact hix,hwr,⟨by omega,by omega⟩,fun w2 hx2 _=>QX (by omega) ⟨by omega,?_,(hX.trans (hO.xD _ _)).fresh hx2 fun y hy=>.inl (hfr y hy)⟩⟩;rw [Int.toNat_natCast] at e1;have:=(e2▸e1:QT base (sto w1 m.dO (k*1) [.bool false]) { b with dry:=List.replicate (k+1) false++b.dry.drop (k+1) } m);exact this.ext (by rw [Int.toNat_natCast] at hx2; exact hx2) hnb
 ·have hge:=of_decide_eq_false hge;have hk2:k=b.dry.length:=by omega
  subst hk2;rw [List.drop_length,List.append_nil] at hO;exact fun w2 hx2=>⟨rfl,hO.ext hx2 hnb,hX.fresh hx2 fun y hy=>.inl (hfr y hy)⟩
theorem zb2 {p:Int} (h:0<=p):0<=ZT 20 p/\ZT 20 p<=p:=by unfold ZT; split <;> omega
theorem XT {op:zpv} (hb:Vd b) (h1:zka [] w m.lO b.locals) (h2:znl [] w m.dO b.dry) :
  Cz ZX #[.agg (Z3 b m).toArray,.agg (zk4 op).toArray] w fun e w'=>∃p,e = .returned (.tuple #[.agg (Z3 (Yu b op).1 p).toArray,.int .i64 (Yu b op).2])/\QT w.heap.size w' (Yu b op).1 p/\Q0 [] w w':=by
 refine (AL b.quota b.pool b.spent m.lO b.locals.length m.lC m.dO b.dry.length m.dC op.kind op.at' op.n (R:=fun v w'=>∃p,v = .tuple #[.agg (Z3 (Yu b op).1 p).toArray,.int .i64 (Yu b op).2]/\QT w.heap.size w' (Yu b op).1 p/\Q0 [] w w') ?_).mono fun e w' ⟨v,he,p,hv,h3⟩=>⟨p,by rw [he,hv],h3⟩
 have hm9:=Zg;have hl2:=hb.l2;have hdl:=hb.dl;have q1:=hb.q1;have q2:=hb.q2;have p1:=hb.p1;have p2:=hb.p2;have s1':=hb.s1;have s2':=hb.s2;intro x hx0 x5 hx5 x6 hx6;have hok:=KY (bs:=[]) h1 h2 (by omega);rw [Qi.2 hb] at hok;refine ⟨true,hok,fun h=>by simp at h,fun _ wr1 hx1 hs1 => ?_⟩;have t1:=((((Sc.start w).add hx0).add hx5).add hx6).call0 hx1;refine (GU (h1.ext hx1) (h2.ext hx1) hdl (by omega)).mono fun e wv ⟨p,he,hO,hy1⟩=>⟨_,_,_,_,_,_,_,_,_,he,Qe hy1 hs1,fun g4 => ?_,fun g4 => ?_⟩
 ·have g4:op.kind=4:=by simpa using g4
  have t2:=t1.call0 hy1;have hbl:∀y∈[x,x5,x6],y<wr1.heap.size:=hs1;refine fun wr2 hx2 hs2=>⟨_,_,_,_,MZ Yg Pq b.dry.length (by omega) (by omega) wr2,Qe (Z9 _ _) hs2,fun wr3 hx3 hs3 => ?_⟩
  have hLo:=(T8 (enc:=XY) Yg.len Qc b.dry.length (0:Int) wr2).ext hx3 fun y hy hm=>by
   have:y=wr2.heap.size:=by simpa [Qy] using hy
   have:=hs2 y hm;omega
  have hD3:Jr Mc 1 Yy wr1.heap.size wr3 p.dO p.dC b.dry:=((hO.extB hx2 hbl).ext0 (Z9 wr2 _)).extB hx3 hbl |>.dry
  have hsz1:wr1.heap.size<=wr2.heap.size:=Nat.le_trans hy1.size hx2.size;have hB3:QT wr1.heap.size wr3 { b with locals:=List.replicate b.dry.length 0 } ⟨some ⟨wr2.heap.size,0,none⟩,b.dry.length,p.dO,p.dC,none,0⟩:=⟨hLo.mono hsz1,hD3⟩;have t3:=((t2.step hx2).call0 (Z9 wr2 (.cells ((List.replicate b.dry.length (0:Int)).flatMap XY).toArray Qc))).step hx3;have hw:=GV (b:=⟨b.quota,b.quota,0,List.replicate b.dry.length 0,b.dry⟩) (m:=⟨some ⟨wr2.heap.size,0,none⟩,b.dry.length,p.dO,p.dC,none,0⟩) (base:=wr1.heap.size) ⟨hB3.loc,hB3.dry⟩ (by show b.dry.length<=_; omega);simp only [Z3,List.length_replicate] at hw;refine Calls.mono hw fun e w4 ⟨he4,hO4,hy4⟩=>⟨_,_,_,_,_,_,_,_,_,he4,fun y hm=>hy4.block y (hs3 y hm) fun hm' => ?_,fun wr4 hx4=>⟨⟨some ⟨wr2.heap.size,0,none⟩,b.dry.length,p.dO,p.dC,none,0⟩,?_,?_,?_⟩⟩
  ·have:=(hB3.lt y hm').1;have:=hs1 y hm;omega
  ·have:Yu b op=(JC b,0):=by unfold Yu; rw [if_pos g4]
   rw [this]; simp [Z3,JC]
  ·have:Yu b op=(JC b,0):=by unfold Yu; rw [if_pos g4]
   rw [this]
   exact (QT.mono ⟨hO4.loc,hO4.dry⟩ hx1.size).ext hx4 fun y hy hm=>by
    have:=(hB3.lt y hy).1;have:=hs1 y hm;omega
  ·exact ((t3.call hy4 fun y hy=>Nat.le_trans hx1.size (hB3.lt y hy).1).step hx4).ext
 ·have g4:¬op.kind=4:=by simpa using g4
  have t2:=t1.call0 hy1
  have hbl:∀y∈ZE p,y∉[x,x5,x6]:=fun y hy hm=>by
   have:=(hO.lt y hy).1;have:=hs1 y hm;omega
  have hO0:QT w.heap.size wv b p:=hO.mono hx1.size
  have fin:∀{b':Ja} {c:Int} {w1 w2:World},Yu b op=(b',c)->QT w.heap.size w1 b' p->Q0 (ZE p) wv w1->Q0 [x,x5,x6] w1 w2->QT w.heap.size w2 (Yu b op).1 p/\Q0 [] w w2:=fun e hB hX hx=>by
   rw [e];exact ⟨hB.ext hx hbl,((t2.call hX fun y hy=>(hO0.lt y hy).1).step hx).ext⟩
  have hr1:zka [x,x5,x6] wv p.lO b.locals:=hO.loc.rd Yg.len fun y hy=>hbl y (List.mem_append_left _ hy)
  refine ⟨⟨by omega,by omega⟩,_,Qj,fun g5 wr hx=>⟨p,?_,fin (b':=b) (c:=1) ?_ hO0 (Q0.refl _ _) hx⟩,fun g5 => ?_⟩
  ·have:Yu b op=(b,1):=by unfold Yu; rw [if_neg g4,if_pos (by simpa using g5)]
   rw [this]; rfl
  ·unfold Yu; rw [if_neg g4,if_pos (by simpa using g5)]
  have g5':Yn op.at' 0 ((b.locals.length:Int) - 1)=true:=by simpa using g5
  have hbd:Yu b op=if op.kind=1 then Yt b op.at' else if op.kind=2 then VQ b op.at' op.n else if op.kind=3 then (Yd b op.at',0) else (b,1):=by
   unfold Yu; rw [if_neg g4,if_neg (by rw [g5']; decide)]
  obtain ⟨c0,c1⟩:=Qm.1 g5';have c1:op.at'<(b.locals.length:Int):=by omega
  have he':=hb.each _ c0 c1;have hix:=hr1.ix Vr c0 c1;have hwL:Xg [x,x5,x6] wv p.lO (Int.toNat op.at'*1) 1:=hO.loc.wr Yg.len (fun y hy=>hbl y (List.mem_append_left _ hy)) c0 c1 (j:=0) (by decide);refine ⟨fun g6 => ?_,fun g6 => ?_⟩
  ·have g6:op.kind=1:=by simpa using g6
   rw [if_pos g6] at hbd;refine ⟨hix,_,hr1 _ c0 c1,fun g7 wr hx=>⟨p,?_,fin (b':=b) (c:=0) ?_ hO0 (Q0.refl _ _) hx⟩,fun g7 => ?_⟩
   ·rw [hbd]; unfold Yt; rw [if_pos (of_decide_eq_true g7)]; rfl
   ·rw [hbd]; unfold Yt; rw [if_pos (of_decide_eq_true g7)]
   have g7:=of_decide_eq_false g7;have ht:Yt b op.at'=(⟨b.quota,b.pool - ZT 20 b.pool,b.spent,b.locals.set op.at'.toNat (ZT 20 b.pool),b.dry.set op.at'.toNat (ZT 20 b.pool==0)⟩,if ZT 20 b.pool=0 then 2 else 0):=by unfold Yt; rw [if_neg g7]
   rw [ht] at hbd;have hm:=zb2 p1;have e1:=hO0.stoL c0 c1 (ZT 20 b.pool);have e2:=e1.stoD (c:=op.at') c0 (by show op.at'<(b.dry.length:Int); omega) (ZT 20 b.pool==0);have hX:=(hO0.xL (Int.toNat op.at'*1) [.int .i64 (ZT 20 b.pool)]).trans (e1.xD (Int.toNat op.at'*1) [.bool (ZT 20 b.pool==0)]);refine ⟨_,XH,⟨by omega,by omega⟩,hix,hwL,e1.dry.ix c0 (by show op.at'<(b.dry.length:Int); omega),e1.dry.wr X5.len (fun y hy=>hbl y (List.mem_append_right _ hy)) c0 (by show op.at'<(b.dry.length:Int); omega) (j:=0) (by decide),fun g8 wr hx=>⟨p,?_,fin hbd ⟨e2.loc,e2.dry⟩ hX hx⟩,fun g8 wr hx=>⟨p,?_,fin hbd ⟨e2.loc,e2.dry⟩ hX hx⟩⟩
   ·rw [hbd,if_pos (by simpa using g8)]; simp [Z3]
   ·rw [hbd,if_neg (by simpa using g8)]; simp [Z3]
  ·have g6:¬op.kind=1:=by simpa using g6
   rw [if_neg g6] at hbd;refine ⟨fun g7 => ?_,fun g7 => ?_⟩
   ·have g7:op.kind=2:=by simpa using g7
    rw [if_pos g7] at hbd;refine ⟨fun _=>hix,_,fun _=>hr1 _ c0 c1,fun g8 wr hx=>⟨p,?_,fin (b':=b) (c:=3) ?_ hO0 (Q0.refl _ _) hx⟩,fun g8 => ?_⟩
    ·rw [hbd]; unfold VQ; rw [if_pos (by simpa using g8)]; rfl
    ·rw [hbd]; unfold VQ; rw [if_pos (by simpa using g8)]
    have g8':¬(op.n<1\/op.n>gi b.locals op.at'):=by simpa using g8
    have ht:VQ b op.at' op.n=({ b with spent:=b.spent+op.n,locals:=b.locals.set op.at'.toNat (gi b.locals op.at' - op.n) },0):=by unfold VQ; rw [if_neg g8']
    rw [ht] at hbd;have e1:=hO0.stoL c0 c1 (gi b.locals op.at' - op.n);refine ⟨hix,_,hr1 _ c0 c1,⟨by omega,by omega⟩,hix,hwL,⟨by omega,by omega⟩,fun wr hx=>⟨p,?_,fin hbd ⟨e1.loc,e1.dry⟩ (hO0.xL _ _) hx⟩⟩;rw [hbd]; simp [Z3]
   ·have g7:¬op.kind=2:=by simpa using g7
    rw [if_neg g7] at hbd;refine ⟨fun g8 => ?_,fun g8 wr hx=>⟨p,?_,fin (b':=b) (c:=1) ?_ hO0 (Q0.refl _ _) hx⟩⟩
    ·have g8:op.kind=3:=by simpa using g8
     rw [if_pos g8] at hbd;have e1:=hO0.stoL c0 c1 0;refine ⟨hix,_,hr1 _ c0 c1,⟨by omega,by omega⟩,hix,hwL,fun g9 wr hx hs => ?_,fun g9 wr hx=>⟨p,?_,fin hbd ?_ (hO0.xL _ _) hx⟩⟩
     ·have g9:=of_decide_eq_true g9;have e2:QT w.heap.size wr ⟨b.quota,b.pool+gi b.locals op.at',b.spent,b.locals.set op.at'.toNat 0,b.dry⟩ p:=QT.ext ⟨e1.loc,e1.dry⟩ hx hbl;have hw:=GV e2 (by show b.dry.length<=_; omega);simp only [Z3,List.length_set] at hw;refine Calls.mono hw fun e w4 ⟨he4,hO4,hy4⟩=>⟨_,_,_,_,_,_,_,_,_,he4,fun y hm=>hy4.block y (hs y hm) fun hm'=>hbl y hm' hm,fun wr4 hx4=>⟨p,?_,?_,?_⟩⟩
      ·rw [hbd]; simp [Z3,Yd,if_pos g9]
      ·rw [hbd];have:Yd b op.at'=⟨b.quota,b.pool+gi b.locals op.at',b.spent,b.locals.set op.at'.toNat 0,List.replicate b.dry.length false⟩:=by unfold Yd; rw [if_pos g9]
       rw [this];exact QT.ext ⟨hO4.loc,hO4.dry⟩ hx4 hbl
      ·exact ((((t2.call (hO0.xL _ _) fun y hy=>(hO0.lt y hy).1).step hx).call hy4 fun y hy=>(hO0.lt y hy).1).step hx4).ext
     ·have g9:=of_decide_eq_false g9;rw [hbd]; simp [Z3,Yd,if_neg g9]
     ·have g9:=of_decide_eq_false g9;have:Yd b op.at'=⟨b.quota,b.pool+gi b.locals op.at',b.spent,b.locals.set op.at'.toNat 0,b.dry⟩:=by unfold Yd; rw [if_neg g9]
      rw [this];exact ⟨e1.loc,e1.dry⟩
    ·rw [hbd,if_neg (by simpa using g8)]; rfl
    ·rw [hbd,if_neg (by simpa using g8)]
end
end Go.Proofs.YtclpmgfpjeaibaaGreat
