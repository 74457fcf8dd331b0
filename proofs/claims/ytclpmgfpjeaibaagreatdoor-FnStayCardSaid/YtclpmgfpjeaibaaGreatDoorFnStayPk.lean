/- Part 11 of what the law FnStay needs: the engine, the functions' propositions, the contracts. -/
import Derived.Test.YtclpmgfpjeaibaaGreatDoorFnStayPj
namespace Go.Proofs.YtclpmgfpjeaibaaGreatDoor
open Go.RowKit
set_option linter.unusedVariables false
set_option linter.unusedSimpArgs false
set_option maxRecDepth 10000
structure ShP (W:Wld):Prop where
 n1:0<=W.now
 n2:W.now<=100000000000000000
 c1:1<=W.cpus.length
 c2:W.cpus.length<=4
 t:W.tasks.length=12
 tree:zeb W.groups
 ups:upsD W.cpus≠0
structure QuoP (W:Wld) (g:Grp):Prop where
 none:g.band.quota=0->zpa g.band=true/\g.period=0/\g.next=0
 band:g.band.quota≠0->BndP g.band/\g.band.locals.length=W.cpus.length/\1<=g.period/\g.period<=1000/\W.now<g.next/\g.next - W.now<=g.period
structure GrpV (W:Wld) (g:Grp):Prop where
 w1:1<=g.weight
 w2:g.weight<=20
 m:mOk g.cpus=true
 m0:g.cpus≠0
 s:tmOk g.sum=true
 len:g.shelves.length=W.cpus.length
 q:QuoP W g
def GrpQ (W:Wld) (k:Int):Prop:=((gi W.groups k).used=false->GrpN (gi W.groups k))/\((gi W.groups k).used=true->GrpV W (gi W.groups k))
theorem zur {W:Wld} {k:Int}:GrpP W k↔GrpQ W k/\((gi W.groups k).used=true->k=0->(gi W.groups k).weight=10/\(gi W.groups k).cpus=15/\(gi W.groups k).band.quota=0):=by
 constructor
 ·intro p
  exact ⟨⟨p.1,fun hu=>by have q:=p.2 hu; exact ⟨q.w1,q.w2,q.m,q.m0,q.s,q.len,⟨q.none,q.band⟩⟩⟩,fun hu=>(p.2 hu).root⟩
 ·rintro ⟨p,r⟩
  exact ⟨p.1,fun hu=>by have q:=p.2 hu; exact ⟨q.w1,q.w2,q.m,q.m0,q.s,q.len,r hu,q.q.none,q.q.band⟩⟩
section
variable {W:Wld} {m:MW} {w:World} {bs:List Nat} {p:Option Addr}
theorem zzz {k:Int} (h:WPt bs w p W m) (n1:0<=W.now) (n2:W.now<=100000000000000000) (k0:0<=k) (k1:k<(W.groups.length:Int)) (hf:FitG (gi W.groups k)) :
  zad bs Tryz.prog zds #[.pointer p,.agg (encG (gi W.groups k) (m.ms k.toNat)).toArray] w (.bool (decB (QuoP W (gi W.groups k)))):=
 zot p (gi W.groups k).used (gi W.groups k).parent (gi W.groups k).name (gi W.groups k).weight (gi W.groups k).cpus (gi W.groups k).period (gi W.groups k).next (gi W.groups k).sum (gi W.groups k).band.quota (gi W.groups k).band.pool (gi W.groups k).band.spent (m.ms k.toNat).lO (gi W.groups k).band.locals.length (m.ms k.toNat).lC (m.ms k.toNat).dO (gi W.groups k).band.dry.length (m.ms k.toNat).dC (m.ms k.toNat).sO (gi W.groups k).shelves.length (m.ms k.toNat).sC fun wr hx=>by
  have h:=(h.ext hx).less (cs:=[]) (by simp)
  have hp:((decB (BndP (gi W.groups k).band)&&(((gi W.groups k).band.locals.length:Nat):Int)==((W.cpus.length:Nat):Int))&&inB (gi W.groups k).period 1 1000)=true->1<=(gi W.groups k).period/\(gi W.groups k).period<=1000:=fun q=>by
   simp only [Bool.and_eq_true] at q
   exact za6.1 q.2
  refine fun _ _=>⟨_,zna (b:=(gi W.groups k).band) (m:=m.ms k.toNat),fun g=>zom ?_,fun g=>⟨_,z3e (b:=(gi W.groups k).band) (m:=m.ms k.toNat) (h.rd.g.locals k k0 k1) (h.rd.g.dry k k0 k1) hf.lo,fun _=>h.some,_,_,_,fun _=>h.cpus,_,fun _=>zap,fun _=>h.some,_,fun _=>h.now,fun _=>⟨by omega,by omega⟩,fun _=>h.some,_,fun _=>h.now,fun q=>⟨by have:=hp q; omega,by have:=hp q; omega⟩,_,fun _=>zap,zom ?_⟩⟩
  ·have q0:=(zq8 g).1
   simp only [Bool.and_eq_true,beq_iff_eq]
   exact ⟨fun e=>⟨fun _=>⟨g,e.1,e.2⟩,fun hne=>absurd q0 hne⟩,fun q=>(q.none q0).2⟩
  ·simp only [Bool.and_eq_true,beq_iff_eq,zbp,za6]
   constructor
   ·rintro ⟨⟨⟨e1,e2⟩,e3⟩,e4⟩
    have:=e1.q1
    exact ⟨fun hz=>by omega,fun _=>⟨e1,by omega,e3.1,e3.2,by omega,by omega⟩⟩
   ·intro q
    have hq:(gi W.groups k).band.quota≠0:=fun e=>by
     have:=(q.none e).1
     rw [this] at g; cases g
    have r:=q.band hq
    exact ⟨⟨⟨r.1,by have:=r.2.1; omega⟩,r.2.2.1,r.2.2.2.1⟩,by have:=r.2.2.2.2.1; omega,by have:=r.2.2.2.2.2; omega⟩
theorem zw9 (h:WPt bs w p W m) (hs:ShP W) (hf:∀i:Int,0<=i->i<(W.groups.length:Int)->FitG (gi W.groups i)):zad bs Tryz.prog zdh #[.pointer p] w (.bool (decB (∀k:Int,0<=k->k<8->GrpP W k))):=
 znn p fun wr hx=>by
  have h:=(h.ext hx).less (cs:=[]) (by simp)
  have hgl:=hs.tree.len
  refine ⟨h.some,_,_,_,h.groups,?_⟩
  refine zgs W.groups.length 0 rfl (fun k=>k<=W.groups.length/\∀j:Int,0<=j->j<(k:Int)->GrpQ W j) ⟨Nat.zero_le _,fun j h0 h1=>by omega⟩ fun k ⟨hk,hI⟩=>⟨fun hlt => ?_,fun hge => ?_⟩
  ·have hlt:=of_decide_eq_true hlt
   have k0:(0:Int)<=(k:Int):=by omega
   have nxt:GrpQ W (k:Int)->∀j:Int,0<=j->j<((k+1:Nat):Int)->GrpQ W j:=fun hq j h0 h1=>by
    by_cases hjk:j<(k:Int)
    ·exact hI j h0 hjk
    ·have:j=(k:Int):=by omega
     subst this; exact hq
   refine ⟨h.rd.g.ix k0 hlt,_,_,_,_,_,_,_,_,_,_,_,_,_,_,_,_,_,_,_,_,h.rd.g.cells k k0 hlt,fun _ _=>⟨fun g => ?_,fun g => ?_⟩⟩
   ·have hu:(gi W.groups (k:Int)).used=false:=by simpa using g
    refine ⟨_,zt9 (g:=gi W.groups (k:Int)) (m:=m.ms (k:Int).toNat) hu,fun g2=>noP fun pp => ?_,fun g2=>⟨⟨by omega,by omega⟩,zar (by omega) ⟨by omega,nxt ⟨fun _=>zbp.1 (by simpa using g2),fun hu'=>by rw [hu'] at hu; cases hu⟩⟩⟩⟩
    have g2:decB (GrpN (gi W.groups (k:Int)))=false:=by simpa using g2
    exact zta.1 g2 ((zur.1 (pp (k:Int) k0 (by omega))).1.1 hu)
   ·have hu:(gi W.groups (k:Int)).used=true:=by simpa using g
    have bad:¬GrpV W (gi W.groups (k:Int))->¬∀k:Int,0<=k->k<8->GrpP W k:=fun hn pp=>hn ((zur.1 (pp (k:Int) k0 (by omega))).1.2 hu)
    refine ⟨_,zj0,_,fun _=>znc,fun g2 b1 hb1=>⟨tmOk (gi W.groups (k:Int)).sum,fun _ wx hxw hcx=>tm1 hcx,fun _=>h.some,_,_,_,fun _=>h.cpus,_,fun _=>zzz h hs.n1 hs.n2 k0 hlt (hf _ k0 hlt),fun g3=>noP (bad fun q => ?_),fun g3=>⟨⟨by omega,by omega⟩,zar (by omega) ⟨by omega,nxt ⟨fun hu'=>(by rw [hu'] at hu; cases hu),fun _ => ?_⟩⟩⟩⟩,fun g2=>⟨fun e=>(by cases e),none,0,0,fun e=>(by cases e),false,fun e=>(by simp at e),fun g3=>noP (bad fun q=>g2 ?_),fun g3=>(by simp at g3)⟩⟩
    ·have e1:inB (gi W.groups (k:Int)).weight 1 20=true:=za6.2 ⟨q.w1,q.w2⟩
     have e2:((gi W.groups (k:Int)).cpus != 0)=true:=by simpa using q.m0
     have e5:(((gi W.groups (k:Int)).shelves.length:Nat):Int)=((W.cpus.length:Nat):Int):=by have:=q.len; omega
     rw [e1,e2,q.m,q.s,e5,zbp.2 q.q] at g3
     simp at g3
    ·simp only [Bool.or_eq_false_iff,Bool.not_eq_false',bne_eq_false_iff_eq,za6,Bool.and_eq_true,bne_iff_ne,zbp] at g3
     obtain ⟨⟨⟨⟨a1,a2⟩,a3⟩,a4⟩,a5⟩:=g3
     exact ⟨a1.1,a1.2,a2.2,a2.1,a3,by omega,a5⟩
    ·have e1:inB (gi W.groups (k:Int)).weight 1 20=true:=za6.2 ⟨q.w1,q.w2⟩
     have e2:((gi W.groups (k:Int)).cpus != 0)=true:=by simpa using q.m0
     rw [e1,e2,q.m]; rfl
  ·have hge:=of_decide_eq_false hge
   have h0:(0:Int)<(W.groups.length:Int):=by omega
   refine ⟨h.some,_,_,_,h.groups,h.rd.g.ix (by decide) h0,_,_,_,_,_,_,_,_,_,_,_,_,_,_,_,_,_,_,_,_,h.rd.g.cells 0 (by decide) h0,fun _ _=>zom ?_⟩
   simp only [Bool.and_eq_true,beq_iff_eq]
   constructor
   ·rintro ⟨⟨e1,e2⟩,e3⟩ j j0 j1
    exact zur.2 ⟨hI j j0 (by omega),fun _ hj=>by subst hj; exact ⟨e1,e2,e3⟩⟩
   ·intro pp
    have r:=(zur.1 (pp 0 (by decide) (by decide))).2 hs.tree.ru rfl
    exact ⟨⟨r.1,r.2.1⟩,r.2.2⟩
theorem ShP.wa (hs:ShP W) (hg:∀k:Int,0<=k->k<8->GrpP W k):WA W:=⟨hs.n1,hs.n2,hs.c1,hs.c2,hs.t,hs.tree,hs.ups,hg⟩
theorem zag7 {n:Int}:inB n (-10) 9=true↔zai n≠0:=by
 unfold zai
 cases h:inB n (-10) 9 with
 | true=>
  have:=za6.1 h
  simp; omega
 | false=>simp
def TskQ (W:Wld) (t:Int):Prop:=TskP W t/\((tkk W t).state=1->tmOk (shf W (tkk W t).group (tkk W t).cpu).floor=true)
theorem zz3 (h:WPt bs w p W m) (ha:WA W) (lg:W.groups.length<=maxLen):zad bs Tryz.prog zdu #[.pointer p] w (.bool (decB (∀t:Int,0<=t->t<12->TskQ W t))):=
 zov p fun wr hx=>by
  have h:=(h.ext hx).less (cs:=[]) (by simp)
  have hgl:=ha.gl
  have htl:=ha.t
  refine ⟨h.some,_,_,_,h.tasks,?_⟩
  refine zgs W.tasks.length 0 rfl (fun k=>k<=W.tasks.length/\∀j:Int,0<=j->j<(k:Int)->TskQ W j) ⟨Nat.zero_le _,fun j h0 h1=>by omega⟩ fun k ⟨hk,hI⟩=>⟨fun hlt => ?_,fun hge => ?_⟩
  ·have hlt:=of_decide_eq_true hlt
   have k0:(0:Int)<=(k:Int):=by omega
   have nxt:TskQ W (k:Int)->InR .i64 ((k:Int)+1)/\cntI (fun k=>k<=W.tasks.length/\∀j:Int,0<=j->j<(k:Int)->TskQ W j) [.int .i64 ((k:Int)+1)]/\cntM W.tasks.length 0 [.int .i64 ((k:Int)+1)]<cntM W.tasks.length 0 [.int .i64 (k:Int)]:=fun hq=>⟨⟨by omega,by omega⟩,zar (by omega) ⟨by omega,fun j h0 h1=>by
    by_cases hjk:j<(k:Int)
    ·exact hI j h0 hjk
    ·have:j=(k:Int):=by omega
     subst this; exact hq⟩⟩
   have bad:¬TskQ W (k:Int)->¬∀t:Int,0<=t->t<12->TskQ W t:=fun hn pp=>hn (pp (k:Int) k0 (by omega))
   refine ⟨h.rd.t.ix zce k0 hlt,_,_,_,_,_,_,_,_,_,h.rd.t k k0 hlt,fun _ _=>⟨_,fun wq=>z1g zw0 (z7q (gi W.tasks (k:Int)) zn6) _ _ wq,fun g => ?_,fun g => ?_⟩⟩
   ·rw [z8h,decide_eq_true_eq] at g
    have hz:tkk W (k:Int)=zn6:=g
    exact nxt ⟨.inl ⟨by rw [hz]; rfl,hz⟩,fun e=>by rw [hz] at e; cases e⟩
   ·rw [z8h,decide_eq_false_iff_not] at g
    have hz:¬tkk W (k:Int)=zn6:=g
    have get:TskQ W (k:Int)->TskU W (gi W.tasks (k:Int)):=fun q=>by
     rcases q.1 with ⟨_,e⟩ | ⟨_,q⟩
     ·exact absurd e hz
     ·exact q
    refine ⟨fun _=>h.some,_,_,_,fun _=>h.groups,_,fun _=>zmd (c:=m.gC) h.rd.g lg,_,fun _=>zqv,_,fun _=>znc,fun g2=>noP (bad fun q => ?_),fun g2 b1 hb1 => ?_⟩
    ·have q:=get q
     have e3:inB (gi W.tasks (k:Int)).nice (-10) 9=true:=zag7.2 q.n
     have e4:((gi W.tasks (k:Int)).mask != 0)=true:=by simpa using q.m0
     rw [q.g,e3,q.m,e4] at g2
     simp only [Bool.not_true,Bool.or_false,Bool.and_true,Bool.and_eq_true,bne_iff_ne] at g2
     have:=q.st
     omega
    ·simp only [Bool.or_eq_false_iff,Bool.not_eq_false',Bool.and_eq_true,bne_iff_ne] at g2
     obtain ⟨⟨⟨a1,a2⟩,a3⟩,a4⟩:=g2
     have st:(gi W.tasks (k:Int)).state=1\/(gi W.tasks (k:Int)).state=2:=by
      by_cases h1:(gi W.tasks (k:Int)).state=1
      ·exact .inl h1
      ·refine .inr ?_
       have:((gi W.tasks (k:Int)).state != 1)=true:=by simpa using h1
       rw [this,Bool.true_and] at a1
       simpa using a1
     refine ⟨_,fun wx hxw hcx=>tm3 hcx,_,fun _=>z3k,_,fun _=>zzw h ha.c2 ha.tree k0 hlt a2,_,fun _=>zzu,fun g3=>noP (bad fun q => ?_),fun g3 => ?_⟩
     ·have q:=get q
      have e4:inB (gi W.tasks (k:Int)).load 0 8000000=true:=za6.2 ⟨q.l1,q.l2⟩
      have e5:mHas (zch W (tkk W (k:Int)).group (tkk W (k:Int)).mask) (gi W.tasks (k:Int)).cpu=true:=q.c
      rw [q.v,q.s,q.u,e4,e5] at g3
      cases g3
     ·simp only [Bool.or_eq_false_iff,Bool.not_eq_false',za6,Bool.and_eq_true] at g3
      obtain ⟨⟨b1',b2⟩,b3⟩:=g3
      obtain ⟨u1,u2,_⟩:=zac.1 a2
      obtain ⟨c0,c1⟩:=zwe ha b3
      have hsl:=ha.sl a2
      have c2:(gi W.tasks (k:Int)).cpu<((gi W.groups (gi W.tasks (k:Int)).group).shelves.length:Int):=by omega
      have sh:=h.sh (g:=(gi W.tasks (k:Int)).group) u1 u2 c0 c2
      have mk:(((tkk W (k:Int)).state=1->tmOk (shf W (tkk W (k:Int)).group (tkk W (k:Int)).cpu).floor=true/\zpc (gi W.tasks (k:Int)).v (shf W (gi W.tasks (k:Int)).group (gi W.tasks (k:Int)).cpu).floor (zai (gi W.tasks (k:Int)).nice)=true))->TskQ W (k:Int):=fun hf=>⟨.inr ⟨fun e=>by
        have e:(gi W.tasks (k:Int)).state=0:=e
        omega,⟨st,a2,zag7.1 a3,a4.2,a4.1,b1'.1,b1'.2.1,b1'.2.2,b2.1,b2.2,b3,fun e=>(hf e).2⟩⟩,fun e=>(hf e).1⟩
      refine ⟨_,_,zgn,_,zbh h u1 u2 c0 c2,sh.1,_,sh.2 (j:=0) rfl,fun _ b2 hb2=>⟨tmOk (shf W (gi W.tasks (k:Int)).group (gi W.tasks (k:Int)).cpu).floor,fun _ wx hxw hcx=>tm1 hcx,_,fun _ _=>zjy,_,fun g4 _=>zo3 b1'.1 (by simpa using g4),fun g4=>noP (bad fun q => ?_),fun g4=>nxt (mk fun e => ?_)⟩,fun g4=>⟨fun e=>(by cases e),fun _=>nxt (mk fun e=>absurd (beq_iff_eq.2 e) g4)⟩⟩
      ·simp only [Bool.and_eq_true,beq_iff_eq,Bool.or_eq_true,Bool.not_eq_true'] at g4
       have e1:=(get q).f g4.1
       have e2:=q.2 g4.1
       rcases g4.2 with g5 | g5
       ·have e2:tmOk (shf W (gi W.tasks (k:Int)).group (gi W.tasks (k:Int)).cpu).floor=true:=e2
        rw [e2] at g5; cases g5
       ·rw [e1] at g5; cases g5
      ·have e':((gi W.tasks (k:Int)).state==1)=true:=beq_iff_eq.2 e
       rw [e',Bool.true_and] at g4
       simp only [Bool.or_eq_false_iff,Bool.not_eq_false'] at g4
       exact g4
  ·have hge:=of_decide_eq_false hge
   exact yesP fun t h0 h1=>hI t h0 (by omega)
theorem zua (h:WPt bs w p W m) (ha:WA W) (hf:∀i:Int,0<=i->i<(W.groups.length:Int)->FitG (gi W.groups i)):zad bs Tryz.prog zc5 #[.pointer p] w (.bool (decB (∀k c:Int,0<=k->k<8->0<=c->c<((gi W.groups k).shelves.length:Int)->ShfP W k c))):=
 zmp p fun wr hx=>by
  have h:=(h.ext hx).less (cs:=[]) (by simp)
  have hgl:=ha.gl
  have hcl:=ha.c2
  let TS:=fun (k c:Int)=>tmOk (shf W k c).floor=true/\tmOk (shf W k c).v=true/\tmOk (shf W k c).sum=true/\1<=(shf W k c).w/\(shf W k c).w<=20
  have ts:(∀k c:Int,0<=k->k<8->0<=c->c<((gi W.groups k).shelves.length:Int)->ShfP W k c)->∀k c:Int,0<=k->k<8->0<=c->c<((gi W.groups k).shelves.length:Int)->TS k c:=fun q k c h0 h1 h2 h3=>by
   have r:=q k c h0 h1 h2 h3
   exact ⟨r.f,r.v,r.s,r.w1,r.w2⟩
  refine ⟨h.some,_,_,_,h.groups,?_⟩
  refine zgs W.groups.length 0 rfl (fun k=>k<=W.groups.length/\∀j c:Int,0<=j->j<(k:Int)->0<=c->c<((gi W.groups j).shelves.length:Int)->TS j c) ⟨Nat.zero_le _,fun j c h0 h1=>by omega⟩ fun k ⟨hk,hI⟩=>⟨fun hlt => ?_,fun hge => ?_⟩
  ·have hlt:=of_decide_eq_true hlt
   have k0:(0:Int)<=(k:Int):=by omega
   have hsm:(gi W.groups (k:Int)).shelves.length<=maxLen:=(hf _ k0 hlt).sh
   refine ⟨h.rd.g.ix k0 hlt,_,_,_,_,_,_,_,_,_,_,_,_,_,_,_,_,_,_,_,_,h.rd.g.cells k k0 hlt,fun _ _ => ?_⟩
   refine zgs (gi W.groups (k:Int)).shelves.length 0 rfl (fun c=>c<=(gi W.groups (k:Int)).shelves.length/\∀d:Int,0<=d->d<(c:Int)->TS (k:Int) d) ⟨Nat.zero_le _,fun j h0 h1=>by omega⟩ fun c ⟨hc,hJ⟩=>⟨fun hltc => ?_,fun hgec => ?_⟩
   ·have hltc:=of_decide_eq_true hltc
    have c0:(0:Int)<=(c:Int):=by omega
    have rs:=h.rd.g.shelves (k:Int) k0 hlt
    refine ⟨rs.ix ze4 c0 hltc,_,_,_,_,_,rs c c0 hltc,fun _ _ b2 hb2=>⟨_,fun wx hxw hcx=>tm3 hcx,_,fun _=>zj0,fun g=>noP fun q => ?_,fun g=>⟨z7w hltc hsm,zar (by omega) ⟨by omega,fun d h0 h1 => ?_⟩⟩⟩⟩
    ·have r:=ts q (k:Int) (c:Int) k0 (by omega) c0 hltc
     have e4:inB (shf W (k:Int) (c:Int)).w 1 20=true:=za6.2 ⟨r.2.2.2.1,r.2.2.2.2⟩
     have g':((!(tmOk (shf W (k:Int) (c:Int)).floor&&(tmOk (shf W (k:Int) (c:Int)).v&&tmOk (shf W (k:Int) (c:Int)).sum))) || !inB (shf W (k:Int) (c:Int)).w 1 20)=true:=g
     rw [r.1,r.2.1,r.2.2.1,e4] at g'
     cases g'
    ·by_cases hjk:d<(c:Int)
     ·exact hJ d h0 hjk
     ·have:d=(c:Int):=by omega
      subst this
      have g':((!(tmOk (shf W (k:Int) (c:Int)).floor&&(tmOk (shf W (k:Int) (c:Int)).v&&tmOk (shf W (k:Int) (c:Int)).sum))) || !inB (shf W (k:Int) (c:Int)).w 1 20)=false:=g
      simp only [Bool.or_eq_false_iff,Bool.not_eq_false',Bool.and_eq_true,za6] at g'
      exact ⟨g'.1.1,g'.1.2.1,g'.1.2.2,g'.2.1,g'.2.2⟩
   ·have hgec:=of_decide_eq_false hgec
    refine ⟨⟨by omega,by omega⟩,zar (by omega) ⟨by omega,fun j d h0 h1 h2 h3 => ?_⟩⟩
    by_cases hjk:j<(k:Int)
    ·exact hI j d h0 hjk h2 h3
    ·have:j=(k:Int):=by omega
     subst this
     exact hJ d h2 (by omega)
  have hge:=of_decide_eq_false hge
  have hT:∀j c:Int,0<=j->j<8->0<=c->c<((gi W.groups j).shelves.length:Int)->TS j c:=fun j c h0 h1=>hI j c h0 (by omega)
  refine ⟨h.some,_,_,_,h.cpus,?_⟩
  refine zgs W.cpus.length 0 rfl (fun c=>c<=W.cpus.length/\∀d k:Int,0<=d->d<(c:Int)->0<=k->k<8->d<((gi W.groups k).shelves.length:Int)->ShfP W k d) ⟨Nat.zero_le _,fun j k h0 h1=>by omega⟩ fun c ⟨hc,hJ⟩=>⟨fun hltc => ?_,fun hgec => ?_⟩
  ·have hltc:=of_decide_eq_true hltc
   have c0:(0:Int)<=(c:Int):=by omega
   obtain ⟨r1,r2,_⟩:=zac.1 ha.root
   have hrc:(c:Int)<((gi W.groups 0).shelves.length:Int):=by rw [ha.sl ha.root]; exact hltc
   have sh:=h.sh (g:=0) r1 r2 c0 hrc
   have tr:=hT 0 (c:Int) (by decide) (by decide) c0 hrc
   refine ⟨_,_,zgn,fun _ _=>⟨_,zbh h r1 r2 c0 hrc,sh.1,(shf W 0 (c:Int)).on,sh.2 (j:=1) rfl,fun _=>sh.1,(shf W 0 (c:Int)).v,fun _=>sh.2 (j:=2) rfl,fun _=>sh.1,(shf W 0 (c:Int)).w,fun _=>sh.2 (j:=3) rfl,fun g=>noP fun q => ?_,fun g => ?_⟩⟩
   ·have r:=(q 0 (c:Int) (by decide) (by decide) c0 hrc).root rfl
    rw [r.1,r.2.1,r.2.2] at g
    simp at g
   simp only [Bool.or_eq_false_iff,bne_eq_false_iff_eq] at g
   have root:ShfP W 0 (c:Int):=⟨tr.1,tr.2.1,tr.2.2.1,tr.2.2.2.1,tr.2.2.2.2,fun _=>⟨g.1.1,g.1.2,g.2⟩,fun hne=>absurd rfl hne,fun hne=>absurd rfl hne⟩
   refine zgs 8 1 rfl (fun k=>1<=k/\k<=8/\∀j:Int,0<=j->j<(k:Int)->(c:Int)<((gi W.groups j).shelves.length:Int)->ShfP W j (c:Int)) ⟨Nat.le_refl _,by omega,fun j h0 h1 _=>by
    have:j=0:=by omega
    subst this; exact root⟩ fun k ⟨hk1,hk,hK⟩=>⟨fun hlt => ?_,fun hge2 => ?_⟩
   ·have hlt:=of_decide_eq_true hlt
    have k0:(0:Int)<=(k:Int):=by omega
    have kl:(k:Int)<(W.groups.length:Int):=by omega
    have nxt:((c:Int)<((gi W.groups (k:Int)).shelves.length:Int)->ShfP W (k:Int) (c:Int))->InR .i64 ((k:Int)+1)/\cntI (fun k=>1<=k/\k<=8/\∀j:Int,0<=j->j<(k:Int)->(c:Int)<((gi W.groups j).shelves.length:Int)->ShfP W j (c:Int)) [.int .i64 ((k:Int)+1)]/\cntM 8 0 [.int .i64 ((k:Int)+1)]<cntM 8 0 [.int .i64 (k:Int)]:=fun hq=>⟨⟨by omega,by omega⟩,zar (by omega) ⟨by omega,by omega,fun j h0 h1 h2=>by
     by_cases hjk:j<(k:Int)
     ·exact hK j h0 hjk h2
     ·have:j=(k:Int):=by omega
      subst this; exact hq h2⟩⟩
    refine ⟨h.some,_,_,_,h.groups,h.rd.g.ix k0 kl,_,h.rd.g.used k0 kl,fun g2=>nxt fun hh => ?_,fun g2 => ?_⟩
    ·have hu:(gi W.groups (k:Int)).used=false:=by simpa using g2
     have:=((ha.grp (k:Int) k0 (by omega)).1 hu).l
     omega
    ·have hus:(gi W.groups (k:Int)).used=true:=by simpa using g2
     have hu:zae W.groups (k:Int)=true:=zac.2 ⟨k0,kl,hus⟩
     have hkc:(c:Int)<((gi W.groups (k:Int)).shelves.length:Int):=by rw [ha.sl hu]; exact hltc
     have hp:=ha.up hu (by omega)
     obtain ⟨v1,v2,_⟩:=zac.1 hp
     have hpc:(c:Int)<((gi W.groups (gi W.groups (k:Int)).parent).shelves.length:Int):=by rw [ha.sl hp]; exact hltc
     have sk:=h.sh (g:=(k:Int)) k0 kl c0 hkc
     have sp:=h.sh (g:=(gi W.groups (k:Int)).parent) v1 v2 c0 hpc
     have tk:=hT (k:Int) (c:Int) k0 (by omega) c0 hkc
     have tp:=hT (gi W.groups (k:Int)).parent (c:Int) v1 (by omega) c0 hpc
     refine ⟨_,zbh h k0 kl c0 hkc,sk.1,(shf W (k:Int) (c:Int)).on,sk.2 (j:=1) rfl,_,zlx h ha c0 hltc,_,fun _=>z03 h ha hu c0 hltc,fun _=>sk.1,(shf W (k:Int) (c:Int)).on,fun _=>sk.2 (j:=1) rfl,fun _ _=>sk.1,(shf W (k:Int) (c:Int)).v,fun _ _=>sk.2 (j:=2) rfl,fun _ _=>h.some,_,_,_,fun _ _=>h.groups,fun _ _=>h.rd.g.ix k0 kl,_,fun _ _=>h.rd.g.parent k0 kl,_,fun _ _=>zbh h v1 v2 c0 hpc,fun _ _=>sp.1,(shf W (gi W.groups (k:Int)).parent (c:Int)).floor,fun _ _=>sp.2 (j:=0) rfl,fun _ _=>sk.1,(shf W (k:Int) (c:Int)).w,fun _ _=>sk.2 (j:=3) rfl,_,fun _ _=>zo3 tk.2.1 tp.1,fun g3=>noP fun q => ?_,fun g3=>nxt fun _ => ?_⟩
     ·have r:=q (k:Int) (c:Int) k0 (by omega) c0 hkc
      have r1:=r.on (by omega)
      simp only [Bool.or_eq_true,Bool.and_eq_true,Bool.not_eq_true',beq_eq_false_iff_ne] at g3
      rcases g3 with g3 | g3
      ·exact g3 r1
      ·have:=r.st (by omega) g3.1
       rw [this] at g3
       cases g3.2
     ·simp only [Bool.or_eq_false_iff,Bool.not_eq_false',beq_iff_eq] at g3
      refine ⟨tk.1,tk.2.1,tk.2.2.1,tk.2.2.2.1,tk.2.2.2.2,fun e=>by omega,fun _=>g3.1,fun _ ho => ?_⟩
      have:=g3.2
      rw [ho,Bool.true_and] at this
      simpa using this
   ·have hge2:=of_decide_eq_false hge2
    refine ⟨⟨by omega,by omega⟩,zar (by omega) ⟨by omega,fun d k' h0 h1 h2 h3 h4 => ?_⟩⟩
    by_cases hdc:d<(c:Int)
    ·exact hJ d k' h0 hdc h2 h3 h4
    ·have:d=(c:Int):=by omega
     subst this
     exact hK k' h2 (by omega) h4
  ·have hgec:=of_decide_eq_false hgec
   refine yesP fun k d h0 h1 h2 h3=>hJ d k h2 ?_ h0 h1 h3
   have hus:(gi W.groups k).used=true:=by
    cases hu:(gi W.groups k).used with
    | true=>rfl
    | false=>
     have:=((ha.grp k h0 h1).1 hu).l
     omega
   have:=ha.sl (zac.2 ⟨h0,by omega,hus⟩)
   omega
theorem z3i (h:WPt bs w p W m) (ha:WA W) (hts:∀t:Int,0<=t->t<12->TskP W t) (hss:∀k c:Int,0<=k->k<8->0<=c->c<((gi W.groups k).shelves.length:Int)->ShfP W k c):zad bs Tryz.prog zd8 #[.pointer p] w (.bool (decB (∀c:Int,0<=c->c<(W.cpus.length:Int)->CpuP W c))):=
 zpw p fun wr hx=>by
  have h:=(h.ext hx).less (cs:=[]) (by simp)
  have hgl:=ha.gl
  have htl:=ha.t
  have hcl:=ha.c2
  have hm9:=zcx
  refine ⟨h.some,_,_,_,h.cpus,?_⟩
  refine zgs W.cpus.length 0 rfl (fun c=>c<=W.cpus.length/\∀j:Int,0<=j->j<(c:Int)->CpuP W j) ⟨Nat.zero_le _,fun j h0 h1=>by omega⟩ fun c ⟨hc,hI⟩=>⟨fun hlt => ?_,fun hge => ?_⟩
  ·have hlt:=of_decide_eq_true hlt
   have c0:(0:Int)<=(c:Int):=by omega
   have nxt:CpuP W (c:Int)->InR .i64 ((c:Int)+1)/\cntI (fun c=>c<=W.cpus.length/\∀j:Int,0<=j->j<(c:Int)->CpuP W j) [.int .i64 ((c:Int)+1)]/\cntM W.cpus.length 0 [.int .i64 ((c:Int)+1)]<cntM W.cpus.length 0 [.int .i64 (c:Int)]:=fun hq=>⟨⟨by omega,by omega⟩,zar (by omega) ⟨by omega,fun j h0 h1=>by
    by_cases hjk:j<(c:Int)
    ·exact hI j h0 hjk
    ·have:j=(c:Int):=by omega
     subst this; exact hq⟩⟩
   have bad:¬CpuP W (c:Int)->¬∀c:Int,0<=c->c<(W.cpus.length:Int)->CpuP W c:=fun hn pp=>hn (pp (c:Int) c0 hlt)
   refine ⟨h.rd.c.ix zeg c0 hlt,_,_,_,_,_,h.rd.c c c0 hlt,fun _ _ b1 hb1=>⟨_,fun wx hxw hcx=>tm2 hcx,fun g=>noP (bad fun q => ?_),fun g=>⟨fun g2=>nxt ?_,fun g2 => ?_⟩⟩⟩
   ·rw [q.b,q.i] at g; cases g
   ·simp only [Bool.not_eq_false',Bool.and_eq_true] at g
    simp only [Bool.and_eq_true,beq_iff_eq] at g2
    exact ⟨g.1,g.2,by omega,by omega,fun _=>g2.2,fun hh=>by omega⟩
   ·simp only [Bool.not_eq_false',Bool.and_eq_true] at g
    have ne:CpuP W (c:Int)->0<=(gi W.cpus (c:Int)).cur:=fun q=>by
     rcases Int.lt_or_le (gi W.cpus (c:Int)).cur 0 with hneg | hpos
     ·have e1:=q.c1
      have e2:=q.no hneg
      have e3:(gi W.cpus (c:Int)).cur = -1:=by omega
      rw [e3,e2] at g2
      simp at g2
     ·exact hpos
    have there:(inB (gi W.cpus (c:Int)).cur 0 ((W.tasks.length:Int) - 1)&&((tkk W (gi W.cpus (c:Int)).cur).state != 0))=true->0<=(gi W.cpus (c:Int)).cur/\(gi W.cpus (c:Int)).cur<(W.tasks.length:Int):=fun q=>by
     simp only [Bool.and_eq_true] at q
     have:=za6.1 q.1
     omega
    have lu:0<=(gi W.cpus (c:Int)).cur/\(gi W.cpus (c:Int)).cur<(W.tasks.length:Int)->(tkk W (gi W.cpus (c:Int)).cur).state=1->zae W.groups (tkk W (gi W.cpus (c:Int)).cur).group=true:=fun q hs=>(z3x ha (hts _ q.1 (by omega)) hs).1
    refine ⟨_,_,zgn,fun _ _=>⟨_,fun _=>zub h (by omega),((tkk W (gi W.cpus (c:Int)).cur).cpu==(c:Int))&&ze3 W (gi W.cpus (c:Int)).cur,fun q => ?_,_,fun _=>zap,fun g3=>noP (bad fun q => ?_),fun g3 => ?_⟩⟩
    ·simp only [Bool.or_eq_false_iff,Bool.not_eq_false'] at q
     have:=there q.2
     exact zqu h ha this.1 this.2 c0 hlt (lu this)
    ·have t0:=ne q
     have t1:=q.c2
     have y:=q.yes t0
     have e2:inB (gi W.cpus (c:Int)).cur 0 ((W.tasks.length:Int) - 1)=true:=za6.2 (by omega)
     have hst:(tkk W (gi W.cpus (c:Int)).cur).state=1:=(z73 (hts _ t0 (by omega)) y.2.2.2.2.1).2
     have e4:inB (gi W.cpus (c:Int)).ran 1 149=true:=za6.2 ⟨y.2.1,y.2.2.1⟩
     rw [y.1,e2,hst,y.2.2.2.1,y.2.2.2.2.1,e4] at g3
     simp at g3
    ·simp only [Bool.or_eq_false_iff,Bool.not_eq_false'] at g3
     obtain ⟨⟨⟨a1,a2⟩,a3⟩,a4⟩:=g3
     obtain ⟨t0,t1⟩:=there a2
     have a4:=za6.1 a4
     simp only [Bool.and_eq_true,beq_iff_eq] at a3
     obtain ⟨hcpu,hline⟩:=a3
     obtain ⟨q,_⟩:=z73 (hts _ t0 (by omega)) hline
     have au:=q.g
     obtain ⟨u1,u2,_⟩:=zac.1 au
     have sl:∀{x:Int},zae W.groups x=true->0<=x/\x<(W.groups.length:Int)/\(c:Int)<((gi W.groups x).shelves.length:Int)/\ShfP W x (c:Int):=fun {x} hx=>by
      obtain ⟨v1,v2,_⟩:=zac.1 hx
      have c3:(c:Int)<((gi W.groups x).shelves.length:Int):=by rw [ha.sl hx]; exact hlt
      exact ⟨v1,v2,c3,hss x (c:Int) v1 (by omega) c0 c3⟩
     obtain ⟨_,_,c2,sp⟩:=sl au
     have sh:=h.sh (g:=(tkk W (gi W.cpus (c:Int)).cur).group) u1 u2 c0 c2
     have mk:zsx W (c:Int)=true->CpuP W (c:Int):=fun hst=>⟨g.1,g.2,by omega,t1,fun hh=>by omega,fun _=>⟨a1,a4.1,a4.2,hcpu,hline,hst⟩⟩
     refine ⟨h.some,_,_,_,h.tasks,h.rd.t.ix zce t0 t1,_,_,_,_,_,_,_,_,_,h.rd.t _ t0 t1,fun _ _=>⟨h.rd.t _ t0 t1,rfl,h.tasks,_,zbh h u1 u2 c0 c2,sh.1,_,sh.2 (j:=0) rfl,z02 q.v sp.f,_,zjy,_,zdx,fun g4=>noP (bad fun qq => ?_),fun g4 => ?_⟩⟩
     ·have g4:=of_decide_eq_true g4
      have hd:¬((tkk W (gi W.cpus (c:Int)).cur).v - (shf W (tkk W (gi W.cpus (c:Int)).cur).group (c:Int)).floor<=zbn (gi W.cpus (c:Int)).ran (zai (tkk W (gi W.cpus (c:Int)).cur).nice)):=Int.not_le.2 g4
      have:=(qq.yes t0).2.2.2.2.2
      unfold zsx at this
      rw [decide_eq_false hd] at this
      cases this
     ·have g4:=of_decide_eq_false g4
      have hd:(tkk W (gi W.cpus (c:Int)).cur).v - (shf W (tkk W (gi W.cpus (c:Int)).cur).group (c:Int)).floor<=zbn (gi W.cpus (c:Int)).ran (zai (tkk W (gi W.cpus (c:Int)).cur).nice):=Int.not_lt.1 g4
      have hS:zsx W (c:Int)=zny W (tkk W (gi W.cpus (c:Int)).cur).group (c:Int) (gi W.cpus (c:Int)).ran:=by
       unfold zsx
       rw [decide_eq_true hd,Bool.true_and]
      refine ⟨fun vs=>∃x:Int,vs=[.int .i64 x]/\zae W.groups x=true/\zny W x (c:Int) (gi W.cpus (c:Int)).ran=zny W (tkk W (gi W.cpus (c:Int)).cur).group (c:Int) (gi W.cpus (c:Int)).ran,fun vs=>(dep 3 W.groups (zef 0 vs)).toNat,⟨_,rfl,au,rfl⟩,?_⟩
      rintro x ⟨x',he,hux,hJ⟩
      simp only [List.cons.injEq,Value.int.injEq,true_and,and_true] at he
      subst he
      refine ⟨fun hz => ?_,fun hz => ?_⟩
      ·have hz:x≠0:=by simpa using hz
       obtain ⟨hp,a,b,d,e,e2,hd⟩:=zd4 ha.tree hux hz
       obtain ⟨x1,x2,x3,xs⟩:=sl hux
       obtain ⟨p1,p2,p3,ps⟩:=sl hp
       have sx:=h.sh (g:=x) x1 x2 c0 x3
       have spp:=h.sh (g:=(gi W.groups x).parent) p1 p2 c0 p3
       unfold zny at hJ
       rw [zcf ha.tree hux hz,List.all_cons] at hJ
       refine ⟨_,zbh h x1 x2 c0 x3,sx.1,_,sx.2 (j:=2) rfl,h.some,_,_,_,h.groups,h.rd.g.ix x1 x2,_,h.rd.g.parent x1 x2,_,zbh h p1 p2 c0 p3,spp.1,_,spp.2 (j:=0) rfl,z02 xs.v ps.f,sx.1,_,sx.2 (j:=3) rfl,_,zdx,fun g5=>noP (bad fun qq => ?_),fun g5=>⟨h.some,_,_,_,h.groups,h.rd.g.ix x1 x2,_,h.rd.g.parent x1 x2,⟨_,rfl,hp,?_⟩,by
        show (dep 3 W.groups (gi W.groups x).parent).toNat<(dep 3 W.groups x).toNat
        omega⟩⟩
       ·have g5:=of_decide_eq_true g5
        have hd:¬((shf W x (c:Int)).v - (shf W (gi W.groups x).parent (c:Int)).floor<=zbn (gi W.cpus (c:Int)).ran (shf W x (c:Int)).w):=Int.not_le.2 g5
        rw [decide_eq_false hd,Bool.false_and] at hJ
        have:=(qq.yes t0).2.2.2.2.2
        rw [hS] at this
        unfold zny at this
        rw [<-hJ] at this
        cases this
       ·have g5:=of_decide_eq_false g5
        have hd:(shf W x (c:Int)).v - (shf W (gi W.groups x).parent (c:Int)).floor<=zbn (gi W.cpus (c:Int)).ran (shf W x (c:Int)).w:=Int.not_lt.1 g5
        rw [decide_eq_true hd,Bool.true_and] at hJ
        exact hJ
      ·have hz:x=0:=by simpa using hz
       subst hz
       refine nxt (mk ?_)
       rw [hS,<-hJ]
       unfold zny
       rw [show zbk W.groups 0=[] from zbm _ _,List.all_nil]
  ·have hge:=of_decide_eq_false hge
   exact yesP fun t h0 h1=>hI t h0 (by omega)
theorem zz2 (h:WPt bs w p W m) (lc:W.cpus.length<=maxLen) (lg:W.groups.length<=maxLen):zad bs Tryz.prog zdt #[.pointer p] w (.bool (decB (ShP W))):=
 zou p fun wr hx=>by
  have h:=(h.ext hx).less (cs:=[]) (by simp)
  refine ⟨h.some,_,h.now,fun b hb=>⟨tmOk W.now,fun wx hxw hcx=>tm1 hcx,fun _=>h.some,_,_,_,fun _=>h.cpus,_,fun _=>zap,upsD W.cpus,fun g=>zly h ?_,fun _=>h.some,_,_,_,fun _=>h.tasks,fun _=>h.some,_,_,_,fun _=>h.groups,zrq W.groups,fun _=>z3h h.rd.g lg,zom ?_⟩⟩
  ·simp only [Bool.and_eq_true,za6] at g
   omega
  ·simp only [Bool.and_eq_true,za6,beq_iff_eq,bne_iff_ne,ze9,zj9]
   constructor
   ·rintro ⟨⟨⟨⟨e1,e2⟩,e3⟩,e4⟩,e5⟩
    exact ⟨e1.1,e1.2,by omega,by omega,by omega,e5,e3⟩
   ·intro q
    have:=q.t
    have:=q.c1
    have:=q.c2
    exact ⟨⟨⟨⟨⟨q.n1,q.n2⟩,by omega⟩,q.ups⟩,by omega⟩,q.tree⟩
theorem zzv (h:RdW bs w W m) (lc:W.cpus.length<=maxLen) (lg:W.groups.length<=maxLen) (hf:∀i:Int,0<=i->i<(W.groups.length:Int)->FitG (gi W.groups i)) :
  zad bs Tryz.prog zjr #[.agg (encW W m).toArray] w (.bool (zbi W)):=by
 refine zri fun wr0 hx0=>zzk W.now m.cO W.cpus.length m.cC m.tO W.tasks.length m.tC m.gO W.groups.length m.gC (R:=fun v w'=>v = .bool (zbi W)/\ExtX [] wr0 w') ?_
 have h:=(h.ext hx0).less (cs:=[]) (by simp)
 intro b wb hxb hb hcell _ b1 hb1
 have hP:∀{bs:List Nat} {w1:World},ExtX [] wb w1->(∀x∈bs,wb.heap.size<=x)->WPt bs w1 (some ⟨b,0,none⟩) W m:=fun {bs w1} hx hbs=>by
  have hbn:b∉bs:=fun hm=>by
   have:=hbs b hm
   have:=zjm hcell
   omega
  have hrd:RdW bs w1 W m:=((h.ext hxb).wide (cs:=bs) fun x hm=>.inr (hbs x hm)).ext hx.of_nil
  exact ⟨zhp (za0 hcell hx (by simp)) hbn (k0:=0) fun j v hj=>by rw [Nat.zero_add,Nat.zero_add]; exact hj,hrd⟩
 let Cn:=fun (k:Nat)=>match k with
  | 0=>ShP W
  | 1=>∀k:Int,0<=k->k<8->GrpP W k
  | 2=>∀t:Int,0<=t->t<12->TskQ W t
  | 3=>∀k c:Int,0<=k->k<8->0<=c->c<((gi W.groups k).shelves.length:Int)->ShfP W k c
  | _=>∀c:Int,0<=c->c<(W.cpus.length:Int)->CpuP W c
 have all:WldP W->∀k:Nat,k<5->Cn k:=fun q k hk=>by
  have:k=0\/k=1\/k=2\/k=3\/k=4:=by omega
  rcases this with rfl | rfl | rfl | rfl | rfl
  ·exact ⟨q.a.n1,q.a.n2,q.a.c1,q.a.c2,q.a.t,q.a.tree,q.a.ups⟩
  ·exact q.a.grp
  ·refine fun t h0 h1=>⟨q.t t h0 h1,fun hs => ?_⟩
   have hu:=z3x q.a (q.t t h0 h1) hs
   obtain ⟨u1,u2,_⟩:=zac.1 hu.1
   have:=q.a.gl
   exact (q.s _ _ u1 (by omega) hu.2.1 (by rw [q.a.sl hu.1]; exact hu.2.2)).f
  ·exact q.s
  ·exact q.c
 have back:(∀k:Nat,k<5->Cn k)->WldP W:=fun q=>by
  have q0:ShP W:=q 0 (by decide)
  have q1:∀k:Int,0<=k->k<8->GrpP W k:=q 1 (by decide)
  have q2:∀t:Int,0<=t->t<12->TskQ W t:=q 2 (by decide)
  exact ⟨q0.wa q1,fun t h0 h1=>(q2 t h0 h1).1,q 3 (by decide),q 4 (by decide)⟩
 have cond:∀k:Nat,k<5->(∀j:Nat,j<k->Cn j)->∀{w1:World},ExtX [] wb w1->∃F:FuncId,(#[.func (.func zdt) #[] #[],.func (.func zdh) #[] #[],.func (.func zdu) #[] #[],.func (.func zc5) #[] #[],.func (.func zd8) #[] #[]]:Array Value)[k]? = some (.func (.func F) #[] #[])/\(∀(w:World) (x:Value),(zabg (.func (.func F) #[] #[]) [x]).run Tryz.prog w = .ok (.enter F #[x]) w)/\∃rv:Bool,(rv=true↔Cn k)/\zad [b1] Tryz.prog F #[.pointer (some ⟨b,0,none⟩)] w1 (.bool rv):=fun k hk hj {w1} hx=>by
  have hp:=hP (bs:=[b1]) hx (by simpa using hb1)
  have:k=0\/k=1\/k=2\/k=3\/k=4:=by omega
  rcases this with rfl | rfl | rfl | rfl | rfl
  ·exact ⟨_,rfl,fun _ _=>rfl,_,zbp,zz2 hp lc lg⟩
  ·have q0:ShP W:=hj 0 (by decide)
   exact ⟨_,rfl,fun _ _=>rfl,_,zbp,zw9 hp q0 hf⟩
  ·have q0:ShP W:=hj 0 (by decide)
   have q1:∀k:Int,0<=k->k<8->GrpP W k:=hj 1 (by decide)
   exact ⟨_,rfl,fun _ _=>rfl,_,zbp,zz3 hp (q0.wa q1) lg⟩
  ·have q0:ShP W:=hj 0 (by decide)
   have q1:∀k:Int,0<=k->k<8->GrpP W k:=hj 1 (by decide)
   exact ⟨_,rfl,fun _ _=>rfl,_,zbp,zua hp (q0.wa q1) hf⟩
  ·have q0:ShP W:=hj 0 (by decide)
   have q1:∀k:Int,0<=k->k<8->GrpP W k:=hj 1 (by decide)
   have q2:∀t:Int,0<=t->t<12->TskQ W t:=hj 2 (by decide)
   have q3:∀k c:Int,0<=k->k<8->0<=c->c<((gi W.groups k).shelves.length:Int)->ShfP W k c:=hj 3 (by decide)
   exact ⟨_,rfl,fun _ _=>rfl,_,zbp,z3i hp (q0.wa q1) (fun t h0 h1=>(q2 t h0 h1).1) q3⟩
 refine ⟨fun vs w1=>∃k:Nat,vs=[.bool true,.int .i64 (k:Int)]/\k<=5/\ExtX [] wb w1/\∀j:Nat,j<k->Cn j,zd5 5 1,fun wr hx _=>⟨0,rfl,by omega,hx,fun j hj=>absurd hj (Nat.not_lt_zero j)⟩,?_⟩
 rintro ok x w1 hs1 ⟨k,he,hk,hX,hI⟩
 simp only [List.cons.injEq,Value.int.injEq,Value.bool.injEq,true_and,and_true] at he
 obtain ⟨rfl,rfl⟩:=he
 have fr:∀{w2:World},ExtX [b1] w1 w2->ExtX [] wb w2:=fun {w2} hx=>hX.fresh hx fun y hm=>.inl (by
  have:y=b1:=by simpa using hm
  omega)
 refine ⟨fun hlt => ?_,fun hge wr hx=>⟨?_,hxb.trans (fr hx)⟩⟩
 ·have hlt:=of_decide_eq_true hlt
  obtain ⟨F,hF,_⟩:=cond k (by omega) hI hX
  refine ⟨.func F,#[],#[],⟨by omega,by omega,by rw [Int.toNat_natCast]; exact hF⟩,fun wr1 hx1 hs2 => ?_⟩
  obtain ⟨F',hF',hcv,rv,hrv,hpu⟩:=cond k (by omega) hI (fr hx1)
  rw [hF] at hF'
  simp only [Option.some.injEq,Value.func.injEq,Fn.func.injEq,and_self,and_true] at hF'
  subst hF'
  refine .inl ⟨F,#[.pointer (some ⟨b,0,none⟩)],?_,?_⟩
  ·exact hcv _ _
  ·refine (hpu wr1 (ExtX.refl _ _)).mono fun e w3 ⟨he,hx3⟩=>⟨rv,he,zaz hx3 hs2,fun g wr2 hx4=>⟨?_,hxb.trans ((fr hx1).trans hx3 |>.fresh hx4 fun y hm=>.inl (by
    have:y=b1:=by simpa using hm
    omega))⟩,fun g=>⟨⟨by omega,by omega⟩,fun wr3 hx4 _=>⟨⟨k+1,by simp,by omega,((fr hx1).trans hx3).fresh hx4 fun y hm=>.inl (by
    have:y=b1:=by simpa using hm
    omega),fun j hj => ?_⟩,zb0 (k:=k) rfl rfl (by omega)⟩⟩⟩
   ·have g:rv=false:=by simpa using g
    exact noP fun q=>by
     rw [hrv.2 (all q k (by omega))] at g; cases g
   ·by_cases hjk:j<k
    ·exact hI j hjk
    ·have:j=k:=by omega
     subst this
     exact hrv.1 (by simpa using g)
 ·have hge:=of_decide_eq_false hge
  have:k=5:=by omega
  subst this
  exact yesP (back hI)
end
theorem zsd:Elt Tryz.prog encC 5 zba 40 (⟨false,0,0,0,0⟩:Cpu):=ztb (by kernel_rfl) fun _=>rfl
theorem zma:Tryz.prog.underlying zbf=some (.slice zba):=by kernel_rfl
theorem zlr:Elt Tryz.prog encT 9 zau 72 (⟨0,0,0,0,0,0,0,0,0⟩:Tsk):=ztb (by kernel_rfl) fun _=>rfl
theorem zla:Tryz.prog.underlying za2=some (.slice zau):=by kernel_rfl
section
variable {W:Wld} {m:MW} {w w':World}
structure OwnW (base:Nat) (w:World) (W:Wld) (m:MW):Prop where
 c:Own encC 5 zba base w m.cO m.cC W.cpus
 t:Own encT 9 zau base w m.tO m.tC W.tasks
 g:∃ps:List (Grp×MG),ps.map (·.1)=W.groups/\(fun k:Nat=>(gi ps (k:Int)).2)=m.ms/\OwnG base w m.gO m.gC ps
theorem OwnW.mono {base base':Nat} (h:OwnW base w W m) (hb:base'<=base):OwnW base' w W m:=
 ⟨h.c.mono hb,h.t.mono hb,by
  obtain ⟨ps,h1,h2,h3⟩:=h.g
  exact ⟨ps,h1,h2,h3.mono hb⟩⟩
end
theorem z72 {x bt n:Nat} (hm:x∈[bt]) (h:n<=bt):n<=x:=by
 have:x=bt:=by simpa using hm
 omega
structure Sc (w0:World) (bs:List Nat) (w:World):Prop where
 ext:ExtX [] w0 w
 new:∀x∈bs,w0.heap.size<=x
theorem Sc.start (w:World):Sc w [] w:=⟨ExtX.refl _ _,by simp⟩
theorem Sc.step {w0:World} {bs:List Nat} {w w':World} (h:Sc w0 bs w) (hx:ExtX bs w w'):Sc w0 bs w':=⟨h.ext.fresh hx fun x hm=>.inl (h.new x hm),h.new⟩
theorem Sc.call {w0:World} {bs cs:List Nat} {w w':World} (h:Sc w0 bs w) (hx:ExtX cs w w') (hc:∀x∈cs,w0.heap.size<=x):Sc w0 bs w':=⟨h.ext.fresh hx fun x hm=>.inl (hc x hm),h.new⟩
theorem Sc.call0 {w0:World} {bs:List Nat} {w w':World} (h:Sc w0 bs w) (hx:ExtX [] w w'):Sc w0 bs w':=⟨h.ext.trans hx,h.new⟩
theorem Sc.add {w0:World} {bs:List Nat} {w:World} {b:Nat} (h:Sc w0 bs w) (hb:w.heap.size<=b):Sc w0 (bs++[b]) w:=⟨h.ext,fun x hm=>by
 rcases List.mem_append.1 hm with hm | hm
 ·exact h.new x hm
 ·have:x=b:=by simpa using hm
  have:=h.ext.size
  omega⟩
theorem Sc.sub {w0:World} {bs cs:List Nat} {w:World} (h:Sc w0 bs w) (hs:∀x∈cs,x∈bs):Sc w0 cs w:=⟨h.ext,fun x hm=>h.new x (hs x hm)⟩
theorem Sc.put {w0:World} {bs:List Nat} {w w':World} {b:Nat} (h:Sc w0 bs w) (hx:ExtX bs w w') (hb:w.heap.size<=b):Sc w0 (bs++[b]) w':=⟨(h.step hx).ext,(h.add hb).new⟩
theorem Sc.put2 {w0:World} {bs:List Nat} {w w':World} {b b2:Nat} (h:Sc w0 bs w) (hx:ExtX bs w w') (hb:w.heap.size<=b) (hb2:w.heap.size<=b2):Sc w0 (bs++[b]++[b2]) w':=⟨(h.step hx).ext,((h.add hb).add hb2).new⟩
structure Ob {α:Type} (enc:α->List Value) (z:Nat) (ty:TypeId) (base:Nat) (bs:List Nat) (w:World) (o:Option Addr) (cap:Nat) (l:List α):Prop where
 own:Own enc z ty base w o cap l
 nb:∀x∈za9 o,x∉bs
section
variable {α:Type} {enc:α->List Value} {z:Nat} {ty:TypeId} {base:Nat} {bs cs:List Nat} {w w':World} {o:Option Addr} {cap:Nat} {l:List α} {b:Nat}
theorem Ob.of (h:Own enc z ty base w o cap l) (hs:∀x∈bs,x<base):Ob enc z ty base bs w o cap l:=⟨h,fun x hx hm=>by
 have:=(h.lt x hx).1
 have:=hs x hm
 omega⟩
theorem Ob.step (h:Ob enc z ty base bs w o cap l) (hx:ExtX bs w w'):Ob enc z ty base bs w' o cap l:=⟨h.own.ext hx h.nb,h.nb⟩
theorem Ob.call0 (h:Ob enc z ty base bs w o cap l) (hx:ExtX [] w w'):Ob enc z ty base bs w' o cap l:=⟨h.own.ext0 hx,h.nb⟩
theorem Ob.call (h:Ob enc z ty base bs w o cap l) (hx:ExtX cs w w') (hd:∀x∈za9 o,x∉cs):Ob enc z ty base bs w' o cap l:=⟨h.own.ext hx hd,h.nb⟩
theorem Ob.add (h:Ob enc z ty base bs w o cap l) (hb:w.heap.size<=b):Ob enc z ty base (bs++[b]) w o cap l:=⟨h.own,fun x hx hm=>by
 rcases List.mem_append.1 hm with hm | hm
 ·exact h.nb x hx hm
 ·have:x=b:=by simpa using hm
  have:=(h.own.lt x hx).2
  omega⟩
theorem Ob.put (h:Ob enc z ty base bs w o cap l) (hx:ExtX bs w w') (hb:w.heap.size<=b):Ob enc z ty base (bs++[b]) w' o cap l:=⟨(h.step hx).own,(h.add hb).nb⟩
theorem Ob.put2 {b2:Nat} (h:Ob enc z ty base bs w o cap l) (hx:ExtX bs w w') (hb:w.heap.size<=b) (hb2:w.heap.size<=b2):Ob enc z ty base (bs++[b]++[b2]) w' o cap l:=⟨(h.step hx).own,((h.add hb).add hb2).nb⟩
theorem Ob.sub (h:Ob enc z ty base bs w o cap l) (hs:∀x∈cs,x∈bs):Ob enc z ty base cs w o cap l:=⟨h.own,fun x hx hm=>h.nb x hx (hs x hm)⟩
theorem Ob.mono {base':Nat} (h:Ob enc z ty base bs w o cap l) (hb:base'<=base):Ob enc z ty base' bs w o cap l:=⟨h.own.mono hb,h.nb⟩
theorem Ob.rd0 [Inhabited α] (h:Ob enc z ty base bs w o cap l) (hz:∀x,(enc x).length=z):Rd enc z [] w o l:=h.own.rd hz (by simp)
end
theorem Rd.scb {α:Type} [Inhabited α] {enc:α->List Value} {z:Nat} {w0:World} {bs:List Nat} {w:World} {o:Option Addr} {l:List α} (h:Rd enc z [] w0 o l) (hs:Sc w0 bs w):Rd enc z bs w o l:=(h.wide (cs:=bs) fun x hm=>.inr (hs.new x hm)).ext hs.ext.of_nil
theorem zn8 {bs cs:List Nat} {w w':World} (hx:ExtX cs w w') (hs:∀b∈bs,b<w.heap.size) (hd:∀x∈cs,x∉bs):Kept bs w w':=fun x hm=>hx.block x (hs x hm) fun hm'=>hd x hm' hm
theorem Ob.app1 {α:Type} [Inhabited α] {P:Program} {enc:α->List Value} {z:Nat} {ty t:TypeId} {bytes:Nat} {zero:α} (E:Elt P enc z ty bytes zero) (ht:P.underlying t=some (.slice ty)) {base:Nat} {bs:List Nat} {w:World} {o:Option Addr} {cap:Nat} {l:List α} (hO:Ob enc z ty base bs w o cap l)
  (hs:∀x∈bs,x<w.heap.size) (hbase:base<=w.heap.size) {x:α} {b:Nat} {t':TypeId} {fz:Nat×Nat} (hb:w.heap[b]? = some (.cells (enc x).toArray t' fz)) (h1:zbd (enc x)=true) (hl:l.length<=1048576) (hby:bytes<=1000) (tr:TypeId) (cs:Array Bool) :
  ∃o' cap' w',(builtin .append #[t,t] tr cs #[.slice o l.length cap,.slice (some ⟨b,0,none⟩) 1 1]).run P w = .ok (.value (.slice o' (l++[x]).length cap')) w'/\Kept bs w w'/\Ob enc z ty base bs w' o' cap' (l++[x])/\ExtX (za9 o) w w':=by
 have hbb:(2*(l.length+1))*bytes<=281474976710656:=Nat.le_trans (Nat.mul_le_mul (show 2*(l.length+1)<=2097154 by omega) hby) (by decide)
 obtain ⟨o2,c2,w2,hrun,hO2,hx2,ho2⟩:=zaf2 E ht hO.own hb h1 hbb (by omega) tr cs hbase
 refine ⟨o2,c2,w2,hrun,fun y hm=>hx2.block y (hs y hm) fun hm'=>hO.nb y hm' hm,⟨hO2,fun y hy hm => ?_⟩,hx2⟩
 rcases ho2 with rfl | rfl
 ·exact hO.nb y hy hm
 ·have:y=w.heap.size:=by simpa [za9] using hy
  have:=hs y hm
  omega
def sumF (f:Nat->Int):Nat->Int
 | 0=>0
 | k+1=>sumF f k+f k
theorem z1o {f:Nat->Int} {B:Int} (h:∀j,0<=f j/\f j<=B):∀k:Nat,0<=sumF f k/\sumF f k<=(k:Int)*B
 | 0=>by simp [sumF]
 | k+1=>by
  have ih:=z1o h k
  have:=h k
  simp only [sumF]
  rw [show ((k+1:Nat):Int)*B=(k:Int)*B+B by rw [show ((k+1:Nat):Int)=(k:Int)+1 by omega,Int.add_mul,Int.one_mul]]
  omega
theorem z0o (n:Int):0<=zai n/\zai n<=20:=by
 unfold zai
 split
 ·rename_i h
  have:=za6.1 h
  omega
 ·omega
def zwd (W:Wld) (c:Int):Bool:=inB c 0 ((W.cpus.length:Int) - 1)
theorem z7k {W:Wld} {c:Int} (h:zwd W c=true):0<=c/\c<(W.cpus.length:Int):=by have:=za6.1 h; omega
structure LenW (W:Wld):Prop where
 c:W.cpus.length<=maxLen
 t:W.tasks.length<=maxLen
 g:W.groups.length<=maxLen
 f:∀i:Int,0<=i->i<(W.groups.length:Int)->FitG (gi W.groups i)
section
variable {W:Wld} {m:MW} {w:World} {bs:List Nat} {p:Option Addr}
theorem WPt.sc {w0 w1:World} (h:WPt [] w0 p W m) (s:Sc w0 bs w1):WPt bs w1 p W m:=(h.wide (cs:=bs) fun x hm=>.inr (s.new x hm)).ext s.ext.of_nil
end
def zbb (p:Nat->Bool) (v:Nat->Int):Nat->Int
 | 0 => -1
 | k+1=>if (p k&&(decide (zbb p v k<0)||decide (v k<v (zbb p v k).toNat)))=true then (k:Int) else zbb p v k
theorem zbz (p:Nat->Bool) (v:Nat->Int):∀k:Nat,(zbb p v k = -1/\∀j,j<k->p j=false) \/
  (0<=zbb p v k/\zbb p v k<(k:Int)/\p (zbb p v k).toNat=true/\(∀j,j<k->p j=true->v (zbb p v k).toNat<=v j)/\∀j:Nat,(j:Int)<zbb p v k->p j=true->v (zbb p v k).toNat<v j)
 | 0=>.inl ⟨rfl,fun j hj=>absurd hj (Nat.not_lt_zero j)⟩
 | k+1=>by
  simp only [zbb]
  split
  ·rename_i h
   simp only [Bool.and_eq_true,Bool.or_eq_true,decide_eq_true_eq] at h
   refine .inr ⟨by omega,by omega,by simpa using h.1,fun j hj hp => ?_,fun j hj hp => ?_⟩
   ·rw [Int.toNat_natCast]
    by_cases hjk:j=k
    ·subst hjk; exact Int.le_refl _
    ·rcases zbz p v k with ⟨_,h2⟩ | ⟨h1,_,_,h4,_⟩
     ·rw [h2 j (by omega)] at hp; cases hp
     ·have:=h4 j (by omega) hp
      rcases h.2 with h5 | h5 <;> omega
   ·rw [Int.toNat_natCast]
    rcases zbz p v k with ⟨_,h2⟩ | ⟨h1,_,_,h4,_⟩
    ·rw [h2 j (by omega)] at hp; cases hp
    ·have:=h4 j (by omega) hp
     rcases h.2 with h5 | h5 <;> omega
  ·rename_i h
   rcases zbz p v k with ⟨h1,h2⟩ | ⟨h1,h2,h3,h4,h5⟩
   ·refine .inl ⟨h1,fun j hj => ?_⟩
    by_cases hjk:j=k
    ·subst hjk
     cases hp:p j with
     | false=>rfl
     | true=>
      exfalso; apply h
      rw [hp,h1]; rfl
    ·exact h2 j (by omega)
   ·refine .inr ⟨h1,by omega,h3,fun j hj hp => ?_,h5⟩
    by_cases hjk:j=k
    ·subst hjk
     rcases Int.lt_or_le (v j) (v (zbb p v j).toNat) with h6 | h6
     ·exfalso; apply h
      rw [hp,decide_eq_true h6]; simp
     ·exact h6
    ·exact h4 j (by omega) hp
theorem zaak {p:Nat->Bool} {v:Nat->Int} {n k:Nat} (hk:k<n) (hp:p k=true) (h0:0<=zbb p v n) (hv:v k=v (zbb p v n).toNat) (hb:∀j,j<k->p j=true->v j≠v (zbb p v n).toNat):zbb p v n=(k:Int):=by
 rcases zbz p v n with ⟨h1,_⟩ | ⟨_,h2,h3,h4,h5⟩
 ·omega
 ·by_cases hlt:(k:Int)<zbb p v n
  ·have:=h5 k hlt hp; omega
  ·by_cases hgt:zbb p v n<(k:Int)
   ·exact absurd rfl (hb _ (by omega) h3)
   ·omega
def minL (v:Nat->Int) (l:List Nat):Int:=l.foldl (fun (m:Int) x=>if (decide (m<0)||decide (v x<v m.toNat))=true then (x:Int) else m) (-1)
theorem zuu (v:Nat->Int) (l:List Nat) (x:Nat):minL v (l++[x])=if (decide (minL v l<0)||decide (v x<v (minL v l).toNat))=true then (x:Int) else minL v l:=by
 unfold minL
 rw [List.foldl_append]; rfl
theorem zpu (p:Nat->Bool) (v:Nat->Int):∀n:Nat,minL v ((List.range n).filter p)=zbb p v n
 | 0=>rfl
 | n+1=>by
  rw [List.range_succ,List.filter_append]
  simp only [zbb]
  cases hp:p n with
  | false=>simp [hp,zpu p v n]
  | true=>
   have:[n].filter p=[n]:=by simp [hp]
   rw [this,zuu,zpu p v n,Bool.true_and]
theorem zacu (v:Nat->Int):∀l:List Nat,l≠[]->0<=minL v l:=by
 have key:∀(l:List Nat) (m:Int),0<=m->0<=l.foldl (fun (m:Int) x=>if (decide (m<0)||decide (v x<v m.toNat))=true then (x:Int) else m) m:=fun l=>by
  induction l with
  | nil=>exact fun m h=>h
  | cons x l ih=>
   intro m h
   rw [List.foldl_cons]
   refine ih _ ?_
   split <;> omega
 intro l hl
 cases l with
 | nil=>exact absurd rfl hl
 | cons x l=>
  unfold minL
  rw [List.foldl_cons]
  refine key l _ ?_
  rw [if_pos (by simp)]; omega
def memP (W:Wld) (g c:Int) (i:Nat):Bool:=if i<12 then actT W g c i else actG W g c (i - 12)
def memV (W:Wld) (c:Int) (i:Nat):Int:=if i<12 then (tkk W (i:Int)).v else (shf W ((i - 12:Nat):Int) c).v
def zax (W:Wld) (g c:Int):Int:=zbb (memP W g c) (memV W c) 20
def zafv:Nat->Wld->Int->Int->Int
 | 0,_,_,_ => -1
 | f+1,W,g,c=>if zax W g c<0 then -1 else if zax W g c<12 then zax W g c else zafv f W (zax W g c - 12) c
def zor (W:Wld) (g c:Int):Int:=zafv (4 - dep 3 W.groups g).toNat W g c
def zaf (W:Wld) (c:Int):Int:=if (gi W.cpus c).cur>=0/\(gi W.cpus c).ran<50 then (gi W.cpus c).cur else zor W 0 c
theorem zim {W:Wld} {g c:Int} {i:Nat} (h:i<12):memP W g c i=actT W g c i:=if_pos h
theorem zil {W:Wld} {g c:Int} {i:Nat}:memP W g c (12+i)=actG W g c i:=by
 unfold memP
 rw [if_neg (by omega),show 12+i - 12=i by omega]
theorem ztj {W:Wld} {c:Int} {i:Nat} (h:i<12):memV W c i=(tkk W (i:Int)).v:=if_pos h
theorem zti {W:Wld} {c:Int} {i:Nat}:memV W c (12+i)=(shf W (i:Int) c).v:=by
 unfold memV
 rw [if_neg (by omega),show 12+i - 12=i by omega]
theorem zacs (W:Wld) (g c:Int):memP W g c 12=false:=by
 rw [show (12:Nat)=12+0 from rfl,zil]; rfl
theorem zmz {W:Wld} {g c:Int} (ha:WA W) (hu:zae W.groups g=true) (h:12<=zax W g c):zae W.groups (zax W g c - 12)=true/\zax W g c - 12≠0/\dep 3 W.groups (zax W g c - 12)=dep 3 W.groups g+1/\zax W g c<20:=by
 unfold zax at *
 rcases zbz (memP W g c) (memV W c) 20 with ⟨h1,_⟩ | ⟨h1,h2,h3,_,_⟩
 ·omega
 ·have e:(zbb (memP W g c) (memV W c) 20).toNat=12+((zbb (memP W g c) (memV W c) 20).toNat - 12):=by omega
  rw [e,zil] at h3
  unfold actG at h3
  simp only [Bool.and_eq_true,decide_eq_true_eq,beq_iff_eq] at h3
  obtain ⟨⟨k1,k2,k3⟩,_⟩:=h3
  have ek:(((zbb (memP W g c) (memV W c) 20).toNat - 12:Nat):Int)=zbb (memP W g c) (memV W c) 20 - 12:=by omega
  rw [ek] at k2 k3
  have hgl:=ha.gl
  have hk:zae W.groups (zbb (memP W g c) (memV W c) 20 - 12)=true:=zac.2 ⟨by omega,by omega,k2⟩
  have hz:zbb (memP W g c) (memV W c) 20 - 12≠0:=by omega
  obtain ⟨_,_,_,d,e1,e2,_⟩:=zd4 ha.tree hk hz
  rw [k3] at e2
  exact ⟨hk,hz,by omega,by omega⟩
theorem zqh {W:Wld} (ha:WA W) {g:Int} (hu:zae W.groups g=true):0<=dep 3 W.groups g/\dep 3 W.groups g<=3:=by
 have hr:=zjo W.groups 3 g
 by_cases hz:g=0
 ·subst hz; rw [zcv]; omega
 ·obtain ⟨_,_,_,d,e1,_⟩:=zd4 ha.tree hu hz
  omega
theorem zq7 {W:Wld} (ha:WA W) {g c:Int} (hu:zae W.groups g=true):zor W g c=if zax W g c<0 then -1 else if zax W g c<12 then zax W g c else zor W (zax W g c - 12) c:=by
 have hd:=zqh ha hu
 have e:(4 - dep 3 W.groups g).toNat=(3 - dep 3 W.groups g).toNat+1:=by omega
 show zafv (4 - dep 3 W.groups g).toNat W g c=_
 rw [e]
 simp only [zafv]
 split
 ·rfl
 ·split
  ·rfl
  ·obtain ⟨_,_,hk,_⟩:=zmz ha hu (c:=c) (by omega)
   unfold zor
   rw [hk,show (4 - (dep 3 W.groups g+1))=3 - dep 3 W.groups g by omega]
section
variable {W:Wld} {m:MW} {w:World} {bs:List Nat} {p:Option Addr}
def zby (W:Wld) (g c:Int) (k:Nat):Int:=if zbb (memP W g c) (memV W c) k<0 then 0 else memV W c (zbb (memP W g c) (memV W c) k).toNat
def zc4 (W:Wld) (g c:Int) (k:Nat):Bool:=decide (0<=zbb (memP W g c) (memV W c) k)
theorem z5b {W:Wld} {g c:Int} {k:Nat}:(decide (zbb (memP W g c) (memV W c) k<0)||decide (memV W c k<memV W c (zbb (memP W g c) (memV W c) k).toNat))=(!zc4 W g c k||decide (memV W c k<zby W g c k)):=by
 unfold zc4 zby
 by_cases h:zbb (memP W g c) (memV W c) k<0
 ·have h2:decide (0<=zbb (memP W g c) (memV W c) k)=false:=decide_eq_false (by omega)
  rw [if_pos h,decide_eq_true h,h2]; rfl
 ·have h2:decide (0<=zbb (memP W g c) (memV W c) k)=true:=decide_eq_true (by omega)
  rw [if_neg h,decide_eq_false h,h2]; rfl
theorem zun {W:Wld} {g c:Int} {k:Nat} (h:(memP W g c k&&(!zc4 W g c k||decide (memV W c k<zby W g c k)))=true):zby W g c (k+1)=memV W c k/\zc4 W g c (k+1)=true:=by
 rw [<-z5b] at h
 have e:zbb (memP W g c) (memV W c) (k+1)=(k:Int):=by
  simp only [zbb]; rw [if_pos h]
 unfold zby zc4
 rw [e,if_neg (by omega),Int.toNat_natCast]
 exact ⟨rfl,decide_eq_true (by omega)⟩
theorem zv7 {W:Wld} {g c:Int} {k:Nat} (h:(memP W g c k&&(!zc4 W g c k||decide (memV W c k<zby W g c k)))=false):zby W g c (k+1)=zby W g c k/\zc4 W g c (k+1)=zc4 W g c k:=by
 rw [<-z5b] at h
 have e:zbb (memP W g c) (memV W c) (k+1)=zbb (memP W g c) (memV W c) k:=by
  simp only [zbb]; rw [if_neg (by rw [h]; decide)]
 unfold zby zc4
 rw [e]
 exact ⟨rfl,rfl⟩
theorem zo6 {g c:Int} (h:RdW bs w W m) (ha:WA W) (c0:0<=c) (c1:c<(W.cpus.length:Int)):zad bs Tryz.prog zg7 #[.agg (encW W m).toArray,.int .i64 g,.int .i64 c] w (.tuple #[.int .i64 (zby W g c 20),.bool (zc4 W g c 20)]):=
 z0k W.now m.cO W.cpus.length m.cC m.tO W.tasks.length m.tC m.gO W.groups.length m.gC g c fun wr hx=>by
  have h:=(h.ext hx).less (cs:=[]) (by simp)
  have hgl:=ha.gl
  have htl:=ha.t
  intro _ _
  refine ⟨fun vs=>∃k:Nat,k<=12/\vs=[.int .i64 (zby W g c k),.bool (zc4 W g c k),.int .i64 (k:Int)],cntM 12 2,⟨0,by omega,rfl⟩,?_⟩
  rintro best some t ⟨k,hk,he⟩
  simp only [List.cons.injEq,Value.int.injEq,Value.bool.injEq,true_and,and_true] at he
  obtain ⟨rfl,rfl,rfl⟩:=he
  refine ⟨fun hlt => ?_,fun hge => ?_⟩
  ·have hlt:=of_decide_eq_true hlt
   have hk12:k<12:=by omega
   refine ⟨h.t.ix zce (by omega) hlt,_,_,_,_,_,_,_,_,_,h.t k (by omega) hlt,fun _ _=>⟨fun q=>⟨⟨by omega,by omega⟩,⟨k+1,by omega,?_⟩,zb0 (k:=k) rfl rfl hk12⟩,fun q=>⟨⟨by omega,by omega⟩,⟨k+1,by omega,?_⟩,zb0 (k:=k) rfl rfl hk12⟩⟩⟩
   ·have q':(memP W g c k&&(!zc4 W g c k||decide (memV W c k<zby W g c k)))=true:=by rw [zim hk12,ztj hk12]; exact q
    obtain ⟨e1,e2⟩:=zun q'
    rw [e1,e2,ztj hk12]; simp [tkk]
   ·have q':(memP W g c k&&(!zc4 W g c k||decide (memV W c k<zby W g c k)))=false:=by rw [zim hk12,ztj hk12]; exact q
    obtain ⟨e1,e2⟩:=zv7 q'
    rw [e1,e2]; simp
  ·have hge:=of_decide_eq_false hge
   have:k=12:=by omega
   subst this
   have e12:zby W g c 13=zby W g c 12/\zc4 W g c 13=zc4 W g c 12:=zv7 (by rw [zacs]; rfl)
   refine ⟨fun vs=>∃k:Nat,1<=k/\k<=8/\vs=[.int .i64 (zby W g c (12+k)),.bool (zc4 W g c (12+k)),.int .i64 (k:Int)],cntM 8 2,⟨1,by omega,by omega,by rw [show 12+1=13 from rfl,e12.1,e12.2]; rfl⟩,?_⟩
   rintro best1 some1 t1 ⟨k,hk1,hk,he⟩
   simp only [List.cons.injEq,Value.int.injEq,Value.bool.injEq,true_and,and_true] at he
   obtain ⟨rfl,rfl,rfl⟩:=he
   refine ⟨fun hlt => ?_,fun hge => ?_⟩
   ·have hlt:=of_decide_eq_true hlt
    have hk0:(0:Int)<=(k:Int):=by omega
    have used:∀{x:Bool},(((gi W.groups (k:Int)).used&&((gi W.groups (k:Int)).parent==g))&&x)=true->zae W.groups (k:Int)=true/\c<((gi W.groups (k:Int)).shelves.length:Int):=fun {x} q=>by
     simp only [Bool.and_eq_true] at q
     have hu:=z4y hlt q.1.1
     exact ⟨hu,by rw [ha.sl hu]; exact c1⟩
    have eA:actG W g c k=(((gi W.groups (k:Int)).used&&((gi W.groups (k:Int)).parent==g))&&(shf W (k:Int) c).on):=by
     unfold actG; rw [decide_eq_true hk1,Bool.true_and]
    have eP:memP W g c (12+k)=(((gi W.groups (k:Int)).used&&((gi W.groups (k:Int)).parent==g))&&(shf W (k:Int) c).on):=by rw [zil,eA]
    refine ⟨h.g.ix hk0 hlt,_,h.g.used hk0 hlt,fun _=>h.g.ix hk0 hlt,_,fun _=>h.g.parent hk0 hlt,(shf W (k:Int) c).on,fun q=>zhc h ha (used (x:=true) (by rw [q]; rfl)).1 c0 c1,fun _ _=>h.g.ix hk0 hlt,_,_,_,fun _ _=>h.g.shelf hk0 hlt,fun _ q=>(h.g.shelves _ hk0 hlt).ix ze4 c0 (used q).2,(shf W (k:Int) c).v,fun _ q=>RdS.f (h.g.shelves _ hk0 hlt) c0 (used q).2 (j:=2) rfl,fun q => ?_,fun q=>⟨⟨by omega,by omega⟩,⟨k+1,by omega,by omega,?_⟩,zb0 (k:=k) rfl rfl (by omega)⟩⟩
    ·have q2:=q
     simp only [Bool.and_eq_true] at q2
     have hu:=used (x:=(shf W (k:Int) c).on) (by simp only [Bool.and_eq_true]; exact q2.1)
     have q':(memP W g c (12+k)&&(!zc4 W g c (12+k)||decide (memV W c (12+k)<zby W g c (12+k))))=true:=by rw [eP,zti]; exact q
     obtain ⟨e1,e2⟩:=zun q'
     refine ⟨h.g.ix hk0 hlt,_,_,_,h.g.shelf hk0 hlt,(h.g.shelves _ hk0 hlt).ix ze4 c0 hu.2,_,RdS.f (h.g.shelves _ hk0 hlt) c0 hu.2 (j:=2) rfl,⟨by omega,by omega⟩,⟨k+1,by omega,by omega,?_⟩,zb0 (k:=k) rfl rfl (by omega)⟩
     rw [show 12+(k+1)=12+k+1 from rfl,e1,e2,zti]; simp [shf]
    ·have q':(memP W g c (12+k)&&(!zc4 W g c (12+k)||decide (memV W c (12+k)<zby W g c (12+k))))=false:=by rw [eP,zti]; exact q
     obtain ⟨e1,e2⟩:=zv7 q'
     rw [show 12+(k+1)=12+k+1 from rfl,e1,e2]; simp
   ·have hge:=of_decide_eq_false hge
    have:k=8:=by omega
    subst this
    rfl
theorem z3s {g c:Int} (h:RdW bs w W m) (ha:WA W) (hu:zae W.groups g=true) (c0:0<=c) (c1:c<(W.cpus.length:Int)):zad bs Tryz.prog zf4 #[.agg (encW W m).toArray,.int .i64 g,.int .i64 c] w (.int .i64 (zor W g c)):=by
 have hgl:=ha.gl
 have htl:=ha.t
 have key:∀(n:Nat) (g:Int),zae W.groups g=true->(3 - dep 3 W.groups g).toNat=n->∀{bs:List Nat} {w:World},RdW bs w W m->zad bs Tryz.prog zf4 #[.agg (encW W m).toArray,.int .i64 g,.int .i64 c] w (.int .i64 (zor W g c)):=by
  intro n
  induction n using Nat.strongRecOn with
  | ind n ih=>
   intro g hu hn bs w h
   refine z4n W.now m.cO W.cpus.length m.cC m.tO W.tasks.length m.tC m.gO W.groups.length m.gC g c fun wr hx => ?_
   have h:=(h.ext hx).less (cs:=[]) (by simp)
   have hstep:=zq7 ha hu (c:=c)
   have hd:=zqh ha hu
   intro _ _
   refine ⟨_,_,zo6 h ha c0 c1,fun q => ?_,fun q => ?_⟩
   ·have q:¬0<=zbb (memP W g c) (memV W c) 20:=by
     unfold zc4 at q
     simpa using q
    have q:¬0<=zax W g c:=q
    rw [hstep,if_pos (by omega)]
   have hF0:0<=zbb (memP W g c) (memV W c) 20:=by
    unfold zc4 at q
    simpa using q
   have hF:0<=zax W g c:=hF0
   have hbest:zby W g c 20=memV W c (zax W g c).toNat:=by
    show (if zax W g c<0 then 0 else memV W c (zax W g c).toNat)=_
    rw [if_neg (show ¬zax W g c<0 by omega)]
   have found:∀k:Nat,k<20->memP W g c k=true->memV W c k=zby W g c 20->(∀j,j<k->memP W g c j=true->memV W c j≠zby W g c 20)->zax W g c=(k:Int):=fun k hk hp hv hb=>by
    rw [hbest] at hv hb
    exact zaak hk hp hF hv hb
   refine ⟨fun vs=>∃k:Nat,vs=[.int .i64 (k:Int)]/\k<=12/\∀j,j<k->memP W g c j=true->memV W c j≠zby W g c 20,cntM 12 0,⟨0,rfl,by omega,fun j hj=>absurd hj (Nat.not_lt_zero j)⟩,?_⟩
   rintro t ⟨k,he,hk,hI⟩
   simp only [List.cons.injEq,Value.int.injEq,true_and,and_true] at he
   subst he
   refine ⟨fun hlt => ?_,fun hge => ?_⟩
   ·have hlt:=of_decide_eq_true hlt
    have hk12:k<12:=by omega
    refine ⟨h.t.ix zce (by omega) hlt,_,_,_,_,_,_,_,_,_,h.t k (by omega) hlt,fun b1 hb1=>⟨fun q2 => ?_,fun q2=>⟨⟨by omega,by omega⟩,⟨k+1,by simp,by omega,fun j hj hp hv => ?_⟩,zb0 (k:=k) rfl rfl hk12⟩⟩⟩
    ·have q2':(actT W g c k&&((tkk W (k:Int)).v==zby W g c 20))=true:=q2
     simp only [Bool.and_eq_true,beq_iff_eq] at q2'
     have:=found k (by omega) (by rw [zim hk12]; exact q2'.1) (by rw [ztj hk12]; exact q2'.2) hI
     rw [hstep,if_neg (by omega),if_pos (by omega),this]
    ·by_cases hjk:j<k
     ·exact hI j hjk hp hv
     ·have:j=k:=by omega
      subst this
      rw [zim hk12] at hp
      rw [ztj hk12] at hv
      have q2':(actT W g c j&&((tkk W (j:Int)).v==zby W g c 20))=false:=q2
      rw [hp,hv] at q2'
      simp at q2'
   ·have hge:=of_decide_eq_false hge
    have:k=12:=by omega
    subst this
    refine ⟨fun vs=>∃k:Nat,vs=[.int .i64 (k:Int)]/\1<=k/\k<=8/\∀j,j<12+k->memP W g c j=true->memV W c j≠zby W g c 20,cntM 8 0,⟨1,rfl,by omega,by omega,fun j hj hp=>by
     by_cases hj12:j<12
     ·exact hI j hj12 hp
     ·have:j=12:=by omega
      subst this
      rw [zacs] at hp; cases hp⟩,?_⟩
    rintro t2 ⟨k,he,hk1,hk,hI2⟩
    simp only [List.cons.injEq,Value.int.injEq,true_and,and_true] at he
    subst he
    refine ⟨fun hlt => ?_,fun hge2 => ?_⟩
    ·have hlt:=of_decide_eq_true hlt
     have hk0:(0:Int)<=(k:Int):=by omega
     have used:∀{x:Bool},(((gi W.groups (k:Int)).used&&((gi W.groups (k:Int)).parent==g))&&x)=true->zae W.groups (k:Int)=true/\c<((gi W.groups (k:Int)).shelves.length:Int):=fun {x} q=>by
      simp only [Bool.and_eq_true] at q
      have hu:=z4y hlt q.1.1
      exact ⟨hu,by rw [ha.sl hu]; exact c1⟩
     have eA:actG W g c k=(((gi W.groups (k:Int)).used&&((gi W.groups (k:Int)).parent==g))&&(shf W (k:Int) c).on):=by
      unfold actG; rw [decide_eq_true hk1,Bool.true_and]
     have eP:memP W g c (12+k)=(((gi W.groups (k:Int)).used&&((gi W.groups (k:Int)).parent==g))&&(shf W (k:Int) c).on):=by rw [zil,eA]
     refine ⟨h.g.ix hk0 hlt,_,h.g.used hk0 hlt,fun _=>h.g.ix hk0 hlt,_,fun _=>h.g.parent hk0 hlt,(shf W (k:Int) c).on,fun q=>zhc h ha (used (x:=true) (by rw [q]; rfl)).1 c0 c1,fun _=>h.g.ix hk0 hlt,_,_,_,fun _=>h.g.shelf hk0 hlt,fun q=>(h.g.shelves _ hk0 hlt).ix ze4 c0 (used q).2,(shf W (k:Int) c).v,fun q=>RdS.f (h.g.shelves _ hk0 hlt) c0 (used q).2 (j:=2) rfl,fun q => ?_,fun q=>⟨⟨by omega,by omega⟩,⟨k+1,by simp,by omega,by omega,fun j hj hp hv => ?_⟩,zb0 (k:=k) rfl rfl (by omega)⟩⟩
     ·have q2:=q
      simp only [Bool.and_eq_true,beq_iff_eq] at q2
      have hfk:=found (12+k) (by omega) (by rw [eP]; simp only [Bool.and_eq_true,beq_iff_eq]; exact q2.1) (by rw [zti]; exact q2.2) hI2
      have hkid:=zmz ha hu (c:=c) (by omega)
      have ek:zax W g c - 12=(k:Int):=by omega
      rw [ek] at hkid
      have hdk:=zqh ha hkid.1
      refine ⟨_,ih _ (show (3 - dep 3 W.groups (k:Int)).toNat<n by omega) (k:Int) hkid.1 rfl h,?_⟩
      rw [hstep,if_neg (by omega),if_neg (by omega),ek]
     ·by_cases hjk:j<12+k
      ·exact hI2 j hjk hp hv
      ·have:j=12+k:=by omega
       subst this
       rw [eP] at hp
       rw [zti] at hv
       rw [hp,hv] at q
       simp at q
    ·have hge2:=of_decide_eq_false hge2
     have:k=8:=by omega
     subst this
     rcases zbz (memP W g c) (memV W c) 20 with ⟨h1,_⟩ | ⟨h1,h2,h3,_,_⟩
     ·have:zax W g c = -1:=h1
      omega
     ·exact absurd hbest.symm (hI2 (zax W g c).toNat (by unfold zax; omega) h3)
 exact key _ g hu rfl h
theorem z3t {c:Int} (h:RdW bs w W m) (ha:WA W) (c0:0<=c) (c1:c<(W.cpus.length:Int)):zad bs Tryz.prog zk1 #[.agg (encW W m).toArray,.int .i64 c] w (.int .i64 (zaf W c)):=by
 refine z4o W.now m.cO W.cpus.length m.cC m.tO W.tasks.length m.tC m.gO W.groups.length m.gC c fun wr hx => ?_
 have h:=(h.ext hx).less (cs:=[]) (by simp)
 intro _ _
 refine ⟨h.c.ix zeg c0 c1,_,h.c.f c0 c1 (j:=1) rfl,fun _=>h.c.ix zeg c0 c1,_,fun _=>h.c.f c0 c1 (j:=2) rfl,fun g=>⟨h.c.ix zeg c0 c1,_,h.c.f c0 c1 (j:=1) rfl,?_⟩,fun g=>⟨_,z3s h ha ha.root c0 c1,?_⟩⟩
 ·simp only [Bool.and_eq_true,decide_eq_true_eq] at g
  unfold zaf; rw [if_pos g]
 ·unfold zaf; rw [if_neg (fun hc=>by
   rw [decide_eq_true hc.1,decide_eq_true hc.2] at g; cases g)]
end
def setTk (W:Wld) (t:Int) (x:Tsk):Wld:={ W with tasks:=W.tasks.set t.toNat x }
def setCp (W:Wld) (c:Int) (x:Cpu):Wld:={ W with cpus:=W.cpus.set c.toNat x }
def setGr (W:Wld) (g:Int) (x:Grp):Wld:={ W with groups:=W.groups.set g.toNat x }
def setSh (W:Wld) (g c:Int) (s:Shf):Wld:=setGr W g { gi W.groups g with shelves:=(gi W.groups g).shelves.set c.toNat s }
def setBd (W:Wld) (g:Int) (b:Bnd):Wld:=setGr W g { gi W.groups g with band:=b }
theorem zab4 {α:Type} [Inhabited α] (l:List α) (i:Int):gi l i=gi l ((i.toNat:Nat):Int):=by unfold gi; rw [Int.toNat_natCast]
structure zb6 (gs gs':List Grp):Prop where
 len:gs'.length=gs.length
 u:∀i:Int,(gi gs' i).used=(gi gs i).used
 p:∀i:Int,(gi gs' i).parent=(gi gs i).parent
 n:∀i:Int,(gi gs' i).name=(gi gs i).name
theorem zb6.refl (gs:List Grp):zb6 gs gs:=⟨rfl,fun _=>rfl,fun _=>rfl,fun _=>rfl⟩
theorem zb6.trans {a b c:List Grp} (h:zb6 a b) (k:zb6 b c):zb6 a c:=⟨k.len.trans h.len,fun i=>(k.u i).trans (h.u i),fun i=>(k.p i).trans (h.p i),fun i=>(k.n i).trans (h.n i)⟩
theorem zb6.usd {gs gs':List Grp} (h:zb6 gs gs') (i:Int):zae gs' i=zae gs i:=by unfold zae; rw [h.len,h.u]
theorem zb6.dep {gs gs':List Grp} (h:zb6 gs gs'):∀(f:Nat) (i:Int),Go.Proofs.YtclpmgfpjeaibaaGreatDoor.dep f gs' i=Go.Proofs.YtclpmgfpjeaibaaGreatDoor.dep f gs i
 | 0,i=>rfl
 | f+1,i=>by simp only [Go.Proofs.YtclpmgfpjeaibaaGreatDoor.dep]; rw [h.p,h.dep f]
theorem zb6.path {gs gs':List Grp} (h:zb6 gs gs'):∀(f:Nat) (i:Int),zl2 f gs' i=zl2 f gs i
 | 0,i=>rfl
 | f+1,i=>by simp only [zl2]; rw [h.p,h.path f]
theorem zb6.tree {gs gs':List Grp} (h:zb6 gs gs') (t:zeb gs):zeb gs':=
 ⟨by rw [h.len]; exact t.len,by rw [h.u]; exact t.ru,by rw [h.p]; exact t.rp,by rw [h.n]; exact t.rn,fun g a b c=>by rw [h.u] at c; rw [h.n]; exact t.nm g a b c,fun g a b c=>by rw [h.u] at c; rw [h.usd,h.p]; exact t.par g a b c,
  fun g a b c=>by rw [h.u] at c; rw [h.dep]; exact t.dp g a b c,fun g k a b c d e=>by rw [h.u] at d e; rw [h.p,h.p,h.n,h.n]; exact t.uniq g k a b c d e⟩
theorem zex {W:Wld} {g:Int} {x:Grp} (h0:0<=g) (h1:g<(W.groups.length:Int)) {i:Int} (hi:0<=i):gi (setGr W g x).groups i=if g=i then x else gi W.groups i:=za4 _ _ h0 h1 hi
theorem zka {W:Wld} {g:Int} {x:Grp} (h0:0<=g) (h1:g<(W.groups.length:Int)) (u:x.used=(gi W.groups g).used) (p:x.parent=(gi W.groups g).parent) (n:x.name=(gi W.groups g).name):zb6 W.groups (setGr W g x).groups:=by
 have key:∀i:Int,gi (setGr W g x).groups i=if g=((i.toNat:Nat):Int) then x else gi W.groups i:=fun i=>by
  rw [zab4,zex h0 h1 (by omega),<-zab4 W.groups i]
 refine ⟨List.length_set,fun i => ?_,fun i => ?_,fun i => ?_⟩
 all_goals
  rw [key]
  split
  ·rename_i e
   rw [zab4 W.groups i,<-e]; assumption
  ·rfl
theorem WA.set {W:Wld} (ha:WA W) {g:Int} {x:Grp} (h0:0<=g) (h1:g<8) (u:x.used=(gi W.groups g).used) (p:x.parent=(gi W.groups g).parent) (n:x.name=(gi W.groups g).name) (hN:x.used=false->GrpN x) (hU:x.used=true->GrpU W g x):WA (setGr W g x):=by
 have hl:=ha.gl
 refine ⟨ha.n1,ha.n2,ha.c1,ha.c2,ha.t,(zka h0 (by omega) u p n).tree ha.tree,ha.ups,fun k k0 k1 => ?_⟩
 show GrpP (setGr W g x) k
 unfold GrpP
 rw [zex h0 (by omega) k0]
 by_cases e:g=k
 ·subst e
  rw [if_pos rfl]
  exact ⟨hN,fun hu=>by have:=hU hu; exact ⟨this.w1,this.w2,this.m,this.m0,this.s,this.len,this.root,this.none,this.band⟩⟩
 ·rw [if_neg e]
  have:=ha.grp k k0 k1
  exact ⟨this.1,fun hu=>by have:=this.2 hu; exact ⟨this.w1,this.w2,this.m,this.m0,this.s,this.len,this.root,this.none,this.band⟩⟩
theorem WA.setSh {W:Wld} (ha:WA W) {g c:Int} {s:Shf} (h0:0<=g) (h1:g<8):WA (setSh W g c s):=by
 have hg:=ha.grp g h0 h1
 refine ha.set h0 h1 rfl rfl rfl (fun hu => ?_) fun hu => ?_
 ·have:=hg.1 hu
  exact ⟨this.p,this.n,this.w,this.c,this.pe,this.ne,this.s,by rw [List.length_set]; exact this.l,this.b⟩
 ·have:=hg.2 hu
  exact ⟨this.w1,this.w2,this.m,this.m0,this.s,by rw [List.length_set]; exact this.len,this.root,this.none,this.band⟩
theorem zhj {W:Wld} {g c:Int} {s:Shf} (h0:0<=g) (h1:g<(W.groups.length:Int)) (c0:0<=c) (c1:c<((gi W.groups g).shelves.length:Int)) {i d:Int} (hi:0<=i) (hd:0<=d):shf (setSh W g c s) i d=if g=i/\c=d then s else shf W i d:=by
 unfold shf Go.Proofs.YtclpmgfpjeaibaaGreatDoor.setSh
 rw [zex h0 h1 hi]
 by_cases e:g=i
 ·subst e
  rw [if_pos rfl,za4 _ _ c0 c1 hd]
  by_cases e2:c=d
  ·rw [if_pos e2,if_pos ⟨rfl,e2⟩]
  ·rw [if_neg e2,if_neg (fun h=>e2 h.2)]
 ·rw [if_neg e,if_neg (fun h=>e h.1)]
theorem zep {W:Wld} {g c:Int} {s:Shf} (h0:0<=g) (h1:g<(W.groups.length:Int)):zb6 W.groups (setSh W g c s).groups:=zka h0 h1 rfl rfl rfl
theorem zqj {W:Wld} {g c:Int} {s:Shf} (h0:0<=g) (h1:g<(W.groups.length:Int)) {i d:Int} (hi:0<=i):dryD (setSh W g c s) i d=dryD W i d:=by
 unfold dryD Go.Proofs.YtclpmgfpjeaibaaGreatDoor.setSh
 rw [zex h0 h1 hi]
 split
 ·rename_i e; subst e; rfl
 ·rfl
theorem z5c {W:Wld} {g c:Int} {s:Shf} (h0:0<=g) (h1:g<(W.groups.length:Int)) {i:Int} (hi:0<=i):(gi (setSh W g c s).groups i).band=(gi W.groups i).band:=by
 unfold Go.Proofs.YtclpmgfpjeaibaaGreatDoor.setSh
 rw [zex h0 h1 hi]
 split
 ·rename_i e; subst e; rfl
 ·rfl
theorem z6z {W:Wld} {g c:Int} {s:Shf} (h0:0<=g) (h1:g<(W.groups.length:Int)) {i:Int} (hi:0<=i):(gi (setSh W g c s).groups i).shelves.length=(gi W.groups i).shelves.length:=by
 unfold Go.Proofs.YtclpmgfpjeaibaaGreatDoor.setSh
 rw [zex h0 h1 hi]
 split
 ·rename_i e; subst e; simp
 ·rfl
structure SW (K:Int) (W:Wld):Prop where
 a:WA W
 t:∀t:Int,0<=t->t<12->(tkk W t).state≠0->zae W.groups (tkk W t).group=true/\0<=(tkk W t).cpu/\(tkk W t).cpu<(W.cpus.length:Int)
 tv:∀t:Int,0<=t->t<12->0<=(tkk W t).v/\(tkk W t).v<=K
 s:∀k c:Int,zae W.groups k=true->0<=c->c<(W.cpus.length:Int)->0<=(shf W k c).floor/\(shf W k c).floor<=K/\0<=(shf W k c).v/\(shf W k c).v<=K/\1<=(shf W k c).w/\(shf W k c).w<=20
 cu:∀c:Int,0<=c->c<(W.cpus.length:Int)->-1<=(gi W.cpus c).cur/\(gi W.cpus c).cur<12
structure SF (F K:Int) (W:Wld):Prop where
 w:SW K W
 f:∀k c:Int,zae W.groups k=true->0<=c->c<(W.cpus.length:Int)->(shf W k c).floor<=F
theorem SW.mono {K K':Int} {W:Wld} (h:SW K W) (hk:K<=K'):SW K' W:=
 ⟨h.a,h.t,fun t a b=>by have:=h.tv t a b; omega,fun k c u a b=>by have:=h.s k c u a b; omega,h.cu⟩
theorem SW.sf {K:Int} {W:Wld} (h:SW K W):SF K K W:=⟨h,fun k c u a b=>(h.s k c u a b).2.1⟩
theorem SF.mono {F K F' K':Int} {W:Wld} (h:SF F K W) (hf:F<=F') (hk:K<=K'):SF F' K' W:=⟨h.w.mono hk,fun k c u a b=>by have:=h.f k c u a b; omega⟩
theorem SW.li {K:Int} {W:Wld} (h:SW K W) {t:Int} (t0:0<=t) (t1:t<(W.tasks.length:Int)) (hs:(tkk W t).state=1):zae W.groups (tkk W t).group=true/\0<=(tkk W t).cpu/\(tkk W t).cpu<(W.cpus.length:Int):=by
 have hl:=h.a.t
 exact h.t t t0 (by omega) (by omega)
theorem SF.setSh {F K:Int} {W:Wld} (h:SF F K W) {g c:Int} {s:Shf} (hu:zae W.groups g=true) (c0:0<=c) (c1:c<(W.cpus.length:Int)) (f0:0<=s.floor) (f1:s.floor<=F) (fk:s.floor<=K) (v0:0<=s.v) (v1:s.v<=K) (w1:1<=s.w) (w2:s.w<=20):SF F K (setSh W g c s):=by
 obtain ⟨u0,u1,_⟩:=zac.1 hu
 have hl:=h.w.a.gl
 have hs:=h.w.a.sl hu
 have hT:=zep (W:=W) (g:=g) (c:=c) (s:=s) u0 u1
 have e:∀k d:Int,zae (Go.Proofs.YtclpmgfpjeaibaaGreatDoor.setSh W g c s).groups k=true->0<=d->shf (Go.Proofs.YtclpmgfpjeaibaaGreatDoor.setSh W g c s) k d=if g=k/\c=d then s else shf W k d:=fun k d uk hd=>by
  rw [hT.usd] at uk
  exact zhj u0 u1 c0 (by omega) (zac.1 uk).1 hd
 refine ⟨⟨h.w.a.setSh u0 (by omega),fun t a b n=>by rw [hT.usd]; exact h.w.t t a b n,h.w.tv,fun k d uk a b => ?_,h.w.cu⟩,fun k d uk a b => ?_⟩
 ·rw [e k d uk a]
  rw [hT.usd] at uk
  split
  ·exact ⟨f0,fk,v0,v1,w1,w2⟩
  ·exact h.w.s k d uk a b
 ·rw [e k d uk a]
  rw [hT.usd] at uk
  split
  ·exact f1
  ·exact h.f k d uk a b
def zda (W:Wld) (k c:Int):Shf:=
 { shf W k c with
  v:=if (za5 W k c && !dryD W k c)=true/\(shf W k c).on=false then (shf W (gi W.groups k).parent c).floor+zd6 ((shf W k c).v - (shf W (gi W.groups k).parent c).floor) (shf W k c).w else (shf W k c).v
  on:=za5 W k c && !dryD W k c }
def zcd (W:Wld) (c d:Int):Nat->Wld
 | 0=>W
 | k+1=>if (gi (zcd W c d k).groups (k:Int)).used=true/\dep 3 (zcd W c d k).groups (k:Int)=d then setSh (zcd W c d k) (k:Int) c (zda (zcd W c d k) (k:Int) c) else zcd W c d k
theorem zacm {W:Wld} {c d:Int} (h:d≠0):zcd W c d 1=W:=by
 show (if (gi W.groups ((0:Nat):Int)).used=true/\dep 3 W.groups ((0:Nat):Int)=d then _ else W)=W
 refine if_neg fun hc=>h ?_
 have:=hc.2
 rw [show (((0:Nat):Int))=0 from rfl,zcv] at this
 exact this.symm
def zdz (W:Wld) (c:Int):Nat->Wld
 | 0=>W
 | j+1=>zcd (zdz W c j) c (3 - (j:Int)) 8
def zat (W:Wld) (c:Int):Wld:=zdz W c 3
abbrev lagB:Int:=34686091440
theorem zafm {F K:Int} {W:Wld} (h:SF F K W) (hk:F+lagB<=K) {k c d:Int} (hu:zae W.groups k=true) (hd:dep 3 W.groups k=d) (d1:1<=d) (c0:0<=c) (c1:c<(W.cpus.length:Int)):SF F K (setSh W k c (zda W k c)):=by
 have hz:k≠0:=fun e=>by subst e; rw [zcv] at hd; omega
 have hp:=h.w.a.up hu hz
 have s1:=h.w.s k c hu c0 c1
 have s2:=h.w.s _ c hp c0 c1
 have f1:=h.f k c hu c0 c1
 have f2:=h.f _ c hp c0 c1
 have lc:=zeh ((shf W k c).v - (shf W (gi W.groups k).parent c).floor) (shf W k c).w
 have lm:=zc8 (shf W k c).w
 refine h.setSh hu c0 c1 s1.1 f1 (by show (shf W k c).floor<=K; omega) ?_ ?_ s1.2.2.2.2.1 s1.2.2.2.2.2
 ·simp only [zda]; split <;> omega
 ·simp only [zda]; simp only [lagB] at hk; split <;> omega
structure zgt (W W':Wld):Prop where
 n:W'.now=W.now
 c:W'.cpus=W.cpus
 t:W'.tasks=W.tasks
 g:zb6 W.groups W'.groups
 b:∀i:Int,0<=i->(gi W'.groups i).band=(gi W.groups i).band
 l:∀i:Int,0<=i->(gi W'.groups i).shelves.length=(gi W.groups i).shelves.length
theorem zgt.refl (W:Wld):zgt W W:=⟨rfl,rfl,rfl,zb6.refl _,fun _ _=>rfl,fun _ _=>rfl⟩
theorem zgt.trans {A B C:Wld} (h:zgt A B) (k:zgt B C):zgt A C:=⟨k.n.trans h.n,k.c.trans h.c,k.t.trans h.t,h.g.trans k.g,fun i hi=>(k.b i hi).trans (h.b i hi),fun i hi=>(k.l i hi).trans (h.l i hi)⟩
theorem zhf {W:Wld} {g c:Int} {s:Shf} (h0:0<=g) (h1:g<(W.groups.length:Int)):zgt W (setSh W g c s):=⟨rfl,rfl,rfl,zep h0 h1,fun _ hi=>z5c h0 h1 hi,fun _ hi=>z6z h0 h1 hi⟩
theorem zut {F K:Int} {W:Wld} (h:SF F K W) (hk:F+lagB<=K) {c d:Int} (d1:1<=d) (c0:0<=c) (c1:c<(W.cpus.length:Int)):∀k:Nat,k<=8->SF F K (zcd W c d k)/\zgt W (zcd W c d k)
 | 0,_=>⟨h,zgt.refl _⟩
 | k+1,hk8=>by
  obtain ⟨ih,io⟩:=zut h hk (d:=d) d1 c0 c1 k (by omega)
  have hl:=ih.w.a.gl
  simp only [zcd]
  split
  ·rename_i hc
   have hu:zae (zcd W c d k).groups (k:Int)=true:=zac.2 ⟨by omega,by omega,hc.1⟩
   exact ⟨zafm ih hk hu hc.2 d1 c0 (by rw [io.c]; exact c1),io.trans (zhf (by omega) (by omega))⟩
  ·exact ⟨ih,io⟩
theorem zq3 {F K:Int} {W:Wld} (h:SF F K W) (hk:F+lagB<=K) {c:Int} (c0:0<=c) (c1:c<(W.cpus.length:Int)):∀j:Nat,j<=3->SF F K (zdz W c j)/\zgt W (zdz W c j)
 | 0,_=>⟨h,zgt.refl _⟩
 | j+1,hj=>by
  obtain ⟨a1,b1⟩:=zq3 h hk c0 c1 j (by omega)
  obtain ⟨a2,b2⟩:=zut a1 hk (c:=c) (d:=3 - (j:Int)) (by omega) c0 (by rw [b1.c]; exact c1) 8 (by omega)
  exact ⟨a2,b1.trans b2⟩
theorem zq2 {F K:Int} {W:Wld} (h:SF F K W) (hk:F+lagB<=K) {c:Int} (c0:0<=c) (c1:c<(W.cpus.length:Int)):SF F K (zat W c)/\zgt W (zat W c):=zq3 h hk c0 c1 3 (Nat.le_refl _)
def zbq (W:Wld):Nat->Wld
 | 0=>W
 | c+1=>zat (zbq W c) (c:Int)
theorem zhe {F K:Int} {W:Wld} (h:SF F K W) (hk:F+lagB<=K):∀c:Nat,c<=W.cpus.length->SF F K (zbq W c)/\zgt W (zbq W c)
 | 0,_=>⟨h,zgt.refl _⟩
 | c+1,hc=>by
  obtain ⟨a,b⟩:=zhe h hk c (by omega)
  obtain ⟨a2,b2⟩:=zq2 a hk (c:=(c:Int)) (by omega) (by rw [b.c]; omega)
  exact ⟨a2,b.trans b2⟩
def ze1 (b:Bnd) (c:Int):Bnd:={ b with pool:=b.pool+gi b.locals c,locals:=b.locals.set c.toNat 0,dry:=if b.pool+gi b.locals c>0 then List.replicate b.dry.length false else b.dry }
theorem zuz (l:List Int) (c:Int) (x:Int) (c0:0<=c) (c1:c<(l.length:Int)):∀k:Nat,sumI (l.set c.toNat x) k=sumI l k+if c<(k:Int) then x - gi l c else 0
 | 0=>by simp only [sumI]; rw [if_neg (by omega)]; omega
 | k+1=>by
  simp only [sumI]
  rw [zuz l c x c0 c1 k,za4 _ _ c0 c1 (by omega)]
  by_cases e:c=(k:Int)
  ·subst e
   rw [if_neg (by omega),if_pos rfl,if_pos (by omega)]; omega
  ·rw [if_neg e]
   by_cases h:c<(k:Int)
   ·rw [if_pos h,if_pos (by omega)]; omega
   ·rw [if_neg h,if_neg (by omega)]; omega
theorem z8f {l:List Int} (h:∀c:Int,0<=c->c<(l.length:Int)->0<=gi l c) {c:Int} (c0:0<=c):∀k:Nat,k<=l.length->0<=sumI l k/\(c<(k:Int)->gi l c<=sumI l k)
 | 0,_=>by simp only [sumI]; exact ⟨by omega,fun h=>by omega⟩
 | k+1,hk=>by
  have ih:=z8f h c0 k (by omega)
  have:=h (k:Int) (by omega) (by omega)
  simp only [sumI]
  refine ⟨by omega,fun hc => ?_⟩
  by_cases e:c=(k:Int)
  ·subst e; omega
  ·have:=ih.2 (by omega); omega
theorem z00 {α:Type} [Inhabited α] (n:Nat) (x:α) {i:Int} (h0:0<=i) (h1:i<(n:Int)):gi (List.replicate n x) i=x:=by
 obtain ⟨k,rfl⟩:=Int.eq_ofNat_of_zero_le h0
 rw [zkd (by simp; omega)]; simp
theorem zafc {b:Bnd} (h:BndP b) {c:Int} (c0:0<=c) (c1:c<(b.locals.length:Int)) (hp:0<gi b.locals c):BndP (ze1 b c)/\(ze1 b c).locals.length=b.locals.length/\(ze1 b c).quota=b.quota:=by
 have hs:=zuz b.locals c 0 c0 c1 b.locals.length
 rw [if_pos c1] at hs
 have hn:=z8f (fun d d0 d1=>(h.each d d0 d1).1) c0 b.locals.length (Nat.le_refl _)
 have hn2:=hn.2 c1
 have p1:=h.p1
 have s1:=h.s1
 have su:=h.sum
 have hpos:b.pool+gi b.locals c>0:=by omega
 refine ⟨⟨h.q1,h.q2,?_,?_,?_,?_,?_,h.s1,h.s2,fun d d0 d1 => ?_,?_⟩,by simp [ze1],rfl⟩
 ·simp only [ze1,List.length_set]; exact h.l1
 ·simp only [ze1,List.length_set]; exact h.l2
 ·simp only [ze1]; rw [if_pos hpos]; simp [h.dl]
 ·simp only [ze1]; omega
 ·simp only [ze1]; omega
 ·simp only [ze1,List.length_set] at d1 ⊢
  have hd:=h.dl
  have he:=h.each d d0 d1
  rw [if_pos hpos,z00 _ _ d0 (by omega),za4 _ _ c0 c1 d0]
  have:=h.q1
  refine ⟨?_,?_,fun h=>by cases h⟩
  ·split <;> omega
  ·split <;> omega
 ·simp only [ze1,List.length_set]
  rw [hs]; omega
def zdk (W:Wld) (k:Int):Nat->Wld
 | 0=>W
 | c+1=>if gi (gi (zdk W k c).groups k).band.locals (c:Int)>0/\za5 (zdk W k c) k (c:Int)=false then setBd (zdk W k c) k (ze1 (gi (zdk W k c).groups k).band (c:Int)) else zdk W k c
def zdm (W:Wld):Nat->Wld
 | 0=>W
 | k+1=>if (gi (zdm W k).groups (k:Int)).used=true/\(gi (zdm W k).groups (k:Int)).band.quota≠0 then zdk (zdm W k) (k:Int) (zdm W k).cpus.length else zdm W k
def zop (W:Wld):Wld:=zdm W 8
structure zkp (W W':Wld):Prop where
 n:W'.now=W.now
 c:W'.cpus=W.cpus
 t:W'.tasks=W.tasks
 g:zb6 W.groups W'.groups
 s:∀i:Int,0<=i->(gi W'.groups i).shelves=(gi W.groups i).shelves
theorem zkp.refl (W:Wld):zkp W W:=⟨rfl,rfl,rfl,zb6.refl _,fun _ _=>rfl⟩
theorem zkp.trans {A B C:Wld} (h:zkp A B) (k:zkp B C):zkp A C:=⟨k.n.trans h.n,k.c.trans h.c,k.t.trans h.t,h.g.trans k.g,fun i hi=>(k.s i hi).trans (h.s i hi)⟩
theorem zq9 {W:Wld} {g:Int} {b:Bnd} (h0:0<=g) (h1:g<(W.groups.length:Int)):zkp W (setBd W g b):=⟨rfl,rfl,rfl,zka h0 h1 rfl rfl rfl,fun i hi=>by
 unfold setBd
 rw [zex h0 h1 hi]
 split
 ·rename_i e; subst e; rfl
 ·rfl⟩
theorem SF.onlyB {F K:Int} {W W':Wld} (h:SF F K W) (ho:zkp W W') (ha:WA W'):SF F K W':=by
 have e:∀k c:Int,zae W'.groups k=true->shf W' k c=shf W k c:=fun k c hu=>by unfold shf; rw [ho.s k (zac.1 hu).1]
 have et:∀t:Int,tkk W' t=tkk W t:=fun t=>by unfold tkk; rw [ho.t]
 refine ⟨⟨ha,fun t a b n => ?_,fun t a b=>by rw [et]; exact h.w.tv t a b,fun k c u a b => ?_,fun c a b => ?_⟩,fun k c u a b => ?_⟩
 ·rw [et] at n ⊢; rw [ho.g.usd,ho.c]; exact h.w.t t a b n
 ·rw [e k c u]; rw [ho.g.usd] at u; rw [ho.c] at b; exact h.w.s k c u a b
 ·rw [ho.c] at b ⊢; exact h.w.cu c a b
 ·rw [e k c u]; rw [ho.g.usd] at u; rw [ho.c] at b; exact h.f k c u a b
theorem WA.setBd {W:Wld} (ha:WA W) {g:Int} {b:Bnd} (hu:zae W.groups g=true) (hq:(gi W.groups g).band.quota≠0) (hb:BndP b) (hl:b.locals.length=W.cpus.length) (he:b.quota=(gi W.groups g).band.quota):WA (setBd W g b):=by
 obtain ⟨u0,u1,hg⟩:=ha.u hu
 have hb0:=hg.band hq
 refine ha.set u0 u1 rfl rfl rfl (fun hn => ?_) fun _=>⟨hg.w1,hg.w2,hg.m,hg.m0,hg.s,hg.len,fun h=>⟨(hg.root h).1,(hg.root h).2.1,by show b.quota=0; rw [he]; exact (hg.root h).2.2⟩,fun h=>absurd (he.symm.trans h) hq,fun _=>⟨hb,hl,hb0.2.2⟩⟩
 have:(gi W.groups g).used=false:=hn
 rw [(zac.1 hu).2.2] at this
 cases this
theorem zqs {F K:Int} {W:Wld} (h:SF F K W) {k:Int} (hu:zae W.groups k=true) (hq:(gi W.groups k).band.quota≠0):∀c:Nat,c<=W.cpus.length->SF F K (zdk W k c)/\zkp W (zdk W k c)/\(gi (zdk W k c).groups k).band.quota≠0
 | 0,_=>⟨h,zkp.refl _,hq⟩
 | c+1,hc=>by
  obtain ⟨a,b,q⟩:=zqs h hu hq c (by omega)
  simp only [zdk]
  split
  ·rename_i hcond
   have hu':zae (zdk W k c).groups k=true:=by rw [b.g.usd]; exact hu
   obtain ⟨u0,u1,hg⟩:=a.w.a.u hu'
   have hb:=hg.band q
   have hl:=a.w.a.gl
   have hcl:(zdk W k c).cpus.length=W.cpus.length:=by rw [b.c]
   obtain ⟨g1,g2,g3⟩:=zafc hb.1 (c:=(c:Int)) (by omega) (by omega) hcond.1
   have ho:=zq9 (W:=zdk W k c) (b:=ze1 (gi (zdk W k c).groups k).band (c:Int)) u0 (by omega)
   refine ⟨a.onlyB ho (a.w.a.setBd hu' q g1 (by rw [g2,hb.2.1]) g3),b.trans ho,?_⟩
   show (gi (setGr _ k _).groups k).band.quota≠0
   rw [zex u0 (by omega) u0,if_pos rfl]
   exact fun e=>q (by rw [<-g3]; exact e)
  ·exact ⟨a,b,q⟩
theorem zh9 {F K:Int} {W:Wld} (h:SF F K W):∀k:Nat,k<=8->SF F K (zdm W k)/\zkp W (zdm W k)
 | 0,_=>⟨h,zkp.refl _⟩
 | k+1,hk=>by
  obtain ⟨a,b⟩:=zh9 h k (by omega)
  simp only [zdm]
  split
  ·rename_i hc
   have hl:=a.w.a.gl
   obtain ⟨a2,b2,_⟩:=zqs a (k:=(k:Int)) (zac.2 ⟨by omega,by omega,hc.1⟩) hc.2 _ (Nat.le_refl _)
   exact ⟨a2,b.trans b2⟩
  ·exact ⟨a,b⟩
def zw1 (W:Wld) (k c:Int):Shf:={ shf W k c with floor:=zby W k c 20 }
def za3 (W:Wld) (c:Int):Nat->Wld
 | 0=>W
 | k+1=>if (gi (za3 W c k).groups (k:Int)).used=true/\zc4 (za3 W c k) (k:Int) c 20=true/\zby (za3 W c k) (k:Int) c 20>(shf (za3 W c k) (k:Int) c).floor then setSh (za3 W c k) (k:Int) c (zw1 (za3 W c k) (k:Int) c) else za3 W c k
def za7 (W:Wld) (c:Int):Wld:=za3 W c 8
theorem z0t {K:Int} {W:Wld} (h:SW K W) {k c:Int} (c0:0<=c) (c1:c<(W.cpus.length:Int)) (hK:0<=K):0<=zby W k c 20/\zby W k c 20<=K:=by
 unfold zby
 split
 ·omega
 ·rename_i hn
  have hl:=h.a.gl
  rcases zbz (memP W k c) (memV W c) 20 with h1 | h1
  ·omega
  ·obtain ⟨j,hj⟩:∃j:Nat,zbb (memP W k c) (memV W c) 20=(j:Int):=⟨(zbb (memP W k c) (memV W c) 20).toNat,by omega⟩
   rw [hj,Int.toNat_natCast] at h1 ⊢
   have hp:=h1.2.2.1
   unfold memV
   by_cases h12:j<12
   ·rw [if_pos h12]
    exact h.tv (j:Int) (by omega) (by omega)
   ·rw [if_neg h12]
    unfold memP at hp
    rw [if_neg h12] at hp
    unfold actG at hp
    simp only [Bool.and_eq_true] at hp
    have hu:zae W.groups ((j - 12:Nat):Int)=true:=zac.2 ⟨by omega,by omega,hp.1.2.1⟩
    have:=h.s _ c hu c0 c1
    omega
theorem zjp {K:Int} {W:Wld} (h:SW K W) (hK:0<=K) {c:Int} (c0:0<=c) (c1:c<(W.cpus.length:Int)):∀k:Nat,k<=8->SW K (za3 W c k)/\zgt W (za3 W c k)
 | 0,_=>⟨h,zgt.refl _⟩
 | k+1,hk=>by
  obtain ⟨a,b⟩:=zjp h hK c0 c1 k (by omega)
  have hl:=a.a.gl
  have c1':c<((za3 W c k).cpus.length:Int):=by rw [b.c]; exact c1
  simp only [za3]
  split
  ·rename_i hc
   have hu:zae (za3 W c k).groups (k:Int)=true:=zac.2 ⟨by omega,by omega,hc.1⟩
   have s1:=a.s _ c hu c0 c1'
   have br:=z0t a (k:=(k:Int)) c0 c1' hK
   exact ⟨(a.sf.setSh (s:=zw1 (za3 W c k) (k:Int) c) hu c0 c1' br.1 br.2 br.2 s1.2.2.1 s1.2.2.2.1 s1.2.2.2.2.1 s1.2.2.2.2.2).w,b.trans (zhf (by omega) (by omega))⟩
  ·exact ⟨a,b⟩
def endC (x:Cpu):Cpu:={ x with cur := -1,ran:=0 }
def endW (W:Wld) (c:Int):Wld:=setCp W c (endC (gi W.cpus c))
theorem zaec {cs cs':List Cpu}:∀k:Nat,(∀j:Nat,j<k->(gi cs' (j:Int)).up=(gi cs (j:Int)).up)->upsN cs' k=upsN cs k
 | 0,_=>rfl
 | k+1,h=>by simp only [upsN]; rw [zaec k fun j hj=>h j (by omega),h k (by omega)]
theorem z8j {cs cs':List Cpu} (hl:cs'.length=cs.length) (h:∀j:Nat,j<cs.length->(gi cs' (j:Int)).up=(gi cs (j:Int)).up):upsD cs'=upsD cs:=by
 unfold upsD
 rw [hl]
 exact zaec _ h
theorem WA.cp {W:Wld} (ha:WA W) {cs:List Cpu} (hl:cs.length=W.cpus.length) (hu:upsD cs≠0):WA { W with cpus:=cs }:=
 ⟨ha.n1,ha.n2,by show 1<=cs.length; rw [hl]; exact ha.c1,by show cs.length<=4; rw [hl]; exact ha.c2,ha.t,ha.tree,hu,fun k a b=>by
  have:=ha.grp k a b
  refine ⟨this.1,fun hu => ?_⟩
  have hg:=this.2 hu
  exact ⟨hg.w1,hg.w2,hg.m,hg.m0,hg.s,by show (gi W.groups k).shelves.length=cs.length; rw [hl]; exact hg.len,hg.root,hg.none,fun q=>by
   have:=hg.band q
   exact ⟨this.1,by show (gi W.groups k).band.locals.length=cs.length; rw [hl]; exact this.2.1,this.2.2⟩⟩⟩
theorem SW.endW {K:Int} {W:Wld} (h:SW K W) {c:Int} (c0:0<=c) (c1:c<(W.cpus.length:Int)):SW K (endW W c):=by
 have hl:(W.cpus.set c.toNat (endC (gi W.cpus c))).length=W.cpus.length:=List.length_set
 have hg:∀d:Int,0<=d->gi (W.cpus.set c.toNat (endC (gi W.cpus c))) d=if c=d then endC (gi W.cpus c) else gi W.cpus d:=fun d d0=>za4 _ _ c0 c1 d0
 refine ⟨h.a.cp hl ?_,fun t a b n => ?_,h.tv,fun k d u a b => ?_,fun d a b => ?_⟩
 ·rw [z8j hl fun j hj => ?_]
  ·exact h.a.ups
  ·rw [hg _ (by omega)]
   split
   ·rename_i e; rw [e]; rfl
   ·rfl
 ·show _/\_/\_<(((W.cpus.set c.toNat (endC (gi W.cpus c))).length:Nat):Int)
  rw [hl]
  exact h.t t a b n
 ·have b:d<(((W.cpus.set c.toNat (endC (gi W.cpus c))).length:Nat):Int):=b
  rw [hl] at b
  exact h.s k d u a b
 ·have b:d<(((W.cpus.set c.toNat (endC (gi W.cpus c))).length:Nat):Int):=b
  rw [hl] at b
  show _<=(gi (W.cpus.set c.toNat (endC (gi W.cpus c))) d).cur/\_
  rw [show (gi (Go.Proofs.YtclpmgfpjeaibaaGreatDoor.endW W c).cpus d).cur=(gi (W.cpus.set c.toNat (endC (gi W.cpus c))) d).cur from rfl,hg _ a]
  split
  ·exact ⟨Int.le_refl _,show (-1:Int)<12 by decide⟩
  ·exact h.cu d a b
def zoq (W:Wld) (c:Int):Bool:=decide ((gi W.cpus c).cur>=0)&&(((tkk W (gi W.cpus c).cur).cpu != c) || !ze3 W (gi W.cpus c).cur)
def zhl (W:Wld) (c:Int):Wld:=if zoq (za7 (zat W c) c) c=true then endW (za7 (zat W c) c) c else za7 (zat W c) c
def zeo (W:Wld):Nat->Wld
 | 0=>W
 | c+1=>zhl (zeo W c) (c:Int)
def zah (W:Wld):Wld:=zeo (zop (zbq W W.cpus.length)) W.cpus.length
structure Fr (W W':Wld):Prop where
 n:W'.now=W.now
 c:W'.cpus.length=W.cpus.length
 t:W'.tasks=W.tasks
 g:zb6 W.groups W'.groups
theorem Fr.refl (W:Wld):Fr W W:=⟨rfl,rfl,rfl,zb6.refl _⟩
theorem Fr.trans {A B C:Wld} (h:Fr A B) (k:Fr B C):Fr A C:=⟨k.n.trans h.n,k.c.trans h.c,k.t.trans h.t,h.g.trans k.g⟩
theorem zgt.fr {W W':Wld} (h:zgt W W'):Fr W W':=⟨h.n,by rw [h.c],h.t,h.g⟩
theorem zkp.fr {W W':Wld} (h:zkp W W'):Fr W W':=⟨h.n,by rw [h.c],h.t,h.g⟩
theorem z5r (W:Wld) (c:Int):Fr W (endW W c):=⟨rfl,List.length_set,rfl,zb6.refl _⟩
theorem zagd {K:Int} {W:Wld} (h:SW K W) (hK:0<=K) {c:Int} (c0:0<=c) (c1:c<(W.cpus.length:Int)):SW (K+lagB) (zhl W c)/\Fr W (zhl W c):=by
 obtain ⟨a1,b1⟩:=zq2 (F:=K) (K:=K+lagB) (h.sf.mono (Int.le_refl _) (by simp only [lagB]; omega)) (Int.le_refl _) c0 c1
 obtain ⟨a2,b2⟩:=zjp a1.w (by simp only [lagB]; omega) c0 (c:=c) (by rw [b1.c]; exact c1) 8 (by omega)
 have hf:=b1.fr.trans b2.fr
 unfold zhl
 split
 ·exact ⟨SW.endW a2 c0 (by show c<((za3 (zat W c) c 8).cpus.length:Int); rw [hf.c]; exact c1),hf.trans (z5r _ _)⟩
 ·exact ⟨a2,hf⟩
theorem zl7 {K:Int} {W:Wld} (h:SW K W) (hK:0<=K):∀c:Nat,c<=W.cpus.length->SW (K+(c:Int)*lagB) (zeo W c)/\Fr W (zeo W c)
 | 0,_=>⟨h.mono (by simp),Fr.refl _⟩
 | c+1,hc=>by
  obtain ⟨a,b⟩:=zl7 h hK c (by omega)
  obtain ⟨a2,b2⟩:=zagd a (by simp only [lagB]; omega) (c:=(c:Int)) (by omega) (by rw [b.c]; omega)
  exact ⟨a2.mono (by simp only [lagB]; omega),b.trans b2⟩
abbrev stlB:Int:=5*lagB
theorem zgq {K:Int} {W:Wld} (h:SW K W) (hK:0<=K):SW (K+stlB) (zah W)/\Fr W (zah W):=by
 obtain ⟨a1,b1⟩:=zhe (F:=K) (K:=K+lagB) (h.sf.mono (Int.le_refl _) (by simp only [lagB]; omega)) (Int.le_refl _) W.cpus.length (Nat.le_refl _)
 obtain ⟨a2,b2⟩:=zh9 a1 8 (by omega)
 have hf:=b1.fr.trans b2.fr
 obtain ⟨a3,b3⟩:=zl7 a2.w (by simp only [lagB]; omega) W.cpus.length (by show W.cpus.length<=(zdm (zbq W W.cpus.length) 8).cpus.length; rw [hf.c]; exact Nat.le_refl _)
 have:=h.a.c2
 exact ⟨a3.mono (by simp only [lagB,stlB]; omega),hf.trans b3⟩
abbrev zbr:Int:=50000000000000000
structure zu3 (W:Wld):Prop where
 n:W.now<=zbr
 c:∀c:Int,0<=c->c<(W.cpus.length:Int)->(gi W.cpus c).busy<=zbr/\(gi W.cpus c).idle<=zbr
 t:∀t:Int,0<=t->t<(W.tasks.length:Int)->(gi W.tasks t).v<=zbr/\(gi W.tasks t).sum<=zbr/\(gi W.tasks t).used<=zbr
 g:∀k:Int,0<=k->k<(W.groups.length:Int)->(gi W.groups k).sum<=zbr
 s:∀k c:Int,0<=k->k<(W.groups.length:Int)->0<=c->c<((gi W.groups k).shelves.length:Int)->(shf W k c).floor<=zbr/\(shf W k c).v<=zbr/\(shf W k c).sum<=zbr
noncomputable def zhh (W:Wld):Bool:=decB (zu3 W)
theorem zai4 {W:Wld} (wp:WldP W) (r:zu3 W):SW zbr W:=by
 have ht:=wp.a.t
 have hg:=wp.a.gl
 refine ⟨wp.a,fun t t0 t1 n => ?_,fun t t0 t1 => ?_,fun k c u c0 c1 => ?_,fun c c0 c1 => ?_⟩
 ·rcases wp.t t t0 t1 with h | h
  ·exact absurd h.1 n
  ·exact ⟨h.2.g,zwe wp.a h.2.c⟩
 ·refine ⟨?_,(r.t t t0 (by omega)).1⟩
  rcases wp.t t t0 t1 with h | h
  ·rw [h.2]; exact Int.le_refl _
  ·exact (ze9.1 h.2.v).1
 ·obtain ⟨u0,u1,_⟩:=zac.1 u
  have hl:=wp.a.sl u
  have hs:=wp.s k c u0 (by omega) c0 (by omega)
  have hr:=r.s k c u0 u1 c0 (by omega)
  exact ⟨(ze9.1 hs.f).1,hr.1,(ze9.1 hs.v).1,hr.2.1,hs.w1,hs.w2⟩
 ·have hc:=wp.c c c0 c1
  have h1:=hc.c1
  have h2:=hc.c2
  omega
theorem WA.tk {W:Wld} (ha:WA W) {ts:List Tsk} (hl:ts.length=W.tasks.length):WA { W with tasks:=ts }:=
 ⟨ha.n1,ha.n2,ha.c1,ha.c2,by show ts.length=12; rw [hl]; exact ha.t,ha.tree,ha.ups,fun k a b=>by
  have:=ha.grp k a b
  refine ⟨this.1,fun hu => ?_⟩
  have hg:=this.2 hu
  exact ⟨hg.w1,hg.w2,hg.m,hg.m0,hg.s,hg.len,hg.root,hg.none,hg.band⟩⟩
theorem SW.setTk {K:Int} {W:Wld} (h:SW K W) {t:Int} (t0:0<=t) (t1:t<12) {x:Tsk} (hx:x.state≠0->zae W.groups x.group=true/\0<=x.cpu/\x.cpu<(W.cpus.length:Int)) (v0:0<=x.v) (v1:x.v<=K):SW K (setTk W t x):=by
 have hl:=h.a.t
 have e:∀i:Int,0<=i->tkk (Go.Proofs.YtclpmgfpjeaibaaGreatDoor.setTk W t x) i=if t=i then x else tkk W i:=fun i i0=>za4 _ _ t0 (by omega) i0
 refine ⟨h.a.tk List.length_set,fun i a b n => ?_,fun i a b => ?_,h.s,h.cu⟩
 ·rw [e i a] at n ⊢
  split
  ·rename_i he; rw [if_pos he] at n; exact hx n
  ·rename_i he; rw [if_neg he] at n; exact h.t i a b n
 ·rw [e i a]
  split
  ·exact ⟨v0,v1⟩
  ·exact h.tv i a b
def zs7:Wld:=⟨0,[],[],[]⟩
def noM:MW:=⟨none,0,none,0,none,0,fun _=>⟨none,0,none,0,none,0⟩⟩
noncomputable def ansD (W:Wld) (bar:Int) (W':Wld):Wld×Int:=if zbi W=false then (zs7,1) else if bar≠0 then (W,bar) else (W',0)
theorem zaa7 {W W':Wld} {bar:Int} (h:zbi W=false):ansD W bar W'=(zs7,1):=if_pos h
theorem z2r {W W':Wld} {bar:Int} (h:zbi W=true) (hb:bar≠0):ansD W bar W'=(W,bar):=by unfold ansD; rw [if_neg (by rw [h]; decide),if_pos hb]
theorem zagq {W W':Wld} {bar:Int} (h:zbi W=true) (hb:bar=0):ansD W bar W'=(W',0):=by unfold ansD; rw [if_neg (by rw [h]; decide),if_neg (by simpa using hb)]
theorem Own.same {α:Type} {enc:α->List Value} {z:Nat} {ty:TypeId} {base:Nat} {w:World} {o:Option Addr} {cap:Nat} {l l':List α} (h:Own enc z ty base w o cap l) (he:l'.flatMap enc=l.flatMap enc) (hl:l'.length=l.length):Own enc z ty base w o cap l':=by
 rcases h with ⟨h1,rfl,h3⟩ | ⟨b,sp,rfl,h1,h2,h3,h4⟩
 ·exact .inl ⟨h1,List.eq_nil_of_length_eq_zero hl,h3⟩
 ·exact .inr ⟨b,sp,rfl,h1,by rw [he]; exact h2,by rw [he]; exact h3,by omega⟩
theorem zqp {α:Type} {enc:α->List Value}:∀(l:List α) (i:Nat) (x:α),(∀y,l[i]? = some y->enc x=enc y)->(l.set i x).flatMap enc=l.flatMap enc
 | [],_,_,_=>rfl
 | y::r,0,x,h=>by simp only [List.set_cons_zero,List.flatMap_cons]; rw [h y rfl]
 | y::r,i+1,x,h=>by
  simp only [List.set_cons_succ,List.flatMap_cons]
  rw [zqp r i x fun z hz=>h z (by simpa using hz)]
theorem zaju {α:Type} [Inhabited α] {l:List α} {i:Int} (h0:0<=i) (hi:i<(l.length:Int)):l[i.toNat]? = some (gi l i):=by
 obtain ⟨k,rfl⟩:=Int.eq_ofNat_of_zero_le h0
 rw [Int.toNat_natCast]
 exact zah4 (by omega)
section
variable {base:Nat} {w w':World} {o:Option Addr} {cap:Nat} {ps:List (Grp×MG)}
theorem OwnG.foreign {α:Type} {enc:α->List Value} {z:Nat} {ty:TypeId} {base' cap':Nat} {o':Option Addr} {l:List α} (h:OwnG base w o cap ps) (h':Own enc z ty base' w o' cap' l)
  (n1:zaw≠ty) (n2:zao≠ty) (n3:zdg≠ty) (n4:zbv≠ty) (hx:ExtX (za9 o') w w'):OwnG base w' o cap ps:=
 ⟨h.row.ext hx (h.row.ty_ne h' n1),fun i a b=>(h.each i a b).ext hx fun x hm=>by
  simp only [zam,List.mem_append] at hm
  rcases hm with (hm | hm) | hm
  ·exact (h.each i a b).loc.ty_ne h' n2 x hm
  ·exact (h.each i a b).dry.ty_ne h' n3 x hm
  ·exact (h.each i a b).shl.ty_ne h' n4 x hm,h.dj⟩
theorem OwnG.sto (h:OwnG base w o cap ps) {i:Int} (h0:0<=i) (hi:i<(ps.length:Int)) {p:Grp×MG} (hp:OwnM base w p)
  (hd:∀j:Int,0<=j->j<(ps.length:Int)->i≠j->∀b∈zam (gi ps j).2,b∉zam p.2) {j:Nat} {vs:List Value}
  (he:encP p=(encP (gi ps i)).take j++vs++(encP (gi ps i)).drop (j+vs.length)) (hj:j+vs.length<=14):OwnG base (Go.Proofs.YtclpmgfpjeaibaaGreatDoor.sto w o (Int.toNat i*14+j) vs) o cap (ps.set i.toNat p):=by
 have hx:=h.row.stoX (Int.toNat i*14+j) vs
 have hlen:(ps.set i.toNat p).length=ps.length:=List.length_set
 refine ⟨h.row.sto zc1.len h0 hi he hj,fun k hk hkl => ?_,fun a k ha hal hk hkl hak b hb hb' => ?_⟩
 ·rw [hlen] at hkl
  rw [za4 _ _ h0 hi hk]
  split
  ·exact hp.ext hx (zfm h.row hp)
  ·exact (h.each k hk hkl).ext hx (zfm h.row (h.each k hk hkl))
 ·rw [hlen] at hal hkl
  rw [za4 _ _ h0 hi ha] at hb
  rw [za4 _ _ h0 hi hk] at hb'
  by_cases e1:i=a
  ·rw [if_pos e1] at hb
   by_cases e2:i=k
   ·omega
   ·rw [if_neg e2] at hb'
    exact hd k hk hkl e2 b hb' hb
  ·rw [if_neg e1] at hb
   by_cases e2:i=k
   ·rw [if_pos e2] at hb'
    exact hd a ha hal e1 b hb hb'
   ·rw [if_neg e2] at hb'
    exact h.dj a k ha hal hk hkl hak b hb hb'
theorem OwnG.in (h:OwnG base w o cap ps) {i:Int} (h0:0<=i) (hi:i<(ps.length:Int)) {p:Grp×MG} {bs:List Nat} (hx:ExtX bs w w') (hb:∀x∈bs,x∈zam (gi ps i).2)
  (hp:OwnM base w' p) (hm:p.2=(gi ps i).2) (he:encP p=encP (gi ps i)):OwnG base w' o cap (ps.set i.toNat p):=by
 have hlen:(ps.set i.toNat p).length=ps.length:=List.length_set
 refine ⟨?_,fun k hk hkl => ?_,fun a k ha hal hk hkl hak b hb1 hb' => ?_⟩
 ·refine (h.row.ext hx fun b hb1 hb2=>zfm h.row (h.each i h0 hi) b (hb b hb2) hb1).same (zqp _ _ _ fun y hy => ?_) hlen
  rw [zaju h0 hi] at hy
  cases hy
  exact he
 ·rw [hlen] at hkl
  rw [za4 _ _ h0 hi hk]
  split
  ·exact hp
  ·rename_i hne
   exact (h.each k hk hkl).ext hx fun b hb1 hb2=>h.dj i k h0 hi hk hkl hne b (hb b hb2) hb1
 ·rw [hlen] at hal hkl
  rw [za4 _ _ h0 hi ha] at hb1
  rw [za4 _ _ h0 hi hk] at hb'
  have e1:b∈zam (gi ps a).2:=by
   by_cases e:i=a
   ·rw [if_pos e,hm,e] at hb1; exact hb1
   ·rw [if_neg e] at hb1; exact hb1
  have e2:b∈zam (gi ps k).2:=by
   by_cases e:i=k
   ·rw [if_pos e,hm,e] at hb'; exact hb'
   ·rw [if_neg e] at hb'; exact hb'
  exact h.dj a k ha hal hk hkl hak b e1 e2
end
def psW (W:Wld) (m:MW):List (Grp×MG):=(List.range W.groups.length).map fun (k:Nat)=>(gi W.groups (k:Int),m.ms k)
theorem zhg (W:Wld) (m:MW):(psW W m).length=W.groups.length:=by simp [psW]
theorem zno {W:Wld} {m:MW} {i:Int} (h0:0<=i) (hi:i<(W.groups.length:Int)):gi (psW W m) i=(gi W.groups i,m.ms i.toNat):=by
 obtain ⟨k,rfl⟩:=Int.eq_ofNat_of_zero_le h0
 rw [zkd (by rw [zhg]; omega)]
 simp [psW]
def zbc (n:Nat) (m:MW):List Nat:=za9 m.cO++za9 m.tO++za9 m.gO++(List.range n).flatMap fun (k:Nat)=>zam (m.ms k)
structure MWd (n base:Nat) (w:World) (W:Wld) (m:MW):Prop where
 c:Own encC 5 zba base w m.cO m.cC W.cpus
 t:Own encT 9 zau base w m.tO m.tC W.tasks
 g:OwnG base w m.gO m.gC (psW W m)
 len:W.groups.length=n
section
variable {n base:Nat} {w w':World} {W:Wld} {m:MW} {bs:List Nat}
theorem z56 {x:Nat} (h:x∈za9 m.cO):x∈zbc n m:=by simp [zbc,h]
theorem z58 {x:Nat} (h:x∈za9 m.tO):x∈zbc n m:=by simp [zbc,h]
theorem z57 {x:Nat} (h:x∈za9 m.gO):x∈zbc n m:=by simp [zbc,h]
theorem zi7 {x k:Nat} (hk:k<n) (h:x∈zam (m.ms k)):x∈zbc n m:=by
 unfold zbc
 exact List.mem_append_right _ (List.mem_flatMap.2 ⟨k,List.mem_range.2 hk,h⟩)
theorem zyw {x:Nat} (h:x∈zbc n m):x∈za9 m.cO\/x∈za9 m.tO\/x∈za9 m.gO\/∃k,k<n/\x∈zam (m.ms k):=by
 unfold zbc at h
 simp only [List.mem_append,List.mem_flatMap,List.mem_range] at h
 rcases h with ((h | h) | h) | ⟨k,hk,h⟩
 ·exact .inl h
 ·exact .inr (.inl h)
 ·exact .inr (.inr (.inl h))
 ·exact .inr (.inr (.inr ⟨k,hk,h⟩))
theorem MWd.each (h:MWd n base w W m) {i:Int} (h0:0<=i) (hi:i<(n:Int)):OwnM base w (gi W.groups i,m.ms i.toNat):=by
 have:=h.g.each i h0 (by rw [zhg,h.len]; exact hi)
 rwa [zno h0 (by rw [h.len]; exact hi)] at this
theorem MWd.lt (h:MWd n base w W m):∀x∈zbc n m,base<=x/\x<w.heap.size:=fun x hx=>by
 rcases zyw hx with hx | hx | hx | ⟨k,hk,hx⟩
 ·exact h.c.lt x hx
 ·exact h.t.lt x hx
 ·exact h.g.row.lt x hx
 ·exact (h.each (i:=(k:Int)) (by omega) (by omega)).lt x (by simpa using hx)
theorem MWd.ext (h:MWd n base w W m) (hx:ExtX bs w w') (hd:∀x∈zbc n m,x∉bs):MWd n base w' W m:=
 ⟨h.c.ext hx fun b hb=>hd b (z56 hb),h.t.ext hx fun b hb=>hd b (z58 hb),
  ⟨h.g.row.ext hx fun b hb=>hd b (z57 hb),fun i a b=>by
   have b':i<(W.groups.length:Int):=by rw [zhg] at b; exact b
   have hl:=h.len
   refine (h.g.each i a b).ext hx fun x hm => ?_
   rw [zno a b'] at hm
   exact hd x (zi7 (by omega) hm),h.g.dj⟩,h.len⟩
theorem MWd.ext0 (h:MWd n base w W m) (hx:ExtX [] w w'):MWd n base w' W m:=h.ext hx (by simp)
theorem MWd.mono {base':Nat} (h:MWd n base w W m) (hb:base'<=base):MWd n base' w W m:=⟨h.c.mono hb,h.t.mono hb,h.g.mono hb,h.len⟩
theorem MWd.rd (h:MWd n base w W m) (hd:∀x∈zbc n m,x∉bs):RdW bs w W m:=by
 have hl:=h.len
 refine ⟨h.c.rd zsd.len fun b hb=>hd b (z56 hb),h.t.rd zlr.len fun b hb=>hd b (z58 hb),⟨fun i h0 hi => ?_,fun i h0 hi => ?_,fun i h0 hi => ?_,fun i h0 hi => ?_⟩⟩
 ·have:=h.g.row.rd zc1.len (bs:=bs) (fun b hb=>hd b (z57 hb)) i h0 (by rw [zhg]; exact hi)
  rwa [zno h0 hi] at this
 ·exact (h.each h0 (by omega)).loc.rd zgj.len fun b hb=>hd b (zi7 (k:=i.toNat) (by omega) (by simp [zam]; exact .inl hb))
 ·exact (h.each h0 (by omega)).dry.rd zh1.len fun b hb=>hd b (zi7 (k:=i.toNat) (by omega) (by simp [zam]; exact .inr (.inl hb)))
 ·exact (h.each h0 (by omega)).shl.rd zld.len fun b hb=>hd b (zi7 (k:=i.toNat) (by omega) (by simp [zam]; exact .inr (.inr hb)))
theorem MWd.stoT (h:MWd n base w W m) {i:Int} (h0:0<=i) (hi:i<(W.tasks.length:Int)) {j:Nat} {vs:List Value} {x:Tsk} (he:encT x=(encT (gi W.tasks i)).take j++vs++(encT (gi W.tasks i)).drop (j+vs.length)) (hj:j+vs.length<=9) :
  MWd n base (sto w m.tO (Int.toNat i*9+j) vs) { W with tasks:=W.tasks.set i.toNat x } m:=
 ⟨h.c.ext (h.t.stoX _ _) (h.c.ty_ne h.t (by decide)),h.t.sto zlr.len h0 hi he hj,h.g.foreign h.t (by decide) (by decide) (by decide) (by decide) (h.t.stoX _ _),h.len⟩
theorem MWd.stoC (h:MWd n base w W m) {i:Int} (h0:0<=i) (hi:i<(W.cpus.length:Int)) {j:Nat} {vs:List Value} {x:Cpu} (he:encC x=(encC (gi W.cpus i)).take j++vs++(encC (gi W.cpus i)).drop (j+vs.length)) (hj:j+vs.length<=5) :
  MWd n base (sto w m.cO (Int.toNat i*5+j) vs) { W with cpus:=W.cpus.set i.toNat x } m:=
 ⟨h.c.sto zsd.len h0 hi he hj,h.t.ext (h.c.stoX _ _) (h.t.ty_ne h.c (by decide)),h.g.foreign h.c (by decide) (by decide) (by decide) (by decide) (h.c.stoX _ _),h.len⟩
def setM (m:MW) (k:Nat) (p:MG):MW:={ m with ms:=fun j=>if k=j then p else m.ms j }
theorem z6x (m:MW) (k:Nat):setM m k (m.ms k)=m:=by
 unfold setM
 have:(fun j=>if k=j then m.ms k else m.ms j)=m.ms:=by
  funext j
  split
  ·rename_i e; rw [e]
  ·rfl
 rw [this]
theorem zadg {i:Int} (h0:0<=i) (hi:i<(W.groups.length:Int)) (g:Grp) (p:MG):psW { W with groups:=W.groups.set i.toNat g } (setM m i.toNat p)=(psW W m).set i.toNat (g,p):=by
 refine zagx (by rw [zhg,List.length_set,List.length_set,zhg]) fun k hk => ?_
 rw [zhg,List.length_set] at hk
 rw [zno (by omega) (by rw [List.length_set]; omega),za4 _ _ h0 hi (by omega),za4 _ _ h0 (by rw [zhg]; exact hi) (by omega)]
 simp only [setM]
 by_cases e:i=(k:Int)
 ·rw [if_pos e,if_pos e,if_pos (by omega)]
 ·rw [if_neg e,if_neg e,if_neg (by omega),zno (by omega) (by omega)]
theorem MWd.foreignM {p:MG} (h:MWd n base w W m) {i:Int} (hn:∀x∈zam p,x∉zbc n m\/x∈zam (m.ms i.toNat)) (h0:0<=i) (hi:i<(n:Int)):∀j:Int,0<=j->j<((psW W m).length:Int)->i≠j->∀b∈zam (gi (psW W m) j).2,b∉zam p:=fun j hj hjl hij b hb hb'=>by
 have hl:=h.len
 rw [zhg] at hjl
 have hb2:=hb
 rw [zno hj hjl] at hb
 rcases hn b hb' with h1 | h1
 ·exact h1 (zi7 (by omega) hb)
 ·have:=h.g.dj i j h0 (by rw [zhg]; omega) hj (by rw [zhg]; exact hjl) hij b (by rw [zno h0 (by omega)]; exact h1)
  exact this hb2
theorem MWd.stoG (h:MWd n base w W m) {i:Int} (h0:0<=i) (hi:i<(n:Int)) {g:Grp} {p:MG} (hp:OwnM base w (g,p)) (hn:∀x∈zam p,x∉zbc n m\/x∈zam (m.ms i.toNat)) {j:Nat} {vs:List Value}
  (he:encG g p=(encG (gi W.groups i) (m.ms i.toNat)).take j++vs++(encG (gi W.groups i) (m.ms i.toNat)).drop (j+vs.length)) (hj:j+vs.length<=14) :
  MWd n base (sto w m.gO (Int.toNat i*14+j) vs) { W with groups:=W.groups.set i.toNat g } (setM m i.toNat p):=by
 have hl:=h.len
 have hx:=h.g.row.stoX (Int.toNat i*14+j) vs
 refine ⟨h.c.ext hx (h.c.ty_ne h.g.row (by decide)),h.t.ext hx (h.t.ty_ne h.g.row (by decide)),?_,by rw [List.length_set]; exact hl⟩
 have:=h.g.sto h0 (by rw [zhg]; omega) hp (h.foreignM hn h0 hi) (j:=j) (vs:=vs) (by rw [zno h0 (by omega)]; exact he) hj
 rw [zadg h0 (by omega)]
 exact this
theorem MWd.stoG0 (h:MWd n base w W m) {i:Int} (h0:0<=i) (hi:i<(n:Int)) {g:Grp} (e1:g.band.locals=(gi W.groups i).band.locals) (e2:g.band.dry=(gi W.groups i).band.dry) (e3:g.shelves=(gi W.groups i).shelves) {j:Nat} {vs:List Value}
  (he:encG g (m.ms i.toNat)=(encG (gi W.groups i) (m.ms i.toNat)).take j++vs++(encG (gi W.groups i) (m.ms i.toNat)).drop (j+vs.length)) (hj:j+vs.length<=14) :
  MWd n base (sto w m.gO (Int.toNat i*14+j) vs) { W with groups:=W.groups.set i.toNat g } m:=by
 have hm:=h.each h0 hi
 have:=h.stoG h0 hi (g:=g) (p:=m.ms i.toNat) ⟨by rw [e1]; exact hm.loc,by rw [e2]; exact hm.dry,by rw [e3]; exact hm.shl⟩ (fun x hx=>.inr hx) he hj
 rwa [z6x] at this
theorem MWd.in (h:MWd n base w W m) {i:Int} (h0:0<=i) (hi:i<(n:Int)) {g:Grp} (hx:ExtX bs w w') (hb:∀x∈bs,x∈zam (m.ms i.toNat)) (hp:OwnM base w' (g,m.ms i.toNat)) (he:encG g (m.ms i.toNat)=encG (gi W.groups i) (m.ms i.toNat)) :
  MWd n base w' { W with groups:=W.groups.set i.toNat g } m:=by
 have hl:=h.len
 have hmi:=h.each h0 hi
 have hf:∀{α:Type} {enc:α->List Value} {z:Nat} {ty:TypeId} {base' cap':Nat} {o':Option Addr} {l:List α},Own enc z ty base' w o' cap' l->ty≠zao->ty≠zdg->ty≠zbv->∀b∈za9 o',b∉bs:=fun ho n1 n2 n3 b hb1 hb2=>by
  have hm:=hb b hb2
  simp only [zam,List.mem_append] at hm
  rcases hm with (hm | hm) | hm
  ·exact ho.ty_ne hmi.loc n1 b hb1 hm
  ·exact ho.ty_ne hmi.dry n2 b hb1 hm
  ·exact ho.ty_ne hmi.shl n3 b hb1 hm
 refine ⟨h.c.ext hx (hf h.c (by decide) (by decide) (by decide)),h.t.ext hx (hf h.t (by decide) (by decide) (by decide)),?_,by rw [List.length_set]; exact hl⟩
 have:=h.g.in h0 (by rw [zhg]; omega) (p:=(g,m.ms i.toNat)) hx (by rw [zno h0 (by omega)]; exact hb) hp (by rw [zno h0 (by omega)]) (by rw [zno h0 (by omega)]; exact he)
 have hs:=zadg (m:=m) h0 (W:=W) (by omega) g (m.ms i.toNat)
 rw [z6x] at hs
 rw [hs]
 exact this
theorem zaiz (W:Wld) (i:Int) (c:Int) (x:Shf) (mg:MG):encG { gi W.groups i with shelves:=(gi W.groups i).shelves.set c.toNat x } mg=encG (gi W.groups i) mg:=by
 simp [encG]
theorem MWd.stoS (h:MWd n base w W m) {i c:Int} (h0:0<=i) (hi:i<(n:Int)) (c0:0<=c) (c1:c<((gi W.groups i).shelves.length:Int)) {j:Nat} {vs:List Value} {x:Shf}
  (he:encS x=(encS (gi (gi W.groups i).shelves c)).take j++vs++(encS (gi (gi W.groups i).shelves c)).drop (j+vs.length)) (hj:j+vs.length<=5) :
  MWd n base (sto w (m.ms i.toNat).sO (Int.toNat c*5+j) vs) { W with groups:=W.groups.set i.toNat { gi W.groups i with shelves:=(gi W.groups i).shelves.set c.toNat x } } m:=by
 have hm:=h.each h0 hi
 have hx:=hm.shl.stoX (Int.toNat c*5+j) vs
 exact h.in h0 hi hx (fun x hx=>by simp [zam]; exact .inr (.inr hx)) ⟨hm.loc.ext hx (hm.loc.ty_ne hm.shl (by decide)),hm.dry.ext hx (hm.dry.ty_ne hm.shl (by decide)),hm.shl.sto zld.len c0 c1 he hj⟩ (zaiz _ _ _ _ _)
theorem MWd.stoL (h:MWd n base w W m) {i c:Int} (h0:0<=i) (hi:i<(n:Int)) (c0:0<=c) (c1:c<((gi W.groups i).band.locals.length:Int)) (x:Int) :
  MWd n base (sto w (m.ms i.toNat).lO (Int.toNat c*1+0) [.int .i64 x]) { W with groups:=W.groups.set i.toNat { gi W.groups i with band:={ (gi W.groups i).band with locals:=(gi W.groups i).band.locals.set c.toNat x } } } m:=by
 have hm:=h.each h0 hi
 have hx:=hm.loc.stoX (Int.toNat c*1+0) [.int .i64 x]
 exact h.in h0 hi hx (fun x hx=>by simp [zam]; exact .inl hx) ⟨hm.loc.sto zgj.len c0 c1 (j:=0) (vs:=[.int .i64 x]) (x:=x) rfl (by simp),hm.dry.ext hx (hm.dry.ty_ne hm.loc (by decide)),hm.shl.ext hx (hm.shl.ty_ne hm.loc (by decide))⟩ (by simp [encG])
theorem MWd.stoD (h:MWd n base w W m) {i c:Int} (h0:0<=i) (hi:i<(n:Int)) (c0:0<=c) (c1:c<((gi W.groups i).band.dry.length:Int)) (x:Bool) :
  MWd n base (sto w (m.ms i.toNat).dO (Int.toNat c*1+0) [.bool x]) { W with groups:=W.groups.set i.toNat { gi W.groups i with band:={ (gi W.groups i).band with dry:=(gi W.groups i).band.dry.set c.toNat x } } } m:=by
 have hm:=h.each h0 hi
 have hx:=hm.dry.stoX (Int.toNat c*1+0) [.bool x]
 exact h.in h0 hi hx (fun x hx=>by simp [zam]; exact .inr (.inl hx)) ⟨hm.loc.ext hx (hm.loc.ty_ne hm.dry (by decide)),hm.dry.sto zh1.len c0 c1 (j:=0) (vs:=[.bool x]) (x:=x) rfl (by simp),hm.shl.ext hx (hm.shl.ty_ne hm.dry (by decide))⟩ (by simp [encG])
end
structure Mv (n base:Nat) (bs:List Nat) (w0:World) (m0:MW) (w:World) (W:Wld) (m:MW):Prop where
 own:MWd n base w W m
 ext:ExtX (zbc n m0) w0 w
 sub:∀x∈zbc n m,x∈zbc n m0\/w0.heap.size<=x
 hd:m={ m0 with ms:=m.ms }
 nb:∀x∈zbc n m,x∉bs
 new:∀x∈bs,w0.heap.size<=x
section
variable {n base:Nat} {bs cs:List Nat} {w0 w w':World} {W W':Wld} {m0 m m':MW} {b:Nat}
theorem Mv.start (h:MWd n base w W m):Mv n base [] w m w W m:=⟨h,ExtX.refl _ _,fun x hx=>.inl hx,rfl,by simp,by simp⟩
theorem Mv.add (h:Mv n base bs w0 m0 w W m) (hb:w.heap.size<=b):Mv n base (bs++[b]) w0 m0 w W m:=⟨h.own,h.ext,h.sub,h.hd,fun x hx hm=>by
 rcases List.mem_append.1 hm with hm | hm
 ·exact h.nb x hx hm
 ·have:x=b:=by simpa using hm
  have:=(h.own.lt x hx).2
  omega,fun x hm=>by
 rcases List.mem_append.1 hm with hm | hm
 ·exact h.new x hm
 ·have:x=b:=by simpa using hm
  have:=h.ext.size
  omega⟩
theorem Mv.sub' (h:Mv n base bs w0 m0 w W m) (hs:∀x∈cs,x∈bs):Mv n base cs w0 m0 w W m:=⟨h.own,h.ext,h.sub,h.hd,fun x hx hm=>h.nb x hx (hs x hm),fun x hm=>h.new x (hs x hm)⟩
theorem Mv.close (h:Mv n base bs w0 m0 w W m):Mv n base [] w0 m0 w W m:=h.sub' (by simp)
theorem Mv.step (h:Mv n base bs w0 m0 w W m) (hx:ExtX bs w w'):Mv n base bs w0 m0 w' W m:=⟨h.own.ext hx h.nb,h.ext.fresh hx fun x hm=>.inl (h.new x hm),h.sub,h.hd,h.nb,h.new⟩
theorem Mv.call0 (h:Mv n base bs w0 m0 w W m) (hx:ExtX [] w w'):Mv n base bs w0 m0 w' W m:=⟨h.own.ext0 hx,h.ext.trans hx.of_nil,h.sub,h.hd,h.nb,h.new⟩
theorem Mv.call (h:Mv n base bs w0 m0 w W m) (k:Mv n base [] w m w' W' m') (hs:∀x∈bs,x<w.heap.size):Mv n base bs w0 m0 w' W' m':=
 ⟨k.own,h.ext.fresh k.ext fun x hm=>(h.sub x hm).symm,fun x hx=>by
  rcases k.sub x hx with h1 | h1
  ·exact h.sub x h1
  ·have:=h.ext.size
   exact .inr (by omega),by rw [k.hd,h.hd],fun x hx hm=>by
  rcases k.sub x hx with h1 | h1
  ·exact h.nb x h1 hm
  ·have:=hs x hm
   omega,h.new⟩
theorem Mv.deed (h:Mv n base bs w0 m0 w W m) (k:MWd n base w' W' m) (hx:ExtX (zbc n m) w w'):Mv n base bs w0 m0 w' W' m:=
 ⟨k,h.ext.fresh hx fun x hm=>(h.sub x hm).symm,h.sub,h.hd,h.nb,h.new⟩
theorem Mv.kept (h:Mv n base bs w0 m0 w W m) (k:Mv n base [] w m w' W' m') (hs:∀x∈bs,x<w.heap.size):Kept bs w w':=fun x hm=>k.ext.block x (hs x hm) fun hm'=>h.nb x hm' hm
theorem Mv.rd (h:Mv n base bs w0 m0 w W m):RdW bs w W m:=h.own.rd h.nb
theorem Mv.rd0 (h:Mv n base bs w0 m0 w W m):RdW [] w W m:=h.own.rd (by simp)
theorem Mv.trans {w1:World} {W1:Wld} {m1:MW} (h:Mv n base [] w0 m0 w W m) (k:Mv n base [] w m w1 W1 m1):Mv n base [] w0 m0 w1 W1 m1:=h.call k (by simp)
theorem Mv.encW_eq (h:Mv n base bs w0 m0 w W m) {W0:Wld} (e0:W.now=W0.now) (e1:W.cpus.length=W0.cpus.length) (e2:W.tasks.length=W0.tasks.length) (e3:W.groups.length=W0.groups.length):encW W m=encW W0 m0:=by
 rw [h.hd]
 simp only [encW,e0,e1,e2,e3]
end
structure OW (n base:Nat) (bs:List Nat) (w:World) (W:Wld) (m:MW):Prop where
 own:MWd n base w W m
 nb:∀x∈zbc n m,x∉bs
section
variable {n base:Nat} {bs cs:List Nat} {w w':World} {W:Wld} {m:MW} {b:Nat}
theorem OW.of (h:MWd n base w W m) (hs:∀x∈bs,x<base):OW n base bs w W m:=⟨h,fun x hx hm=>by
 have:=(h.lt x hx).1
 have:=hs x hm
 omega⟩
theorem OW.step (h:OW n base bs w W m) (hx:ExtX bs w w'):OW n base bs w' W m:=⟨h.own.ext hx h.nb,h.nb⟩
theorem OW.call0 (h:OW n base bs w W m) (hx:ExtX [] w w'):OW n base bs w' W m:=⟨h.own.ext0 hx,h.nb⟩
theorem OW.call (h:OW n base bs w W m) (hx:ExtX cs w w') (hd:∀x∈zbc n m,x∉cs):OW n base bs w' W m:=⟨h.own.ext hx hd,h.nb⟩
theorem OW.add (h:OW n base bs w W m) (hb:w.heap.size<=b):OW n base (bs++[b]) w W m:=⟨h.own,fun x hx hm=>by
 rcases List.mem_append.1 hm with hm | hm
 ·exact h.nb x hx hm
 ·have:x=b:=by simpa using hm
  have:=(h.own.lt x hx).2
  omega⟩
theorem OW.put (h:OW n base bs w W m) (hx:ExtX bs w w') (hb:w.heap.size<=b):OW n base (bs++[b]) w' W m:=⟨(h.step hx).own,(h.add hb).nb⟩
theorem OW.sub (h:OW n base bs w W m) (hs:∀x∈cs,x∈bs):OW n base cs w W m:=⟨h.own,fun x hx hm=>h.nb x hx (hs x hm)⟩
theorem OW.mono {base':Nat} (h:OW n base bs w W m) (hb:base'<=base):OW n base' bs w W m:=⟨h.own.mono hb,h.nb⟩
theorem OW.rd (h:OW n base bs w W m):RdW bs w W m:=h.own.rd h.nb
theorem OW.rd0 (h:OW n base bs w W m):RdW [] w W m:=h.own.rd (by simp)
end
def z5o (b:Bnd):Bnd:=⟨b.quota,b.quota,0,List.replicate b.dry.length 0,List.replicate b.dry.length false⟩
def zdc (b:Bnd) (c:Int):Bnd×Int:=
 if gi b.locals c>0 then (b,0)
 else (⟨b.quota,b.pool - minI 20 b.pool,b.spent,b.locals.set c.toNat (minI 20 b.pool),b.dry.set c.toNat (minI 20 b.pool==0)⟩,if minI 20 b.pool=0 then 2 else 0)
def zfn (b:Bnd) (c n:Int):Bnd×Int:=
 if n<1\/n>gi b.locals c then (b,3) else ({ b with spent:=b.spent+n,locals:=b.locals.set c.toNat (gi b.locals c - n) },0)
def zdd (b:Bnd) (op:QOp):Bnd×Int:=
 if op.kind=4 then (z5o b,0)
 else if inB op.at' 0 ((b.locals.length:Int) - 1)=false then (b,1)
 else if op.kind=1 then zdc b op.at'
 else if op.kind=2 then zfn b op.at' op.n
 else if op.kind=3 then (ze1 b op.at',0)
 else (b,1)
structure zdl (base:Nat) (w:World) (b:Bnd) (p:MG):Prop where
 loc:Own encI 1 zao base w p.lO p.lC b.locals
 dry:Own encB 1 zdg base w p.dO p.dC b.dry
def zfc (p:MG):List Nat:=za9 p.lO++za9 p.dO
theorem zdl.lt {base:Nat} {w:World} {b:Bnd} {p:MG} (h:zdl base w b p):∀x∈zfc p,base<=x/\x<w.heap.size:=fun x hx=>by
 rcases List.mem_append.1 hx with hx | hx
 ·exact h.loc.lt x hx
 ·exact h.dry.lt x hx
theorem zdl.ext {base:Nat} {w w':World} {b:Bnd} {p:MG} {bs:List Nat} (h:zdl base w b p) (hx:ExtX bs w w') (hd:∀x∈zfc p,x∉bs):zdl base w' b p:=
 ⟨h.loc.ext hx fun x hm=>hd x (List.mem_append_left _ hm),h.dry.ext hx fun x hm=>hd x (List.mem_append_right _ hm)⟩
theorem zdl.ext0 {base:Nat} {w w':World} {b:Bnd} {p:MG} (h:zdl base w b p) (hx:ExtX [] w w'):zdl base w' b p:=h.ext hx (by simp)
theorem zdl.extB {base:Nat} {w w':World} {b:Bnd} {p:MG} {bs:List Nat} (h:zdl base w b p) (hx:ExtX bs w w') (hb:∀x∈bs,x<base):zdl base w' b p:=h.ext hx fun x hm hm'=>by
 have:=(h.lt x hm).1
 have:=hb x hm'
 omega
theorem zdl.mono {base base':Nat} {w:World} {b:Bnd} {p:MG} (h:zdl base w b p) (hb:base'<=base):zdl base' w b p:=⟨h.loc.mono hb,h.dry.mono hb⟩
theorem zdl.stoL {base:Nat} {w:World} {b:Bnd} {p:MG} (h:zdl base w b p) {c:Int} (c0:0<=c) (c1:c<(b.locals.length:Int)) (x:Int):zdl base (sto w p.lO (Int.toNat c*1) [.int .i64 x]) { b with locals:=b.locals.set c.toNat x } p:=
 ⟨h.loc.sto zgj.len c0 c1 (j:=0) (vs:=[.int .i64 x]) (x:=x) rfl (by simp),h.dry.ext (h.loc.stoX _ _) (h.dry.ty_ne h.loc (by decide))⟩
theorem zdl.stoD {base:Nat} {w:World} {b:Bnd} {p:MG} (h:zdl base w b p) {c:Int} (c0:0<=c) (c1:c<(b.dry.length:Int)) (x:Bool):zdl base (sto w p.dO (Int.toNat c*1) [.bool x]) { b with dry:=b.dry.set c.toNat x } p:=
 ⟨h.loc.ext (h.dry.stoX _ _) (h.loc.ty_ne h.dry (by decide)),h.dry.sto zh1.len c0 c1 (j:=0) (vs:=[.bool x]) (x:=x) rfl (by simp)⟩
theorem zdl.xL {base:Nat} {w:World} {b:Bnd} {p:MG} (h:zdl base w b p) (n:Nat) (vs:List Value):ExtX (zfc p) w (sto w p.lO n vs):=(h.loc.stoX n vs).mono fun x hx=>List.mem_append_left _ hx
theorem zdl.xD {base:Nat} {w:World} {b:Bnd} {p:MG} (h:zdl base w b p) (n:Nat) (vs:List Value):ExtX (zfc p) w (sto w p.dO n vs):=(h.dry.stoX n vs).mono fun x hx=>List.mem_append_right _ hx
section
variable {b:Bnd} {m:MG} {w:World}
theorem zro {α:Type} [Inhabited α] {l:List α} {i:Nat} (h:i<l.length):l.take i++[gi l (i:Int)]=l.take (i+1):=by
 rw [List.take_succ_eq_append_getElem h,zkd h]
theorem ztd (h1:RdI [] w m.lO b.locals) (h2:RdB [] w m.dO b.dry) (hd:b.dry.length=b.locals.length) (hl:b.locals.length<=1048576) :
  Calls Tryz.prog zi8 #[.agg (zdj b m).toArray] w fun e w'=>∃p,e = .returned (.agg (zdj b p).toArray)/\zdl w.heap.size w' b p/\ExtX [] w w':=by
 refine (z5i b.quota b.pool b.spent m.lO b.locals.length m.lC m.dO b.dry.length m.dC (R:=fun v w'=>∃p,v = .agg (zdj b p).toArray/\zdl w.heap.size w' b p/\ExtX [] w w') ?_).mono fun e w' ⟨v,he,p,hv,h3⟩=>⟨p,by rw [he,hv],h3⟩
 intro x hx0 x5 hx5 x6 hx6
 refine ⟨fun vs w1=>∃(i:Nat) (p:MG),vs=[.int .i64 (i:Int),.int .i64 b.quota,.int .i64 b.pool,.int .i64 b.spent,.slice p.lO (b.locals.take i).length p.lC,.slice p.dO (b.dry.take i).length p.dC]/\i<=b.locals.length/\Sc w [x,x5,x6] w1/\Ob encI 1 zao w.heap.size [x,x5,x6] w1 p.lO p.lC (b.locals.take i)/\Ob encB 1 zdg w.heap.size [x,x5,x6] w1 p.dO p.dC (b.dry.take i),
  zd5 b.locals.length 0,fun wr hx _=>⟨0,⟨none,0,none,0,none,0⟩,by simp,Nat.zero_le _,(((Sc.start w).add hx0).add hx5 |>.add hx6).call0 hx,⟨.inl ⟨rfl,rfl,rfl⟩,by simp [za9]⟩,⟨.inl ⟨rfl,rfl,rfl⟩,by simp [za9]⟩⟩,?_⟩
 rintro c1 l l1 l2 l3O l3L l3C l4O l4L l4C wv hs ⟨i,p,he,hi,s1,hO,hD⟩
 simp only [List.cons.injEq,Value.int.injEq,Value.slice.injEq,true_and,and_true] at he
 obtain ⟨rfl,rfl,rfl,rfl,⟨rfl,rfl,rfl⟩,rfl,rfl,rfl⟩:=he
 refine ⟨fun hlt => ?_,fun hge => ?_⟩
 ·have hlt:=of_decide_eq_true hlt
  have hr1:=h1.scb s1
  refine ⟨hr1.ix zf2 (by omega) hlt,_,hr1 i (by omega) hlt,fun b8 hb8=>⟨rfl,fun wr3 hx3 hs3 hcell => ?_⟩⟩
  have s2:=s1.put hx3 hb8
  have hO2:=hO.put hx3 hb8
  have hD2:=hD.put hx3 hb8
  obtain ⟨o2,c2,w2,hrun,hk2,hO3,hy2⟩:=hO2.app1 zgj zrr (x:=gi b.locals (i:Int)) hs3 s2.ext.size hcell (oneI _) (by rw [List.length_take]; omega) (by decide) zee #[false,false]
  rw [zro (by omega)] at hrun hO3
  have s3:=s2.call hy2 fun x hm=>(hO2.own.lt x hm).1
  have hD3:=hD2.call hy2 (hD2.own.ty_ne hO2.own (by decide))
  have hr2:=h2.scb s3
  refine ⟨_,_,_,w2,hrun,hk2,hr2.ix zqm (by omega) (by omega),_,hr2 i (by omega) (by omega),fun b9 hb9=>⟨rfl,fun wr4 hx4 hs4 hcell4 => ?_⟩⟩
  have s4:=s3.put hx4 hb9
  have hO4:=hO3.put hx4 hb9
  have hD4:=hD3.put hx4 hb9
  obtain ⟨o4,c4,w4,hrun4,hk4,hD5,hy4⟩:=hD4.app1 zh1 zyt (x:=gi b.dry (i:Int)) hs4 s4.ext.size hcell4 (oneB _) (by rw [List.length_take]; omega) (by decide) zgr #[false,false]
  rw [zro (by omega)] at hrun4 hD5
  have s5:=s4.call hy4 fun x hm=>(hD4.own.lt x hm).1
  have hO5:=hO4.call hy4 (hO4.own.ty_ne hD4.own (by decide))
  refine ⟨_,_,_,w4,hrun4,hk4,⟨by omega,by omega⟩,fun w5 hx5 _=>⟨⟨i+1,⟨o2,c2,o4,c4,none,0⟩,rfl,by omega,(s5.step hx5).sub (by simp),(hO5.step hx5).sub (by simp),(hD5.step hx5).sub (by simp)⟩,?_⟩⟩
  simp only [zd5,cntM,zef,List.getElem?_cons_zero]
  omega
 ·have hge:=of_decide_eq_false hge
  have e1:b.locals.take i=b.locals:=List.take_of_length_le (by omega)
  have e2:b.dry.take i=b.dry:=List.take_of_length_le (by omega)
  rw [e1] at hO ⊢
  rw [e2] at hD ⊢
  exact fun w2 hx2=>⟨p,rfl,⟨(hO.step hx2).own,(hD.step hx2).own⟩,(s1.step hx2).ext⟩
theorem z9y (l:List Bool) (k:Nat) (h:k<l.length):(List.replicate k false++l.drop k).set k false=List.replicate (k+1) false++l.drop (k+1):=by
 rw [List.set_append,if_neg (by simp),List.length_replicate,Nat.sub_self,List.drop_eq_getElem_cons h,List.set_cons_zero,List.replicate_succ',List.append_assoc,List.singleton_append]
theorem zte {base:Nat} (h:zdl base w b m) (hl:b.dry.length<=1048576) :
  Calls Tryz.prog zi9 #[.agg (zdj b m).toArray] w fun e w'=>e = .returned (.agg (zdj b m).toArray)/\zdl base w' { b with dry:=List.replicate b.dry.length false } m/\ExtX (zfc m) w w':=by
 refine (z5j b.quota b.pool b.spent m.lO b.locals.length m.lC m.dO b.dry.length m.dC (R:=fun v w'=>v = .agg (zdj b m).toArray/\zdl base w' { b with dry:=List.replicate b.dry.length false } m/\ExtX (zfc m) w w') ?_).mono fun e w' ⟨v,he,hv,h3⟩=>⟨by rw [he,hv],h3⟩
 intro x hx0 x5 hx5
 have hnb:∀y∈zfc m,y∉[x,x5]:=fun y hy hm=>by
  have:=(h.lt y hy).2
  simp only [List.mem_cons,List.not_mem_nil,or_false] at hm
  rcases hm with rfl | rfl <;> omega
 have hfr:∀y∈[x,x5],w.heap.size<=y:=fun y hm=>by
  simp only [List.mem_cons,List.not_mem_nil,or_false] at hm
  rcases hm with rfl | rfl <;> assumption
 refine zik b.dry.length 0 rfl (fun k w1=>k<=b.dry.length/\zdl base w1 { b with dry:=List.replicate k false++b.dry.drop k } m/\ExtX (zfc m) w w1) (fun w1 hx1 _=>⟨Nat.zero_le _,by simpa using h.ext0 hx1,hx1.of_nil⟩) fun k w1 hs ⟨hk,hO,hX⟩=>⟨fun hlt => ?_,fun hge => ?_⟩
 ·have hlt:=of_decide_eq_true hlt
  have hlen:(List.replicate k false++b.dry.drop k).length=b.dry.length:=by simp; omega
  have e1:=hO.stoD (c:=(k:Int)) (by omega) (by show (k:Int)<((List.replicate k false++b.dry.drop k).length:Int); rw [hlen]; exact hlt) false
  have e2:({ b with dry:=(List.replicate k false++b.dry.drop k).set k false }:Bnd)={ b with dry:=List.replicate (k+1) false++b.dry.drop (k+1) }:=by rw [z9y _ _ (by omega)]
  have hix:=hO.dry.ix (i:=(k:Int)) (by omega) (by show (k:Int)<((List.replicate k false++b.dry.drop k).length:Int); rw [hlen]; exact hlt)
  have hwr:=hO.dry.wr zh1.len (bs:=[x,x5]) (fun y hy=>hnb y (List.mem_append_right _ hy)) (i:=(k:Int)) (by omega) (by show (k:Int)<((List.replicate k false++b.dry.drop k).length:Int); rw [hlen]; exact hlt) (j:=0) (n:=1) (by decide)
  refine ⟨by rw [<-hlen]; exact hix,hwr,⟨by omega,by omega⟩,fun w2 hx2 _=>zan (by omega) ⟨by omega,?_,(hX.trans (hO.xD _ _)).fresh hx2 fun y hy=>.inl (hfr y hy)⟩⟩
  rw [Int.toNat_natCast] at e1
  have:=(e2▸e1:zdl base (sto w1 m.dO (k*1) [.bool false]) { b with dry:=List.replicate (k+1) false++b.dry.drop (k+1) } m)
  exact this.ext (by rw [Int.toNat_natCast] at hx2; exact hx2) hnb
 ·have hge:=of_decide_eq_false hge
  have hk2:k=b.dry.length:=by omega
  subst hk2
  rw [List.drop_length,List.append_nil] at hO
  exact fun w2 hx2=>⟨rfl,hO.ext hx2 hnb,hX.fresh hx2 fun y hy=>.inl (hfr y hy)⟩
theorem z3z {p:Int} (h:0<=p):0<=minI 20 p/\minI 20 p<=p:=by unfold minI; split <;> omega
theorem zjd {op:QOp} (hb:BndP b) (h1:RdI [] w m.lO b.locals) (h2:RdB [] w m.dO b.dry) :
  Calls Tryz.prog zez #[.agg (zdj b m).toArray,.agg (encO op).toArray] w fun e w'=>∃p,e = .returned (.tuple #[.agg (zdj (zdd b op).1 p).toArray,.int .i64 (zdd b op).2])/\zdl w.heap.size w' (zdd b op).1 p/\ExtX [] w w':=by
 refine (z21 b.quota b.pool b.spent m.lO b.locals.length m.lC m.dO b.dry.length m.dC op.kind op.at' op.n (R:=fun v w'=>∃p,v = .tuple #[.agg (zdj (zdd b op).1 p).toArray,.int .i64 (zdd b op).2]/\zdl w.heap.size w' (zdd b op).1 p/\ExtX [] w w') ?_).mono fun e w' ⟨v,he,p,hv,h3⟩=>⟨p,by rw [he,hv],h3⟩
 have hm9:=zcx
 have hl2:=hb.l2
 have hdl:=hb.dl
 have q1:=hb.q1
 have q2:=hb.q2
 have p1:=hb.p1
 have p2:=hb.p2
 have s1':=hb.s1
 have s2':=hb.s2
 intro x hx0 x5 hx5 x6 hx6
 have hok:=zqy (bs:=[]) h1 h2 (by omega)
 rw [zbp.2 hb] at hok
 refine ⟨true,hok,fun h=>by simp at h,fun _ wr1 hx1 hs1 => ?_⟩
 have t1:=((((Sc.start w).add hx0).add hx5).add hx6).call0 hx1
 refine (ztd (h1.ext hx1) (h2.ext hx1) hdl (by omega)).mono fun e wv ⟨p,he,hO,hy1⟩=>⟨_,_,_,_,_,_,_,_,_,he,zaz hy1 hs1,fun g4 => ?_,fun g4 => ?_⟩
 ·have g4:op.kind=4:=by simpa using g4
  have t2:=t1.call0 hy1
  have hbl:∀y∈[x,x5,x6],y<wr1.heap.size:=hs1
  refine fun wr2 hx2 hs2=>⟨_,_,_,_,z1h zgj zrr b.dry.length (by omega) (by omega) wr2,zaz (zcp _ _) hs2,fun wr3 hx3 hs3 => ?_⟩
  have hLo:=(zoa (enc:=encI) zgj.len zao b.dry.length (0:Int) wr2).ext hx3 fun y hy hm=>by
   have:y=wr2.heap.size:=by simpa [za9] using hy
   have:=hs2 y hm
   omega
  have hD3:Own encB 1 zdg wr1.heap.size wr3 p.dO p.dC b.dry:=((hO.extB hx2 hbl).ext0 (zcp wr2 _)).extB hx3 hbl |>.dry
  have hsz1:wr1.heap.size<=wr2.heap.size:=Nat.le_trans hy1.size hx2.size
  have hB3:zdl wr1.heap.size wr3 { b with locals:=List.replicate b.dry.length 0 } ⟨some ⟨wr2.heap.size,0,none⟩,b.dry.length,p.dO,p.dC,none,0⟩:=⟨hLo.mono hsz1,hD3⟩
  have t3:=((t2.step hx2).call0 (zcp wr2 (.cells ((List.replicate b.dry.length (0:Int)).flatMap encI).toArray zao))).step hx3
  have hw:=zte (b:=⟨b.quota,b.quota,0,List.replicate b.dry.length 0,b.dry⟩) (m:=⟨some ⟨wr2.heap.size,0,none⟩,b.dry.length,p.dO,p.dC,none,0⟩) (base:=wr1.heap.size) ⟨hB3.loc,hB3.dry⟩ (by show b.dry.length<=_; omega)
  simp only [zdj,List.length_replicate] at hw
  refine Calls.mono hw fun e w4 ⟨he4,hO4,hy4⟩=>⟨_,_,_,_,_,_,_,_,_,he4,fun y hm=>hy4.block y (hs3 y hm) fun hm' => ?_,fun wr4 hx4=>⟨⟨some ⟨wr2.heap.size,0,none⟩,b.dry.length,p.dO,p.dC,none,0⟩,?_,?_,?_⟩⟩
  ·have:=(hB3.lt y hm').1
   have:=hs1 y hm
   omega
  ·have:zdd b op=(z5o b,0):=by unfold zdd; rw [if_pos g4]
   rw [this]; simp [zdj,z5o]
  ·have:zdd b op=(z5o b,0):=by unfold zdd; rw [if_pos g4]
   rw [this]
   exact (zdl.mono ⟨hO4.loc,hO4.dry⟩ hx1.size).ext hx4 fun y hy hm=>by
    have:=(hB3.lt y hy).1
    have:=hs1 y hm
    omega
  ·exact ((t3.call hy4 fun y hy=>Nat.le_trans hx1.size (hB3.lt y hy).1).step hx4).ext
 ·have g4:¬op.kind=4:=by simpa using g4
  have t2:=t1.call0 hy1
  have hbl:∀y∈zfc p,y∉[x,x5,x6]:=fun y hy hm=>by
   have:=(hO.lt y hy).1
   have:=hs1 y hm
   omega
  have hO0:zdl w.heap.size wv b p:=hO.mono hx1.size
  have fin:∀{b':Bnd} {c:Int} {w1 w2:World},zdd b op=(b',c)->zdl w.heap.size w1 b' p->ExtX (zfc p) wv w1->ExtX [x,x5,x6] w1 w2->zdl w.heap.size w2 (zdd b op).1 p/\ExtX [] w w2:=fun e hB hX hx=>by
   rw [e]
   exact ⟨hB.ext hx hbl,((t2.call hX fun y hy=>(hO0.lt y hy).1).step hx).ext⟩
  have hr1:RdI [x,x5,x6] wv p.lO b.locals:=hO.loc.rd zgj.len fun y hy=>hbl y (List.mem_append_left _ hy)
  refine ⟨⟨by omega,by omega⟩,_,za1,fun g5 wr hx=>⟨p,?_,fin (b':=b) (c:=1) ?_ hO0 (ExtX.refl _ _) hx⟩,fun g5 => ?_⟩
  ·have:zdd b op=(b,1):=by unfold zdd; rw [if_neg g4,if_pos (by simpa using g5)]
   rw [this]; rfl
  ·unfold zdd; rw [if_neg g4,if_pos (by simpa using g5)]
  have g5':inB op.at' 0 ((b.locals.length:Int) - 1)=true:=by simpa using g5
  have hbd:zdd b op=if op.kind=1 then zdc b op.at' else if op.kind=2 then zfn b op.at' op.n else if op.kind=3 then (ze1 b op.at',0) else (b,1):=by
   unfold zdd; rw [if_neg g4,if_neg (by rw [g5']; decide)]
  obtain ⟨c0,c1⟩:=za6.1 g5'
  have c1:op.at'<(b.locals.length:Int):=by omega
  have he':=hb.each _ c0 c1
  have hix:=hr1.ix zf2 c0 c1
  have hwL:WrX [x,x5,x6] wv p.lO (Int.toNat op.at'*1) 1:=hO.loc.wr zgj.len (fun y hy=>hbl y (List.mem_append_left _ hy)) c0 c1 (j:=0) (by decide)
  refine ⟨fun g6 => ?_,fun g6 => ?_⟩
  ·have g6:op.kind=1:=by simpa using g6
   rw [if_pos g6] at hbd
   refine ⟨hix,_,hr1 _ c0 c1,fun g7 wr hx=>⟨p,?_,fin (b':=b) (c:=0) ?_ hO0 (ExtX.refl _ _) hx⟩,fun g7 => ?_⟩
   ·rw [hbd]; unfold zdc; rw [if_pos (of_decide_eq_true g7)]; rfl
   ·rw [hbd]; unfold zdc; rw [if_pos (of_decide_eq_true g7)]
   have g7:=of_decide_eq_false g7
   have ht:zdc b op.at'=(⟨b.quota,b.pool - minI 20 b.pool,b.spent,b.locals.set op.at'.toNat (minI 20 b.pool),b.dry.set op.at'.toNat (minI 20 b.pool==0)⟩,if minI 20 b.pool=0 then 2 else 0):=by unfold zdc; rw [if_neg g7]
   rw [ht] at hbd
   have hm:=z3z p1
   have e1:=hO0.stoL c0 c1 (minI 20 b.pool)
   have e2:=e1.stoD (c:=op.at') c0 (by show op.at'<(b.dry.length:Int); omega) (minI 20 b.pool==0)
   have hX:=(hO0.xL (Int.toNat op.at'*1) [.int .i64 (minI 20 b.pool)]).trans (e1.xD (Int.toNat op.at'*1) [.bool (minI 20 b.pool==0)])
   refine ⟨_,zne,⟨by omega,by omega⟩,hix,hwL,e1.dry.ix c0 (by show op.at'<(b.dry.length:Int); omega),e1.dry.wr zh1.len (fun y hy=>hbl y (List.mem_append_right _ hy)) c0 (by show op.at'<(b.dry.length:Int); omega) (j:=0) (by decide),fun g8 wr hx=>⟨p,?_,fin hbd ⟨e2.loc,e2.dry⟩ hX hx⟩,fun g8 wr hx=>⟨p,?_,fin hbd ⟨e2.loc,e2.dry⟩ hX hx⟩⟩
   ·rw [hbd,if_pos (by simpa using g8)]; simp [zdj]
   ·rw [hbd,if_neg (by simpa using g8)]; simp [zdj]
  ·have g6:¬op.kind=1:=by simpa using g6
   rw [if_neg g6] at hbd
   refine ⟨fun g7 => ?_,fun g7 => ?_⟩
   ·have g7:op.kind=2:=by simpa using g7
    rw [if_pos g7] at hbd
    refine ⟨fun _=>hix,_,fun _=>hr1 _ c0 c1,fun g8 wr hx=>⟨p,?_,fin (b':=b) (c:=3) ?_ hO0 (ExtX.refl _ _) hx⟩,fun g8 => ?_⟩
    ·rw [hbd]; unfold zfn; rw [if_pos (by simpa using g8)]; rfl
    ·rw [hbd]; unfold zfn; rw [if_pos (by simpa using g8)]
    have g8':¬(op.n<1\/op.n>gi b.locals op.at'):=by simpa using g8
    have ht:zfn b op.at' op.n=({ b with spent:=b.spent+op.n,locals:=b.locals.set op.at'.toNat (gi b.locals op.at' - op.n) },0):=by unfold zfn; rw [if_neg g8']
    rw [ht] at hbd
    have e1:=hO0.stoL c0 c1 (gi b.locals op.at' - op.n)
    refine ⟨hix,_,hr1 _ c0 c1,⟨by omega,by omega⟩,hix,hwL,⟨by omega,by omega⟩,fun wr hx=>⟨p,?_,fin hbd ⟨e1.loc,e1.dry⟩ (hO0.xL _ _) hx⟩⟩
    rw [hbd]; simp [zdj]
   ·have g7:¬op.kind=2:=by simpa using g7
    rw [if_neg g7] at hbd
    refine ⟨fun g8 => ?_,fun g8 wr hx=>⟨p,?_,fin (b':=b) (c:=1) ?_ hO0 (ExtX.refl _ _) hx⟩⟩
    ·have g8:op.kind=3:=by simpa using g8
     rw [if_pos g8] at hbd
     have e1:=hO0.stoL c0 c1 0
     refine ⟨hix,_,hr1 _ c0 c1,⟨by omega,by omega⟩,hix,hwL,fun g9 wr hx hs => ?_,fun g9 wr hx=>⟨p,?_,fin hbd ?_ (hO0.xL _ _) hx⟩⟩
     ·have g9:=of_decide_eq_true g9
      have e2:zdl w.heap.size wr ⟨b.quota,b.pool+gi b.locals op.at',b.spent,b.locals.set op.at'.toNat 0,b.dry⟩ p:=zdl.ext ⟨e1.loc,e1.dry⟩ hx hbl
      have hw:=zte e2 (by show b.dry.length<=_; omega)
      simp only [zdj,List.length_set] at hw
      refine Calls.mono hw fun e w4 ⟨he4,hO4,hy4⟩=>⟨_,_,_,_,_,_,_,_,_,he4,fun y hm=>hy4.block y (hs y hm) fun hm'=>hbl y hm' hm,fun wr4 hx4=>⟨p,?_,?_,?_⟩⟩
      ·rw [hbd]; simp [zdj,ze1,if_pos g9]
      ·rw [hbd]
       have:ze1 b op.at'=⟨b.quota,b.pool+gi b.locals op.at',b.spent,b.locals.set op.at'.toNat 0,List.replicate b.dry.length false⟩:=by unfold ze1; rw [if_pos g9]
       rw [this]
       exact zdl.ext ⟨hO4.loc,hO4.dry⟩ hx4 hbl
      ·exact ((((t2.call (hO0.xL _ _) fun y hy=>(hO0.lt y hy).1).step hx).call hy4 fun y hy=>(hO0.lt y hy).1).step hx4).ext
     ·have g9:=of_decide_eq_false g9
      rw [hbd]; simp [zdj,ze1,if_neg g9]
     ·have g9:=of_decide_eq_false g9
      have:ze1 b op.at'=⟨b.quota,b.pool+gi b.locals op.at',b.spent,b.locals.set op.at'.toNat 0,b.dry⟩:=by unfold ze1; rw [if_neg g9]
      rw [this]
      exact ⟨e1.loc,e1.dry⟩
    ·rw [hbd,if_neg (by simpa using g8)]; rfl
    ·rw [hbd,if_neg (by simpa using g8)]
end
section
variable {base:Nat} {W:Wld} {m:MW} {w:World}
theorem zl9 {w:World} {x x1:Nat} (h:w.heap.size<=x) (h1:w.heap.size<=x1):∀y∈[x,x1],w.heap.size<=y:=fun y hm=>by
 simp only [List.mem_cons,List.not_mem_nil,or_false] at hm
 rcases hm with rfl | rfl <;> assumption
theorem Mv.two {n:Nat} (h:MWd n base w W m) {x x1:Nat} (hx:w.heap.size<=x) (hx1:w.heap.size<=x1):Mv n base [x,x1] w m w W m:=((Mv.start h).add hx).add hx1
theorem subC {n:Nat} {m:MW} {w:World} {k:Nat} {vs:List Value}:ExtX (zbc n m) w (sto w m.cO k vs):=zj8 fun a ha=>z56 (by rw [ha]; simp [za9])
theorem subT {n:Nat} {m:MW} {w:World} {k:Nat} {vs:List Value}:ExtX (zbc n m) w (sto w m.tO k vs):=zj8 fun a ha=>z58 (by rw [ha]; simp [za9])
theorem subG {n:Nat} {m:MW} {w:World} {k:Nat} {vs:List Value}:ExtX (zbc n m) w (sto w m.gO k vs):=zj8 fun a ha=>z57 (by rw [ha]; simp [za9])
theorem subS {n:Nat} {m:MW} {w:World} {i k:Nat} {vs:List Value} (hi:i<n):ExtX (zbc n m) w (sto w (m.ms i).sO k vs):=zj8 fun a ha=>zi7 hi (by simp [zam,za9,ha])
theorem subL {n:Nat} {m:MW} {w:World} {i k:Nat} {vs:List Value} (hi:i<n):ExtX (zbc n m) w (sto w (m.ms i).lO k vs):=zj8 fun a ha=>zi7 hi (by simp [zam,za9,ha])
theorem subD {n:Nat} {m:MW} {w:World} {i k:Nat} {vs:List Value} (hi:i<n):ExtX (zbc n m) w (sto w (m.ms i).dO k vs):=zj8 fun a ha=>zi7 hi (by simp [zam,za9,ha])
theorem wrC {n:Nat} {bs:List Nat} (h:MWd n base w W m) (hd:∀x∈zbc n m,x∉bs) {i:Int} (h0:0<=i) (h1:i<(W.cpus.length:Int)) {j k:Nat} (hj:j+k<=5):WrX bs w m.cO (Int.toNat i*5+j) k:=h.c.wr zsd.len (fun b hb=>hd b (z56 hb)) h0 h1 hj
theorem wrT {n:Nat} {bs:List Nat} (h:MWd n base w W m) (hd:∀x∈zbc n m,x∉bs) {i:Int} (h0:0<=i) (h1:i<(W.tasks.length:Int)) {j k:Nat} (hj:j+k<=9):WrX bs w m.tO (Int.toNat i*9+j) k:=h.t.wr zlr.len (fun b hb=>hd b (z58 hb)) h0 h1 hj
theorem wrG {n:Nat} {bs:List Nat} (h:MWd n base w W m) (hd:∀x∈zbc n m,x∉bs) {i:Int} (h0:0<=i) (h1:i<(n:Int)) {j k:Nat} (hj:j+k<=14):WrX bs w m.gO (Int.toNat i*14+j) k:=h.g.row.wr zc1.len (fun b hb=>hd b (z57 hb)) h0 (by rw [zhg,h.len]; exact h1) hj
theorem wrS {n:Nat} {bs:List Nat} (h:MWd n base w W m) (hd:∀x∈zbc n m,x∉bs) {i c:Int} (h0:0<=i) (h1:i<(n:Int)) (c0:0<=c) (c1:c<((gi W.groups i).shelves.length:Int)) {j k:Nat} (hj:j+k<=5):WrX bs w (m.ms i.toNat).sO (Int.toNat c*5+j) k:=
 (h.each h0 h1).shl.wr zld.len (fun b hb=>hd b (zi7 (k:=i.toNat) (by omega) (by simp [zam]; exact .inr (.inr hb)))) c0 c1 hj
theorem wrL {n:Nat} {bs:List Nat} (h:MWd n base w W m) (hd:∀x∈zbc n m,x∉bs) {i c:Int} (h0:0<=i) (h1:i<(n:Int)) (c0:0<=c) (c1:c<((gi W.groups i).band.locals.length:Int)) {j k:Nat} (hj:j+k<=1):WrX bs w (m.ms i.toNat).lO (Int.toNat c*1+j) k:=
 (h.each h0 h1).loc.wr zgj.len (fun b hb=>hd b (zi7 (k:=i.toNat) (by omega) (by simp [zam]; exact .inl hb))) c0 c1 hj
theorem wrD {n:Nat} {bs:List Nat} (h:MWd n base w W m) (hd:∀x∈zbc n m,x∉bs) {i c:Int} (h0:0<=i) (h1:i<(n:Int)) (c0:0<=c) (c1:c<((gi W.groups i).band.dry.length:Int)) {j k:Nat} (hj:j+k<=1):WrX bs w (m.ms i.toNat).dO (Int.toNat c*1+j) k:=
 (h.each h0 h1).dry.wr zh1.len (fun b hb=>hd b (zi7 (k:=i.toNat) (by omega) (by simp [zam]; exact .inr (.inl hb)))) c0 c1 hj
theorem zac4 {n:Nat} (h:MWd n base w W m) {c:Int} (c0:0<=c) (c1:c<(W.cpus.length:Int)) :
  (MWd n base (sto w m.cO (Int.toNat c*5+1) [.int .i64 (-1)]) { W with cpus:=W.cpus.set c.toNat { gi W.cpus c with cur := -1 } } m)/\
  MWd n base (sto (sto w m.cO (Int.toNat c*5+1) [.int .i64 (-1)]) m.cO (Int.toNat c*5+2) [.int .i64 0]) (endW W c) m:=by
 have e1:=h.stoC c0 c1 (j:=1) (vs:=[.int .i64 (-1)]) (x:={ gi W.cpus c with cur := -1 }) rfl (by decide)
 refine ⟨e1,?_⟩
 have hg:gi (W.cpus.set c.toNat { gi W.cpus c with cur := -1 }) c={ gi W.cpus c with cur := -1 }:=by rw [za4 _ _ c0 c1 c0,if_pos rfl]
 have e2:=e1.stoC c0 (by simpa using c1) (j:=2) (vs:=[.int .i64 0]) (x:=endC (gi W.cpus c)) (by rw [hg]; rfl) (by decide)
 rw [List.set_set] at e2
 exact e2
theorem zgo {n:Nat} (h:MWd n base w W m) {c:Int} (c0:0<=c) (c1:c<(W.cpus.length:Int)) :
  Calls Tryz.prog zdw #[.agg (encW W m).toArray,.int .i64 c] w fun e w'=>e = .returned (.agg (encW (endW W c) m).toArray)/\Mv n base [] w m w' (endW W c) m:=by
 refine (z5k W.now m.cO W.cpus.length m.cC m.tO W.tasks.length m.tC m.gO W.groups.length m.gC c (R:=fun v w'=>v = .agg (encW (endW W c) m).toArray/\Mv n base [] w m w' (endW W c) m) ?_).mono fun e w' ⟨v,he,hv,h3⟩=>⟨by rw [he,hv],h3⟩
 intro x hx x1 hx1
 obtain ⟨e1,e2⟩:=zac4 h c0 c1
 have hr:=h.rd (bs:=[]) (by simp)
 refine ⟨hr.c.ix zeg c0 c1,wrC h (by simp) c0 c1 (by decide),hr.c.ix zeg c0 c1,wrC e1 (by simp) c0 (by simpa using c1) (by decide),fun wr hx2=>⟨by simp [encW,endW,setCp],((Mv.start h).deed e2 (subC.trans subC)).call0 hx2⟩⟩
theorem zakf {W:Wld} {g c:Int} {s:Shf}:setSh W g c s={ W with groups:=W.groups.set g.toNat { gi W.groups g with shelves:=(gi W.groups g).shelves.set c.toNat s } }:=rfl
theorem zir {W W':Wld} {m:MW} (h:Fr W W'):encW W' m=encW W m:=by
 simp only [encW,h.n,h.c,h.t,h.g.len]
theorem z8s {gs:List Grp} (ht:zeb gs) {k:Int} (hu:zae gs k=true):znh (gs.length+1) gs k 0=dep 3 gs k:=by
 have hp:∀g:Int,g≠0->zae gs g=true->zae gs (gi gs g).parent=true:=fun g hz hu=>(zd4 ht hu hz).1
 have hd:0<=dep 3 gs k/\dep 3 gs k<=3:=by
  by_cases hz:k=0
  ·subst hz; rw [zcv]; omega
  ·obtain ⟨_,_,_,d,e,_,hd⟩:=zd4 ht hu hz
   omega
 have hm:=zqi gs 3 gs.length k hd.1 (by rw [ht.len]; omega)
 rw [zus hp _ _ _ hu,hm,if_neg (by omega)]
 omega
theorem z3w {F K:Int} {n:Nat} (hsw:SF F K W) (h:MWd n base w W m) (hk:F+lagB<=K) {k c:Int} (hu:zae W.groups k=true) (hn:n=8) (c0:0<=c) (c1:c<(W.cpus.length:Int)) (s:Shf) :
  MWd n base (sto w (m.ms k.toNat).sO (Int.toNat c*5) (encS s)) (setSh W k c s) m:=by
 obtain ⟨u0,u1,_⟩:=zac.1 hu
 have hl:=hsw.w.a.gl
 have hs:=hsw.w.a.sl hu
 exact h.stoS u0 (by omega) c0 (by omega) (j:=0) (vs:=encS s) (x:=s) (by simp [encS]) (by simp [encS])
set_option maxHeartbeats 1000000 in
theorem zo7 {F K:Int} (h:MWd 8 base w W m) (hsw:SF F K W) (hk:F+lagB<=K) (hK:K<=1000000000000000000) {c:Int} (c0:0<=c) (c1:c<(W.cpus.length:Int)) :
  Calls Tryz.prog zg8 #[.agg (encW W m).toArray,.int .i64 c] w fun e w'=>e = .returned (.agg (encW W m).toArray)/\Mv 8 base [] w m w' (zat W c) m:=by
 refine (zzp W.now m.cO W.cpus.length m.cC m.tO W.tasks.length m.tC m.gO W.groups.length m.gC c (R:=fun v w'=>v = .agg (encW W m).toArray/\Mv 8 base [] w m w' (zat W c) m) ?_).mono fun e w' ⟨v,he,hv,h3⟩=>⟨by rw [he,hv],h3⟩
 intro x hx x1 hx1
 have hgl:=hsw.w.a.gl
 refine ⟨fun vs w1=>∃(j:Nat),vs=[.int .i64 (3 - (j:Int))]/\j<=3/\Mv 8 base [x,x1] w m w1 (zdz W c j) m,
  fun vs _=>(zef 0 vs).toNat,fun wr hx0 _=>⟨0,rfl,by decide,(Mv.two h hx hx1).call0 hx0⟩,?_⟩
 rintro d wv hs ⟨j,he,j3,hM⟩
 obtain ⟨hS,hO⟩:=zq3 hsw hk c0 c1 j j3
 have hN:zdz W c (j+1)=zcd (zdz W c j) c (3 - (j:Int)) 8:=rfl
 have hE:j=3->zdz W c j=zat W c:=fun e=>by rw [e]; rfl
 generalize zdz W c j=W1 at hM hS hO hN hE
 simp only [List.cons.injEq,Value.int.injEq,true_and,and_true] at he
 refine ⟨fun hd => ?_,fun hd => ?_⟩
 ·have hd:=of_decide_eq_true hd
  have c1':c<(W1.cpus.length:Int):=by rw [hO.c]; exact c1
  refine zik W.groups.length 1 rfl (fun k w2=>1<=k/\k<=8/\Mv 8 base [x,x1] w m w2 (zcd W1 c d k) m) (fun w2 hx2 _=>⟨Nat.le_refl _,by decide,?_⟩) fun k w2 hs2 ⟨hk1,hk8,hM2⟩ => ?_
  ·have e:zcd W1 c d 1=W1:=zacm (by omega)
   rw [e]
   exact hM.step hx2
  obtain ⟨hS2,hO2⟩:=zut hS hk (c:=c) (d:=d) (by omega) c0 c1' k hk8
  have hf2:=hO.trans hO2
  have e0:encW (zcd W1 c d k) m=encW W m:=zir hf2.fr
  have hr:=hM2.rd
  have hgl2:(zcd W1 c d k).groups.length=W.groups.length:=hf2.g.len
  have hcl2:(zcd W1 c d k).cpus.length=W.cpus.length:=by rw [hf2.c]
  have hdef:zcd W1 c d (k+1)=if (gi (zcd W1 c d k).groups (k:Int)).used=true/\dep 3 (zcd W1 c d k).groups (k:Int)=d then setSh (zcd W1 c d k) (k:Int) c (zda (zcd W1 c d k) (k:Int) c) else zcd W1 c d k:=rfl
  have hN8:k=8->zdz W c (j+1)=zcd W1 c d k:=fun e=>by rw [hN,<-he,e]
  generalize zcd W1 c d k=W2 at hM2 hS2 hO2 hf2 e0 hr hgl2 hcl2 hdef hN8
  refine ⟨fun hlt => ?_,fun hge => ?_⟩
  ·have hlt:=of_decide_eq_true hlt
   have hlt2:(k:Int)<(W2.groups.length:Int):=by omega
   have hdp:=zk6 (g:=(k:Int)) (c:=m.gC) hr.g (by have:=zcx; omega)
   rw [hgl2] at hdp
   refine ⟨by have:=hr.g.ix (i:=(k:Int)) (by omega) hlt2; rwa [hgl2] at this,(gi W2.groups (k:Int)).used,hr.g.used (by omega) hlt2,_,fun _=>hdp,fun g => ?_,fun g => ?_⟩
   ·refine ⟨⟨by omega,by omega⟩,fun w3 hx3 _=>zan (by omega) ⟨by omega,by omega,?_⟩⟩
    rw [hdef,if_neg]
    ·exact hM2.step hx3
    ·rintro ⟨h1,h2⟩
     have hu:zae W2.groups (k:Int)=true:=zac.2 ⟨by omega,hlt2,h1⟩
     have:=z8s hS2.w.a.tree hu
     rw [hgl2] at this
     rw [this,h1,h2] at g
     simp at g
   ·simp only [Bool.or_eq_false_iff,Bool.not_eq_false',bne_eq_false_iff_eq] at g
    have hu:zae W2.groups (k:Int)=true:=zac.2 ⟨by omega,hlt2,g.1⟩
    have hdk:=z8s hS2.w.a.tree hu
    rw [hgl2,g.2] at hdk
    rw [if_pos ⟨g.1,hdk.symm⟩] at hdef
    have hsl:=hS2.w.a.sl hu
    have hz:(k:Int)≠0:=by omega
    have hp:=hS2.w.a.up hu hz
    obtain ⟨p0,p1,_⟩:=zac.1 hp
    have hpl:=hS2.w.a.sl hp
    have s1:=hS2.w.s _ c hu c0 (by omega)
    have s2:=hS2.w.s _ c hp c0 (by omega)
    have lc:=zeh ((shf W2 (k:Int) c).v - (shf W2 (gi W2.groups (k:Int)).parent c).floor) (shf W2 (k:Int) c).w
    have lm:=zc8 (shf W2 (k:Int) c).w
    have hix:Ix m.gO W.groups.length (k:Int):=by have:=hr.g.ix (i:=(k:Int)) (by omega) hlt2; rwa [hgl2] at this
    have hixS:=(hr.g.shelves (k:Int) (by omega) hlt2).ix ze4 c0 (by omega)
    have hact:=zj3 (g:=(k:Int)) hr hS2.w.a c0 (by omega)
    have hdry:=ztf (g:=(k:Int)) hr hS2.w.a hu c0 (by omega)
    rw [e0] at hact hdry
    have hset:=fun s=>z3w hS2 hM2.own hk hu rfl c0 (c:=c) (by omega) s
    have hsub:∀{vs:List Value},ExtX (zbc 8 m) w2 (sto w2 (m.ms k).sO (Int.toNat c*5) vs):=fun {vs}=>subS (by omega)
    have hwr:=wrS hM2.own hM2.nb (i:=(k:Int)) (by omega) (by omega) c0 (by omega) (j:=0) (k:=5) (by decide)
    simp only [Int.toNat_natCast] at hset hwr hixS
    refine ⟨hix,_,_,_,hr.g.shelf (by omega) hlt2,hixS,_,_,_,_,_,(hr.g.shelves (k:Int) (by omega) hlt2) c c0 (by omega),fun b2 hb2=>⟨za5 W2 (k:Int) c,hact,dryD W2 (k:Int) c,fun _=>hdry,fun g2 => ?_,fun g2 => ?_⟩⟩
    ·have hss:zda W2 (k:Int) c=⟨(shf W2 (k:Int) c).floor,za5 W2 (k:Int) c && !dryD W2 (k:Int) c,(shf W2 (gi W2.groups (k:Int)).parent c).floor+zd6 ((shf W2 (k:Int) c).v - (shf W2 (gi W2.groups (k:Int)).parent c).floor) (shf W2 (k:Int) c).w,(shf W2 (k:Int) c).w,(shf W2 (k:Int) c).sum⟩:=by
      unfold zda
      rw [if_pos]
      simpa [shf] using g2
     have hset:=hset (zda W2 (k:Int) c)
     rw [hss] at hset
     have hpix:Ix m.gO W.groups.length (gi W2.groups (k:Int)).parent:=by have:=hr.g.ix p0 p1; rwa [hgl2] at this
     refine ⟨hix,_,hr.g.parent (by omega) hlt2,hpix,_,_,_,hr.g.shelf p0 p1,(hr.g.shelves _ p0 p1).ix ze4 c0 (by omega),_,RdS.f (hr.g.shelves _ p0 p1) c0 (by omega) (j:=0) rfl,⟨by show _<=(shf W2 (k:Int) c).v - (shf W2 (gi W2.groups (k:Int)).parent c).floor; omega,by show (shf W2 (k:Int) c).v - (shf W2 (gi W2.groups (k:Int)).parent c).floor<=_; omega⟩,_,zqz,⟨?_,?_⟩,hix,_,_,_,hr.g.shelf (by omega) hlt2,hixS,hwr,⟨by omega,by omega⟩,fun w3 hx3 _=>zan (by omega) ⟨by omega,by omega,?_⟩⟩
     ·show -9223372036854775808<=(shf W2 (gi W2.groups (k:Int)).parent c).floor+zd6 ((shf W2 (k:Int) c).v - (shf W2 (gi W2.groups (k:Int)).parent c).floor) (shf W2 (k:Int) c).w
      omega
     ·show (shf W2 (gi W2.groups (k:Int)).parent c).floor+zd6 ((shf W2 (k:Int) c).v - (shf W2 (gi W2.groups (k:Int)).parent c).floor) (shf W2 (k:Int) c).w<=9223372036854775807
      omega
     ·rw [hdef,hss]
      exact (hM2.deed hset hsub).step hx3
    ·have hss:zda W2 (k:Int) c=⟨(shf W2 (k:Int) c).floor,za5 W2 (k:Int) c && !dryD W2 (k:Int) c,(shf W2 (k:Int) c).v,(shf W2 (k:Int) c).w,(shf W2 (k:Int) c).sum⟩:=by
      unfold zda
      rw [if_neg]
      intro h1
      rw [h1.1,show (gi (gi W2.groups (k:Int)).shelves c).on=false from h1.2] at g2
      cases g2
     have hset:=hset (zda W2 (k:Int) c)
     rw [hss] at hset
     refine ⟨hix,_,_,_,hr.g.shelf (by omega) hlt2,hixS,hwr,⟨by omega,by omega⟩,fun w3 hx3 _=>zan (by omega) ⟨by omega,by omega,?_⟩⟩
     rw [hdef,hss]
     exact (hM2.deed hset hsub).step hx3
  ·have hge:=of_decide_eq_false hge
   have hN8:=hN8 (by omega)
   refine ⟨⟨by omega,by omega⟩,fun w3 hx3 _=>⟨⟨j+1,?_,by omega,?_⟩,?_⟩⟩
   ·rw [show d - 1=3 - ((j+1:Nat):Int) by omega]
   ·rw [hN8]
    exact hM2.step hx3
   ·show (d - 1).toNat<d.toNat
    omega
 ·have hd:=of_decide_eq_false hd
  rw [<-hE (by omega)]
  exact fun w2 hx2=>⟨rfl,(hM.step hx2).close⟩
end
end Go.Proofs.YtclpmgfpjeaibaaGreatDoor
