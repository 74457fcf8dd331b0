/- Part 12 of what the law FnYield needs: the engine, the functions' propositions, the contracts. -/
import Derived.Test.YtnclplgaicdapaaGreatDoorFnYieldPk
namespace Go.Proofs.YtnclplgaicdapaaGreatDoor
open Go.RowKit
set_option linter.unusedVariables false
set_option linter.unusedSimpArgs false
set_option maxRecDepth 10000
set_option maxHeartbeats 8000000
structure zqp (W:Q7):Prop where
 n1:0<=W.now
 n2:W.now<=100000000000000000
 c1:1<=W.cpus.length
 c2:W.cpus.length<=4
 t:W.tasks.length=12
 tree:ZU W.groups
 ups:J2 W.cpus≠0
structure zu7 (W:Q7) (g:ZA):Prop where
 none:g.band.quota=0->T7 g.band=true/\g.period=0/\g.next=0
 band:g.band.quota≠0->Vz g.band/\g.band.locals.length=W.cpus.length/\1<=g.period/\g.period<=1000/\W.now<g.next/\g.next-W.now<=g.period
structure zu5 (W:Q7) (g:ZA):Prop where
 w1:1<=g.weight
 w2:g.weight<=20
 m:O9 g.cpus=true
 m0:g.cpus≠0
 s:Zz g.sum=true
 len:g.shelves.length=W.cpus.length
 q:zu7 W g
def zqs(W:Q7)(k:Int):Prop:=((gi W.groups k).used=false->zne (gi W.groups k))/\((gi W.groups k).used=true->zu5 W (gi W.groups k))
theorem Hu{W:Q7}{k:Int}:Pl W k↔zqs W k/\((gi W.groups k).used=true->k=0->(gi W.groups k).weight=10/\(gi W.groups k).cpus=15/\(gi W.groups k).band.quota=0):=by
 constructor
 ·intro p;exact⟨⟨p.1,fun hu=>by have q:=p.2 hu; exact⟨q.w1,q.w2,q.m,q.m0,q.s,q.len,⟨q.none,q.band⟩⟩⟩,fun hu=>(p.2 hu).root⟩
 ·rintro⟨p,r⟩;exact⟨p.1,fun hu=>by have q:=p.2 hu; exact⟨q.w1,q.w2,q.m,q.m0,q.s,q.len,r hu,q.q.none,q.q.band⟩⟩
section
variable {W:Q7}{m:MW}{w:Wo}{bs:List Nat}{p:OA}
theorem A8{k:Int}(h:PD bs w p W m)(n1:0<=W.now)(n2:W.now<=100000000000000000)(k0:0<=k)(k1:k<(W.groups.length:Int))(hf:zcs (gi W.groups k)) :
  PX bs X6 #[.pointer p,.agg (Yc (gi W.groups k) (m.ms k.toNat)).toArray] w (.bool (Jr (zu7 W (gi W.groups k)))):=
 KA p (gi W.groups k).used (gi W.groups k).parent (gi W.groups k).name (gi W.groups k).weight (gi W.groups k).cpus (gi W.groups k).period (gi W.groups k).next (gi W.groups k).sum (gi W.groups k).band.quota (gi W.groups k).band.pool (gi W.groups k).band.spent (m.ms k.toNat).lO (gi W.groups k).band.locals.length (m.ms k.toNat).lC (m.ms k.toNat).dO (gi W.groups k).band.dry.length (m.ms k.toNat).dC (m.ms k.toNat).sO (gi W.groups k).shelves.length (m.ms k.toNat).sC fun wr hx=>by
  have h:=(h.ext hx).less (cs:=[]) (by simp)
  have hp:((Jr (Vz (gi W.groups k).band)&&(((gi W.groups k).band.locals.length:Nat):Int)==((W.cpus.length:Nat):Int))&&Yo (gi W.groups k).period 1 1000)=true->1<=(gi W.groups k).period/\(gi W.groups k).period<=1000:=fun q=>by
   simp only[Bool.and_eq_true] at q;exact Qo.1 q.2
  refine fun _ _=>⟨_,MD (b:=(gi W.groups k).band) (m:=m.ms k.toNat),fun g=>O0 ?_,fun g=>⟨_,k9 (b:=(gi W.groups k).band) (m:=m.ms k.toNat) (h.rd.g.locals k k0 k1) (h.rd.g.dry k k0 k1) hf.lo,fun _=>h.some,_,_,_,fun _=>h.cpus,_,fun _=>QH,fun _=>h.some,_,fun _=>h.now,fun _=>⟨by omega,by omega⟩,fun _=>h.some,_,fun _=>h.now,fun q=>⟨by have:=hp q; omega,by have:=hp q; omega⟩,_,fun _=>QH,O0 ?_⟩⟩
  ·have q0:=(At g).1;simp only[Bool.and_eq_true,beq_iff_eq];exact⟨fun e=>⟨fun _=>⟨g,e.1,e.2⟩,fun hne=>absurd q0 hne⟩,fun q=>(q.none q0).2⟩
  ·simp only[Bool.and_eq_true,beq_iff_eq,Qh,Qo];constructor
   ·rintro⟨⟨⟨e1,e2⟩,e3⟩,e4⟩;have:=e1.q1;exact⟨fun hz=>by omega,fun _=>⟨e1,by omega,e3.1,e3.2,by omega,by omega⟩⟩
   ·intro q
    have hq:(gi W.groups k).band.quota≠0:=fun e=>by
     have:=(q.none e).1;rw[this] at g; cases g
    have r:=q.band hq;exact⟨⟨⟨r.1,by have:=r.2.1; omega⟩,r.2.2.1,r.2.2.2.1⟩,by have:=r.2.2.2.2.1; omega,by have:=r.2.2.2.2.2; omega⟩
theorem B2(h:PD bs w p W m)(hs:zqp W)(hf:∀i:Int,0<=i->i<(W.groups.length:Int)->zcs (gi W.groups i)):PX bs YN #[.pointer p] w (.bool (Jr (∀k:Int,0<=k->k<8->Pl W k))):=
 MX p fun wr hx=>by
  have h:=(h.ext hx).less (cs:=[]) (by simp);have hgl:=hs.tree.len;refine⟨h.some,_,_,_,h.groups,?_⟩;refine YE W.groups.length 0 rfl (fun k=>k<=W.groups.length/\∀j:Int,0<=j->j<(k:Int)->zqs W j) ⟨Nat.zero_le _,fun j h0 h1=>by omega⟩ fun k ⟨hk,hI⟩=>⟨fun hlt=>?_,fun hge=>?_⟩
  ·have hlt:=Ot hlt;have k0:(0:Int)<=(k:Int):=by omega
   have nxt:zqs W (k:Int)->∀j:Int,0<=j->j<((k+1:Nat):Int)->zqs W j:=fun hq j h0 h1=>by
    by_cases hjk:j<(k:Int)
    ·exact hI j h0 hjk
    ·have:j=(k:Int):=by omega
     subst this; exact hq
   refine⟨h.rd.g.ix k0 hlt,_,_,_,_,_,_,_,_,_,_,_,_,_,_,_,_,_,_,_,_,h.rd.g.cells k k0 hlt,fun _ _=>⟨fun g=>?_,fun g=>?_⟩⟩
   ·have hu:(gi W.groups (k:Int)).used=false:=by simpa using g
    refine⟨_,DW (g:=gi W.groups (k:Int)) (m:=m.ms (k:Int).toNat) hu,fun g2=>MU fun pp=>?_,fun g2=>⟨⟨by omega,by omega⟩,Qr (by omega) ⟨by omega,nxt ⟨fun _=>Qh.1 (by simpa using g2),fun hu'=>by rw[hu'] at hu; cases hu⟩⟩⟩⟩;have g2:Jr (zne (gi W.groups (k:Int)))=false:=by simpa using g2
    exact G6.1 g2 ((Hu.1 (pp (k:Int) k0 (by omega))).1.1 hu)
   ·have hu:(gi W.groups (k:Int)).used=true:=by simpa using g
    have bad:¬zu5 W (gi W.groups (k:Int))->¬∀k:Int,0<=k->k<8->Pl W k:=fun hn pp=>hn ((Hu.1 (pp (k:Int) k0 (by omega))).1.2 hu)
    refine⟨_,TT,_,fun _=>ME,fun g2 b1 hb1=>⟨Zz (gi W.groups (k:Int)).sum,fun _ wx hxw hcx=>zwe hcx,fun _=>h.some,_,_,_,fun _=>h.cpus,_,fun _=>A8 h hs.n1 hs.n2 k0 hlt (hf _ k0 hlt),fun g3=>MU (bad fun q=>?_),fun g3=>⟨⟨by omega,by omega⟩,Qr (by omega) ⟨by omega,nxt ⟨fun hu'=>(by rw[hu'] at hu; cases hu),fun _=>?_⟩⟩⟩⟩,fun g2=>⟨fun e=>(by cases e),none,0,0,fun e=>(by cases e),false,fun e=>(by simp at e),fun g3=>MU (bad fun q=>g2 ?_),fun g3=>(by simp at g3)⟩⟩
    ·have e1:Yo (gi W.groups (k:Int)).weight 1 20=true:=Qo.2 ⟨q.w1,q.w2⟩;have e2:((gi W.groups (k:Int)).cpus != 0)=true:=by simpa using q.m0
     have e5:(((gi W.groups (k:Int)).shelves.length:Nat):Int)=((W.cpus.length:Nat):Int):=by have:=q.len; omega
     rw[e1,e2,q.m,q.s,e5,Qh.2 q.q] at g3;simp at g3
    ·simp only[Bool.or_eq_false_iff,Bool.not_eq_false',bne_eq_false_iff_eq,Qo,Bool.and_eq_true,bne_iff_ne,Qh] at g3;obtain⟨⟨⟨⟨a1,a2⟩,a3⟩,a4⟩,a5⟩:=g3;exact⟨a1.1,a1.2,a2.2,a2.1,a3,by omega,a5⟩
    ·have e1:Yo (gi W.groups (k:Int)).weight 1 20=true:=Qo.2 ⟨q.w1,q.w2⟩;have e2:((gi W.groups (k:Int)).cpus != 0)=true:=by simpa using q.m0
     rw[e1,e2,q.m]; rfl
  ·have hge:=Ou hge;have h0:(0:Int)<(W.groups.length:Int):=by omega
   refine⟨h.some,_,_,_,h.groups,h.rd.g.ix (by decide) h0,_,_,_,_,_,_,_,_,_,_,_,_,_,_,_,_,_,_,_,_,h.rd.g.cells 0 (by decide) h0,fun _ _=>O0 ?_⟩;simp only[Bool.and_eq_true,beq_iff_eq];constructor
   ·rintro⟨⟨e1,e2⟩,e3⟩ j j0 j1;exact Hu.2 ⟨hI j j0 (by omega),fun _ hj=>by subst hj; exact⟨e1,e2,e3⟩⟩
   ·intro pp;have r:=(Hu.1 (pp 0 (by decide) (by decide))).2 hs.tree.ru rfl;exact⟨⟨r.1,r.2.1⟩,r.2.2⟩
theorem zqp.wa(hs:zqp W)(hg:∀k:Int,0<=k->k<8->Pl W k):WA W:=⟨hs.n1,hs.n2,hs.c1,hs.c2,hs.t,hs.tree,hs.ups,hg⟩
theorem zpg{n:Int}:Yo n (-10) 9=true↔Qe n≠0:=by
 unfold Qe
 cases h:Yo n (-10) 9 with
 | true=>
  have:=Qo.1 h;simp; omega
 | false=>simp
def N0(W:Q7)(t:Int):Prop:=F5 W t/\((Q8 W t).state=1->Zz (Qc W (Q8 W t).group (Q8 W t).cpu).floor=true)
theorem Aa(h:PD bs w p W m)(ha:WA W)(lg:W.groups.length<=maxLen):PX bs X8 #[.pointer p] w (.bool (Jr (∀t:Int,0<=t->t<12->N0 W t))):=
 KC p fun wr hx=>by
  have h:=(h.ext hx).less (cs:=[]) (by simp);have hgl:=ha.gl;have htl:=ha.t;refine⟨h.some,_,_,_,h.tasks,?_⟩;refine YE W.tasks.length 0 rfl (fun k=>k<=W.tasks.length/\∀j:Int,0<=j->j<(k:Int)->N0 W j) ⟨Nat.zero_le _,fun j h0 h1=>by omega⟩ fun k ⟨hk,hI⟩=>⟨fun hlt=>?_,fun hge=>?_⟩
  ·have hlt:=Ot hlt;have k0:(0:Int)<=(k:Int):=by omega
   have nxt:N0 W (k:Int)->Qn .i64 ((k:Int)+1)/\zls (fun k=>k<=W.tasks.length/\∀j:Int,0<=j->j<(k:Int)->N0 W j) [.int .i64 ((k:Int)+1)]/\XK W.tasks.length 0 [.int .i64 ((k:Int)+1)]<XK W.tasks.length 0 [.int .i64 (k:Int)]:=fun hq=>⟨⟨by omega,by omega⟩,Qr (by omega) ⟨by omega,fun j h0 h1=>by
    by_cases hjk:j<(k:Int)
    ·exact hI j h0 hjk
    ·have:j=(k:Int):=by omega
     subst this; exact hq⟩⟩
   have bad:¬N0 W (k:Int)->¬∀t:Int,0<=t->t<12->N0 W t:=fun hn pp=>hn (pp (k:Int) k0 (by omega))
   refine⟨h.rd.t.ix QI k0 hlt,_,_,_,_,_,_,_,_,_,h.rd.t k k0 hlt,fun _ _=>⟨_,fun wq=>AZ DP (zdw (gi W.tasks (k:Int)) VK) _ _ wq,fun g=>?_,fun g=>?_⟩⟩
   ·rw[zez,decide_eq_true_eq] at g;have hz:Q8 W (k:Int)=VK:=g;exact nxt ⟨.inl ⟨by rw[hz]; rfl,hz⟩,fun e=>by rw[hz] at e; cases e⟩
   ·rw[zez,decide_eq_false_iff_not] at g;have hz:¬Q8 W (k:Int)=VK:=g
    have get:N0 W (k:Int)->zqu W (gi W.tasks (k:Int)):=fun q=>by
     rcases q.1 with ⟨_,e⟩ | ⟨_,q⟩
     ·exact absurd e hz
     ·exact q
    refine⟨fun _=>h.some,_,_,_,fun _=>h.groups,_,fun _=>PL (c:=m.gC) h.rd.g lg,_,fun _=>LG,_,fun _=>ME,fun g2=>MU (bad fun q=>?_),fun g2 b1 hb1=>?_⟩
    ·have q:=get q;have e3:Yo (gi W.tasks (k:Int)).nice (-10) 9=true:=zpg.2 q.n;have e4:((gi W.tasks (k:Int)).mask != 0)=true:=by simpa using q.m0
     rw[q.g,e3,q.m,e4] at g2;simp only[Bool.not_true,Bool.or_false,Bool.and_true,Bool.and_eq_true,bne_iff_ne] at g2;have:=q.st;omega
    ·simp only[Bool.or_eq_false_iff,Bool.not_eq_false',Bool.and_eq_true,bne_iff_ne] at g2;obtain⟨⟨⟨a1,a2⟩,a3⟩,a4⟩:=g2
     have st:(gi W.tasks (k:Int)).state=1\/(gi W.tasks (k:Int)).state=2:=by
      by_cases h1:(gi W.tasks (k:Int)).state=1
      ·exact .inl h1
      ·refine .inr ?_;have:((gi W.tasks (k:Int)).state != 1)=true:=by simpa using h1
       rw[this,Bool.true_and] at a1
       simpa using a1
     refine⟨_,fun wx hxw hcx=>zwm hcx,_,fun _=>z7,_,fun _=>A5 h ha.c2 ha.tree k0 hlt a2,_,fun _=>A4,fun g3=>MU (bad fun q=>?_),fun g3=>?_⟩
     ·have q:=get q;have e4:Yo (gi W.tasks (k:Int)).load 0 8000000=true:=Qo.2 ⟨q.l1,q.l2⟩;have e5:Z8 (Qs W (Q8 W (k:Int)).group (Q8 W (k:Int)).mask) (gi W.tasks (k:Int)).cpu=true:=q.c;rw[q.v,q.s,q.u,e4,e5] at g3;cases g3
     ·simp only[Bool.or_eq_false_iff,Bool.not_eq_false',Qo,Bool.and_eq_true] at g3;obtain⟨⟨b1',b2⟩,b3⟩:=g3;obtain⟨u1,u2,_⟩:=Q5.1 a2;obtain⟨c0,c1⟩:=Ka ha b3;have hsl:=ha.sl a2;have c2:(gi W.tasks (k:Int)).cpu<((gi W.groups (gi W.tasks (k:Int)).group).shelves.length:Int):=by omega
      have sh:=h.sh (g:=(gi W.tasks (k:Int)).group) u1 u2 c0 c2
      have mk:(((Q8 W (k:Int)).state=1->Zz (Qc W (Q8 W (k:Int)).group (Q8 W (k:Int)).cpu).floor=true/\PA (gi W.tasks (k:Int)).v (Qc W (gi W.tasks (k:Int)).group (gi W.tasks (k:Int)).cpu).floor (Qe (gi W.tasks (k:Int)).nice)=true))->N0 W (k:Int):=fun hf=>⟨.inr ⟨fun e=>by
        have e:(gi W.tasks (k:Int)).state=0:=e;omega,⟨st,a2,zpg.1 a3,a4.2,a4.1,b1'.1,b1'.2.1,b1'.2.2,b2.1,b2.2,b3,fun e=>(hf e).2⟩⟩,fun e=>(hf e).1⟩
      refine⟨_,_,P9,_,YO h u1 u2 c0 c2,sh.1,_,sh.2 (j:=0) rfl,fun _ b2 hb2=>⟨Zz (Qc W (gi W.tasks (k:Int)).group (gi W.tasks (k:Int)).cpu).floor,fun _ wx hxw hcx=>zwe hcx,_,fun _ _=>MC,_,fun g4 _=>Kk b1'.1 (by simpa using g4),fun g4=>MU (bad fun q=>?_),fun g4=>nxt (mk fun e=>?_)⟩,fun g4=>⟨fun e=>(by cases e),fun _=>nxt (mk fun e=>absurd (beq_iff_eq.2 e) g4)⟩⟩
      ·simp only[Bool.and_eq_true,beq_iff_eq,Bool.or_eq_true,Bool.not_eq_true'] at g4;have e1:=(get q).f g4.1;have e2:=q.2 g4.1;rcases g4.2 with g5 | g5
       ·have e2:Zz (Qc W (gi W.tasks (k:Int)).group (gi W.tasks (k:Int)).cpu).floor=true:=e2;rw[e2] at g5; cases g5
       ·rw[e1] at g5; cases g5
      ·have e':((gi W.tasks (k:Int)).state==1)=true:=beq_iff_eq.2 e;rw[e',Bool.true_and] at g4;simp only[Bool.or_eq_false_iff,Bool.not_eq_false'] at g4;exact g4
  ·have hge:=Ou hge;exact zhj fun t h0 h1=>hI t h0 (by omega)
theorem DX(h:PD bs w p W m)(ha:WA W)(hf:∀i:Int,0<=i->i<(W.groups.length:Int)->zcs (gi W.groups i)):PX bs YD #[.pointer p] w (.bool (Jr (∀k c:Int,0<=k->k<8->0<=c->c<((gi W.groups k).shelves.length:Int)->Pm W k c))):=
 Mm p fun wr hx=>by
  have h:=(h.ext hx).less (cs:=[]) (by simp);have hgl:=ha.gl;have hcl:=ha.c2
  let TS:=fun (k c:Int)=>Zz (Qc W k c).floor=true/\Zz (Qc W k c).v=true/\Zz (Qc W k c).sum=true/\1<=(Qc W k c).w/\(Qc W k c).w<=20
  have ts:(∀k c:Int,0<=k->k<8->0<=c->c<((gi W.groups k).shelves.length:Int)->Pm W k c)->∀k c:Int,0<=k->k<8->0<=c->c<((gi W.groups k).shelves.length:Int)->TS k c:=fun q k c h0 h1 h2 h3=>by
   have r:=q k c h0 h1 h2 h3;exact⟨r.f,r.v,r.s,r.w1,r.w2⟩
  refine⟨h.some,_,_,_,h.groups,?_⟩;refine YE W.groups.length 0 rfl (fun k=>k<=W.groups.length/\∀j c:Int,0<=j->j<(k:Int)->0<=c->c<((gi W.groups j).shelves.length:Int)->TS j c) ⟨Nat.zero_le _,fun j c h0 h1=>by omega⟩ fun k ⟨hk,hI⟩=>⟨fun hlt=>?_,fun hge=>?_⟩
  ·have hlt:=Ot hlt;have k0:(0:Int)<=(k:Int):=by omega
   have hsm:(gi W.groups (k:Int)).shelves.length<=maxLen:=(hf _ k0 hlt).sh;refine⟨h.rd.g.ix k0 hlt,_,_,_,_,_,_,_,_,_,_,_,_,_,_,_,_,_,_,_,_,h.rd.g.cells k k0 hlt,fun _ _=>?_⟩;refine YE (gi W.groups (k:Int)).shelves.length 0 rfl (fun c=>c<=(gi W.groups (k:Int)).shelves.length/\∀d:Int,0<=d->d<(c:Int)->TS (k:Int) d) ⟨Nat.zero_le _,fun j h0 h1=>by omega⟩ fun c ⟨hc,hJ⟩=>⟨fun hltc=>?_,fun hgec=>?_⟩
   ·have hltc:=Ot hltc;have c0:(0:Int)<=(c:Int):=by omega
    have rs:=h.rd.g.shelves (k:Int) k0 hlt;refine⟨rs.ix ZD c0 hltc,_,_,_,_,_,rs c c0 hltc,fun _ _ b2 hb2=>⟨_,fun wx hxw hcx=>zwm hcx,_,fun _=>TT,fun g=>MU fun q=>?_,fun g=>⟨zka hltc hsm,Qr (by omega) ⟨by omega,fun d h0 h1=>?_⟩⟩⟩⟩
    ·have r:=ts q (k:Int) (c:Int) k0 (by omega) c0 hltc;have e4:Yo (Qc W (k:Int) (c:Int)).w 1 20=true:=Qo.2 ⟨r.2.2.2.1,r.2.2.2.2⟩;have g':((!(Zz (Qc W (k:Int) (c:Int)).floor&&(Zz (Qc W (k:Int) (c:Int)).v&&Zz (Qc W (k:Int) (c:Int)).sum))) || !Yo (Qc W (k:Int) (c:Int)).w 1 20)=true:=g;rw[r.1,r.2.1,r.2.2.1,e4] at g'
     cases g'
    ·by_cases hjk:d<(c:Int)
     ·exact hJ d h0 hjk
     ·have:d=(c:Int):=by omega
      subst this;have g':((!(Zz (Qc W (k:Int) (c:Int)).floor&&(Zz (Qc W (k:Int) (c:Int)).v&&Zz (Qc W (k:Int) (c:Int)).sum))) || !Yo (Qc W (k:Int) (c:Int)).w 1 20)=false:=g;simp only[Bool.or_eq_false_iff,Bool.not_eq_false',Bool.and_eq_true,Qo] at g';exact⟨g'.1.1,g'.1.2.1,g'.1.2.2,g'.2.1,g'.2.2⟩
   ·have hgec:=Ou hgec;refine⟨⟨by omega,by omega⟩,Qr (by omega) ⟨by omega,fun j d h0 h1 h2 h3=>?_⟩⟩
    by_cases hjk:j<(k:Int)
    ·exact hI j d h0 hjk h2 h3
    ·have:j=(k:Int):=by omega
     subst this;exact hJ d h2 (by omega)
  have hge:=Ou hge;have hT:∀j c:Int,0<=j->j<8->0<=c->c<((gi W.groups j).shelves.length:Int)->TS j c:=fun j c h0 h1=>hI j c h0 (by omega)
  refine⟨h.some,_,_,_,h.cpus,?_⟩;refine YE W.cpus.length 0 rfl (fun c=>c<=W.cpus.length/\∀d k:Int,0<=d->d<(c:Int)->0<=k->k<8->d<((gi W.groups k).shelves.length:Int)->Pm W k d) ⟨Nat.zero_le _,fun j k h0 h1=>by omega⟩ fun c ⟨hc,hJ⟩=>⟨fun hltc=>?_,fun hgec=>?_⟩
  ·have hltc:=Ot hltc;have c0:(0:Int)<=(c:Int):=by omega
   obtain⟨r1,r2,_⟩:=Q5.1 ha.root;have hrc:(c:Int)<((gi W.groups 0).shelves.length:Int):=by rw[ha.sl ha.root]; exact hltc
   have sh:=h.sh (g:=0) r1 r2 c0 hrc;have tr:=hT 0 (c:Int) (by decide) (by decide) c0 hrc;refine⟨_,_,P9,fun _ _=>⟨_,YO h r1 r2 c0 hrc,sh.1,(Qc W 0 (c:Int)).on,sh.2 (j:=1) rfl,fun _=>sh.1,(Qc W 0 (c:Int)).v,fun _=>sh.2 (j:=2) rfl,fun _=>sh.1,(Qc W 0 (c:Int)).w,fun _=>sh.2 (j:=3) rfl,fun g=>MU fun q=>?_,fun g=>?_⟩⟩
   ·have r:=(q 0 (c:Int) (by decide) (by decide) c0 hrc).root rfl;rw[r.1,r.2.1,r.2.2] at g;simp at g
   simp only[Bool.or_eq_false_iff,bne_eq_false_iff_eq] at g;have root:Pm W 0 (c:Int):=⟨tr.1,tr.2.1,tr.2.2.1,tr.2.2.2.1,tr.2.2.2.2,fun _=>⟨g.1.1,g.1.2,g.2⟩,fun hne=>absurd rfl hne,fun hne=>absurd rfl hne⟩
   refine YE 8 1 rfl (fun k=>1<=k/\k<=8/\∀j:Int,0<=j->j<(k:Int)->(c:Int)<((gi W.groups j).shelves.length:Int)->Pm W j (c:Int)) ⟨Nat.le_refl _,by omega,fun j h0 h1 _=>by
    have:j=0:=by omega
    subst this; exact root⟩ fun k ⟨hk1,hk,hK⟩=>⟨fun hlt=>?_,fun hge2=>?_⟩
   ·have hlt:=Ot hlt;have k0:(0:Int)<=(k:Int):=by omega
    have kl:(k:Int)<(W.groups.length:Int):=by omega
    have nxt:((c:Int)<((gi W.groups (k:Int)).shelves.length:Int)->Pm W (k:Int) (c:Int))->Qn .i64 ((k:Int)+1)/\zls (fun k=>1<=k/\k<=8/\∀j:Int,0<=j->j<(k:Int)->(c:Int)<((gi W.groups j).shelves.length:Int)->Pm W j (c:Int)) [.int .i64 ((k:Int)+1)]/\XK 8 0 [.int .i64 ((k:Int)+1)]<XK 8 0 [.int .i64 (k:Int)]:=fun hq=>⟨⟨by omega,by omega⟩,Qr (by omega) ⟨by omega,by omega,fun j h0 h1 h2=>by
     by_cases hjk:j<(k:Int)
     ·exact hK j h0 hjk h2
     ·have:j=(k:Int):=by omega
      subst this; exact hq h2⟩⟩
    refine⟨h.some,_,_,_,h.groups,h.rd.g.ix k0 kl,_,h.rd.g.used k0 kl,fun g2=>nxt fun hh=>?_,fun g2=>?_⟩
    ·have hu:(gi W.groups (k:Int)).used=false:=by simpa using g2
     have:=((ha.grp (k:Int) k0 (by omega)).1 hu).l;omega
    ·have hus:(gi W.groups (k:Int)).used=true:=by simpa using g2
     have hu:Q6 W.groups (k:Int)=true:=Q5.2 ⟨k0,kl,hus⟩;have hkc:(c:Int)<((gi W.groups (k:Int)).shelves.length:Int):=by rw[ha.sl hu]; exact hltc
     have hp:=ha.up hu (by omega);obtain⟨v1,v2,_⟩:=Q5.1 hp;have hpc:(c:Int)<((gi W.groups (gi W.groups (k:Int)).parent).shelves.length:Int):=by rw[ha.sl hp]; exact hltc
     have sk:=h.sh (g:=(k:Int)) k0 kl c0 hkc;have sp:=h.sh (g:=(gi W.groups (k:Int)).parent) v1 v2 c0 hpc;have tk:=hT (k:Int) (c:Int) k0 (by omega) c0 hkc;have tp:=hT (gi W.groups (k:Int)).parent (c:Int) v1 (by omega) c0 hpc;refine⟨_,YO h k0 kl c0 hkc,sk.1,(Qc W (k:Int) (c:Int)).on,sk.2 (j:=1) rfl,_,y9 h ha c0 hltc,_,fun _=>zig h ha hu c0 hltc,fun _=>sk.1,(Qc W (k:Int) (c:Int)).on,fun _=>sk.2 (j:=1) rfl,fun _ _=>sk.1,(Qc W (k:Int) (c:Int)).v,fun _ _=>sk.2 (j:=2) rfl,fun _ _=>h.some,_,_,_,fun _ _=>h.groups,fun _ _=>h.rd.g.ix k0 kl,_,fun _ _=>h.rd.g.parent k0 kl,_,fun _ _=>YO h v1 v2 c0 hpc,fun _ _=>sp.1,(Qc W (gi W.groups (k:Int)).parent (c:Int)).floor,fun _ _=>sp.2 (j:=0) rfl,fun _ _=>sk.1,(Qc W (k:Int) (c:Int)).w,fun _ _=>sk.2 (j:=3) rfl,_,fun _ _=>Kk tk.2.1 tp.1,fun g3=>MU fun q=>?_,fun g3=>nxt fun _=>?_⟩
     ·have r:=q (k:Int) (c:Int) k0 (by omega) c0 hkc;have r1:=r.on (by omega);simp only[Bool.or_eq_true,Bool.and_eq_true,Bool.not_eq_true',beq_eq_false_iff_ne] at g3;rcases g3 with g3 | g3
      ·exact g3 r1
      ·have:=r.st (by omega) g3.1;rw[this] at g3
       cases g3.2
     ·simp only[Bool.or_eq_false_iff,Bool.not_eq_false',beq_iff_eq] at g3;refine⟨tk.1,tk.2.1,tk.2.2.1,tk.2.2.2.1,tk.2.2.2.2,fun e=>by omega,fun _=>g3.1,fun _ ho=>?_⟩;have:=g3.2;rw[ho,Bool.true_and] at this
      simpa using this
   ·have hge2:=Ou hge2;refine⟨⟨by omega,by omega⟩,Qr (by omega) ⟨by omega,fun d k' h0 h1 h2 h3 h4=>?_⟩⟩
    by_cases hdc:d<(c:Int)
    ·exact hJ d k' h0 hdc h2 h3 h4
    ·have:d=(c:Int):=by omega
     subst this;exact hK k' h2 (by omega) h4
  ·have hgec:=Ou hgec;refine zhj fun k d h0 h1 h2 h3=>hJ d k h2 ?_ h0 h1 h3
   have hus:(gi W.groups k).used=true:=by
    cases hu:(gi W.groups k).used with
    | true=>rfl
    | false=>
     have:=((ha.grp k h0 h1).1 hu).l;omega
   have:=ha.sl (Q5.2 ⟨h0,by omega,hus⟩);omega
theorem v9(h:PD bs w p W m)(ha:WA W)(hts:∀t:Int,0<=t->t<12->F5 W t)(hss:∀k c:Int,0<=k->k<8->0<=c->c<((gi W.groups k).shelves.length:Int)->Pm W k c):PX bs Xf #[.pointer p] w (.bool (Jr (∀c:Int,0<=c->c<(W.cpus.length:Int)->De W c))):=
 Lq p fun wr hx=>by
  have h:=(h.ext hx).less (cs:=[]) (by simp);have hgl:=ha.gl;have htl:=ha.t;have hcl:=ha.c2;have hm9:=Zb;refine⟨h.some,_,_,_,h.cpus,?_⟩;refine YE W.cpus.length 0 rfl (fun c=>c<=W.cpus.length/\∀j:Int,0<=j->j<(c:Int)->De W j) ⟨Nat.zero_le _,fun j h0 h1=>by omega⟩ fun c ⟨hc,hI⟩=>⟨fun hlt=>?_,fun hge=>?_⟩
  ·have hlt:=Ot hlt;have c0:(0:Int)<=(c:Int):=by omega
   have nxt:De W (c:Int)->Qn .i64 ((c:Int)+1)/\zls (fun c=>c<=W.cpus.length/\∀j:Int,0<=j->j<(c:Int)->De W j) [.int .i64 ((c:Int)+1)]/\XK W.cpus.length 0 [.int .i64 ((c:Int)+1)]<XK W.cpus.length 0 [.int .i64 (c:Int)]:=fun hq=>⟨⟨by omega,by omega⟩,Qr (by omega) ⟨by omega,fun j h0 h1=>by
    by_cases hjk:j<(c:Int)
    ·exact hI j h0 hjk
    ·have:j=(c:Int):=by omega
     subst this; exact hq⟩⟩
   have bad:¬De W (c:Int)->¬∀c:Int,0<=c->c<(W.cpus.length:Int)->De W c:=fun hn pp=>hn (pp (c:Int) c0 hlt)
   refine⟨h.rd.c.ix Zh c0 hlt,_,_,_,_,_,h.rd.c c c0 hlt,fun _ _ b1 hb1=>⟨_,fun wx hxw hcx=>zww hcx,fun g=>MU (bad fun q=>?_),fun g=>⟨fun g2=>nxt ?_,fun g2=>?_⟩⟩⟩
   ·rw[q.b,q.i] at g; cases g
   ·simp only[Bool.not_eq_false',Bool.and_eq_true] at g;simp only[Bool.and_eq_true,beq_iff_eq] at g2;exact⟨g.1,g.2,by omega,by omega,fun _=>g2.2,fun hh=>by omega⟩
   ·simp only[Bool.not_eq_false',Bool.and_eq_true] at g
    have ne:De W (c:Int)->0<=(gi W.cpus (c:Int)).cur:=fun q=>by
     rcases Int.lt_or_le (gi W.cpus (c:Int)).cur 0 with hneg | hpos
     ·have e1:=q.c1;have e2:=q.no hneg;have e3:(gi W.cpus (c:Int)).cur = -1:=by omega
      rw[e3,e2] at g2;simp at g2
     ·exact hpos
    have there:(Yo (gi W.cpus (c:Int)).cur 0 ((W.tasks.length:Int)-1)&&((Q8 W (gi W.cpus (c:Int)).cur).state != 0))=true->0<=(gi W.cpus (c:Int)).cur/\(gi W.cpus (c:Int)).cur<(W.tasks.length:Int):=fun q=>by
     simp only[Bool.and_eq_true] at q;have:=Qo.1 q.1;omega
    have lu:0<=(gi W.cpus (c:Int)).cur/\(gi W.cpus (c:Int)).cur<(W.tasks.length:Int)->(Q8 W (gi W.cpus (c:Int)).cur).state=1->Q6 W.groups (Q8 W (gi W.cpus (c:Int)).cur).group=true:=fun q hs=>(HG ha (hts _ q.1 (by omega)) hs).1
    refine⟨_,_,P9,fun _ _=>⟨_,fun _=>DY h (by omega),((Q8 W (gi W.cpus (c:Int)).cur).cpu==(c:Int))&&Zy W (gi W.cpus (c:Int)).cur,fun q=>?_,_,fun _=>QH,fun g3=>MU (bad fun q=>?_),fun g3=>?_⟩⟩
    ·simp only[Bool.or_eq_false_iff,Bool.not_eq_false'] at q;have:=there q.2;exact z6 h ha this.1 this.2 c0 hlt (lu this)
    ·have t0:=ne q;have t1:=q.c2;have y:=q.yes t0;have e2:Yo (gi W.cpus (c:Int)).cur 0 ((W.tasks.length:Int)-1)=true:=Qo.2 (by omega);have hst:(Q8 W (gi W.cpus (c:Int)).cur).state=1:=(zd9 (hts _ t0 (by omega)) y.2.2.2.2.1).2;have e4:Yo (gi W.cpus (c:Int)).ran 1 149=true:=Qo.2 ⟨y.2.1,y.2.2.1⟩;rw[y.1,e2,hst,y.2.2.2.1,y.2.2.2.2.1,e4] at g3;simp at g3
    ·simp only[Bool.or_eq_false_iff,Bool.not_eq_false'] at g3;obtain⟨⟨⟨a1,a2⟩,a3⟩,a4⟩:=g3;obtain⟨t0,t1⟩:=there a2;have a4:=Qo.1 a4;simp only[Bool.and_eq_true,beq_iff_eq] at a3;obtain⟨hcpu,hline⟩:=a3;obtain⟨q,_⟩:=zd9 (hts _ t0 (by omega)) hline;have au:=q.g;obtain⟨u1,u2,_⟩:=Q5.1 au
     have sl:∀{x:Int},Q6 W.groups x=true->0<=x/\x<(W.groups.length:Int)/\(c:Int)<((gi W.groups x).shelves.length:Int)/\Pm W x (c:Int):=fun {x} hx=>by
      obtain⟨v1,v2,_⟩:=Q5.1 hx;have c3:(c:Int)<((gi W.groups x).shelves.length:Int):=by rw[ha.sl hx]; exact hlt
      exact⟨v1,v2,c3,hss x (c:Int) v1 (by omega) c0 c3⟩
     obtain⟨_,_,c2,sp⟩:=sl au;have sh:=h.sh (g:=(Q8 W (gi W.cpus (c:Int)).cur).group) u1 u2 c0 c2;have mk:OS W (c:Int)=true->De W (c:Int):=fun hst=>⟨g.1,g.2,by omega,t1,fun hh=>by omega,fun _=>⟨a1,a4.1,a4.2,hcpu,hline,hst⟩⟩
     refine⟨h.some,_,_,_,h.tasks,h.rd.t.ix QI t0 t1,_,_,_,_,_,_,_,_,_,h.rd.t _ t0 t1,fun _ _=>⟨h.rd.t _ t0 t1,rfl,h.tasks,_,YO h u1 u2 c0 c2,sh.1,_,sh.2 (j:=0) rfl,DT q.v sp.f,_,MC,_,UI,fun g4=>MU (bad fun qq=>?_),fun g4=>?_⟩⟩
     ·have g4:=Ot g4;have hd:¬((Q8 W (gi W.cpus (c:Int)).cur).v-(Qc W (Q8 W (gi W.cpus (c:Int)).cur).group (c:Int)).floor<=Z3 (gi W.cpus (c:Int)).ran (Qe (Q8 W (gi W.cpus (c:Int)).cur).nice)):=Int.not_le.2 g4;have:=(qq.yes t0).2.2.2.2.2;unfold OS at this;rw[decide_eq_false hd] at this;cases this
     ·have g4:=Ou g4;have hd:(Q8 W (gi W.cpus (c:Int)).cur).v-(Qc W (Q8 W (gi W.cpus (c:Int)).cur).group (c:Int)).floor<=Z3 (gi W.cpus (c:Int)).ran (Qe (Q8 W (gi W.cpus (c:Int)).cur).nice):=Int.not_lt.1 g4
      have hS:OS W (c:Int)=VJ W (Q8 W (gi W.cpus (c:Int)).cur).group (c:Int) (gi W.cpus (c:Int)).ran:=by
       unfold OS;rw[decide_eq_true hd,Bool.true_and]
      refine⟨fun vs=>∃x:Int,vs=[.int .i64 x]/\Q6 W.groups x=true/\VJ W x (c:Int) (gi W.cpus (c:Int)).ran=VJ W (Q8 W (gi W.cpus (c:Int)).cur).group (c:Int) (gi W.cpus (c:Int)).ran,fun vs=>(dep 3 W.groups (Y5 0 vs)).toNat,⟨_,rfl,au,rfl⟩,?_⟩;rintro x ⟨x',he,hux,hJ⟩;simp only[List.cons.injEq,Value.int.injEq,true_and,and_true] at he;subst he;refine⟨fun hz=>?_,fun hz=>?_⟩
      ·have hz:x≠0:=by simpa using hz
       obtain⟨hp,a,b,d,e,e2,hd⟩:=ZZ ha.tree hux hz;obtain⟨x1,x2,x3,xs⟩:=sl hux;obtain⟨p1,p2,p3,ps⟩:=sl hp;have sx:=h.sh (g:=x) x1 x2 c0 x3;have spp:=h.sh (g:=(gi W.groups x).parent) p1 p2 c0 p3;unfold VJ at hJ;rw[Yi ha.tree hux hz,List.all_cons] at hJ
       refine⟨_,YO h x1 x2 c0 x3,sx.1,_,sx.2 (j:=2) rfl,h.some,_,_,_,h.groups,h.rd.g.ix x1 x2,_,h.rd.g.parent x1 x2,_,YO h p1 p2 c0 p3,spp.1,_,spp.2 (j:=0) rfl,DT xs.v ps.f,sx.1,_,sx.2 (j:=3) rfl,_,UI,fun g5=>MU (bad fun qq=>?_),fun g5=>⟨h.some,_,_,_,h.groups,h.rd.g.ix x1 x2,_,h.rd.g.parent x1 x2,⟨_,rfl,hp,?_⟩,by
        show (dep 3 W.groups (gi W.groups x).parent).toNat<(dep 3 W.groups x).toNat;omega⟩⟩
       ·have g5:=Ot g5;have hd:¬((Qc W x (c:Int)).v-(Qc W (gi W.groups x).parent (c:Int)).floor<=Z3 (gi W.cpus (c:Int)).ran (Qc W x (c:Int)).w):=Int.not_le.2 g5;rw[decide_eq_false hd,Bool.false_and] at hJ;have:=(qq.yes t0).2.2.2.2.2;rw[hS] at this;unfold VJ at this;rw[<-hJ] at this;cases this
       ·have g5:=Ou g5;have hd:(Qc W x (c:Int)).v-(Qc W (gi W.groups x).parent (c:Int)).floor<=Z3 (gi W.cpus (c:Int)).ran (Qc W x (c:Int)).w:=Int.not_lt.1 g5;rw[decide_eq_true hd,Bool.true_and] at hJ;exact hJ
      ·have hz:x=0:=by simpa using hz
       subst hz;refine nxt (mk ?_);rw[hS,<-hJ];unfold VJ;rw[show QX W.groups 0=[] from Zc _ _,List.all_nil]
  ·have hge:=Ou hge;exact zhj fun t h0 h1=>hI t h0 (by omega)
theorem A9(h:PD bs w p W m)(lc:W.cpus.length<=maxLen)(lg:W.groups.length<=maxLen):PX bs X7 #[.pointer p] w (.bool (Jr (zqp W))):=
 KB p fun wr hx=>by
  have h:=(h.ext hx).less (cs:=[]) (by simp);refine⟨h.some,_,h.now,fun b hb=>⟨Zz W.now,fun wx hxw hcx=>zwe hcx,fun _=>h.some,_,_,_,fun _=>h.cpus,_,fun _=>QH,J2 W.cpus,fun g=>Pu h ?_,fun _=>h.some,_,_,_,fun _=>h.tasks,fun _=>h.some,_,_,_,fun _=>h.groups,Pf W.groups,fun _=>y8 h.rd.g lg,O0 ?_⟩⟩
  ·simp only[Bool.and_eq_true,Qo] at g;omega
  ·simp only[Bool.and_eq_true,Qo,beq_iff_eq,bne_iff_ne,ZY,UT];constructor
   ·rintro⟨⟨⟨⟨e1,e2⟩,e3⟩,e4⟩,e5⟩;exact⟨e1.1,e1.2,by omega,by omega,by omega,e5,e3⟩
   ·intro q;have:=q.t;have:=q.c1;have:=q.c2;exact⟨⟨⟨⟨⟨q.n1,q.n2⟩,by omega⟩,q.ups⟩,by omega⟩,q.tree⟩
theorem Kj(h:YZ bs w W m)(lc:W.cpus.length<=maxLen)(lg:W.groups.length<=maxLen)(hf:∀i:Int,0<=i->i<(W.groups.length:Int)->zcs (gi W.groups i)) :
  PX bs Ud #[.agg (Qa W m).toArray] w (.bool (Qv W)):=by
 refine HU fun wr0 hx0=>NC W.now m.cO W.cpus.length m.cC m.tO W.tasks.length m.tC m.gO W.groups.length m.gC (R:=fun v w'=>v=.bool (Qv W)/\Q0 [] wr0 w') ?_
 have h:=(h.ext hx0).less (cs:=[]) (by simp);intro b wb hxb hb hcell _ b1 hb1
 have hP:∀{bs:List Nat} {w1:Wo},Q0 [] wb w1->(∀x∈bs,wb.heap.size<=x)->PD bs w1 (some ⟨b,0,none⟩) W m:=fun {bs w1} hx hbs=>by
  have hbn:b∉bs:=fun hm=>by
   have:=hbs b hm;have:=VM hcell;omega
  have hrd:YZ bs w1 W m:=((h.ext hxb).wide (cs:=bs) fun x hm=>.inr (hbs x hm)).ext hx.of_nil;exact⟨Oi (ZP hcell hx (by simp)) hbn (k0:=0) fun j v hj=>by rw[Nat.zero_add,Nat.zero_add]; exact hj,hrd⟩
 let Cn:=fun (k:Nat)=>match k with
  | 0=>zqp W
  | 1=>∀k:Int,0<=k->k<8->Pl W k
  | 2=>∀t:Int,0<=t->t<12->N0 W t
  | 3=>∀k c:Int,0<=k->k<8->0<=c->c<((gi W.groups k).shelves.length:Int)->Pm W k c
  | _=>∀c:Int,0<=c->c<(W.cpus.length:Int)->De W c
 have all:Xs W->∀k:Nat,k<5->Cn k:=fun q k hk=>by
  have:k=0\/k=1\/k=2\/k=3\/k=4:=by omega
  rcases this with rfl | rfl | rfl | rfl | rfl
  ·exact⟨q.a.n1,q.a.n2,q.a.c1,q.a.c2,q.a.t,q.a.tree,q.a.ups⟩
  ·exact q.a.grp
  ·refine fun t h0 h1=>⟨q.t t h0 h1,fun hs=>?_⟩
   have hu:=HG q.a (q.t t h0 h1) hs;obtain⟨u1,u2,_⟩:=Q5.1 hu.1;have:=q.a.gl;exact(q.s _ _ u1 (by omega) hu.2.1 (by rw[q.a.sl hu.1]; exact hu.2.2)).f
  ·exact q.s
  ·exact q.c
 have back:(∀k:Nat,k<5->Cn k)->Xs W:=fun q=>by
  have q0:zqp W:=q 0 (by decide);have q1:∀k:Int,0<=k->k<8->Pl W k:=q 1 (by decide);have q2:∀t:Int,0<=t->t<12->N0 W t:=q 2 (by decide);exact⟨q0.wa q1,fun t h0 h1=>(q2 t h0 h1).1,q 3 (by decide),q 4 (by decide)⟩
 have cond:∀k:Nat,k<5->(∀j:Nat,j<k->Cn j)->∀{w1:Wo},Q0 [] wb w1->∃F:FuncId,(#[.func (.func X7) #[] #[],.func (.func YN) #[] #[],.func (.func X8) #[] #[],.func (.func YD) #[] #[],.func (.func Xf) #[] #[]]:Array Va)[k]? = some (.func (.func F) #[] #[])/\(∀(w:Wo) (x:Va),(zfi (.func (.func F) #[] #[]) [x]).run Tryz.prog w=.ok (.enter F #[x]) w)/\∃rv:Bool,(rv=true↔Cn k)/\PX [b1] F #[.pointer (some ⟨b,0,none⟩)] w1 (.bool rv):=fun k hk hj {w1} hx=>by
  have hp:=hP (bs:=[b1]) hx (by simpa using hb1);have:k=0\/k=1\/k=2\/k=3\/k=4:=by omega
  rcases this with rfl | rfl | rfl | rfl | rfl
  ·exact⟨_,rfl,fun _ _=>rfl,_,Qh,A9 hp lc lg⟩
  ·have q0:zqp W:=hj 0 (by decide);exact⟨_,rfl,fun _ _=>rfl,_,Qh,B2 hp q0 hf⟩
  ·have q0:zqp W:=hj 0 (by decide);have q1:∀k:Int,0<=k->k<8->Pl W k:=hj 1 (by decide);exact⟨_,rfl,fun _ _=>rfl,_,Qh,Aa hp (q0.wa q1) lg⟩
  ·have q0:zqp W:=hj 0 (by decide);have q1:∀k:Int,0<=k->k<8->Pl W k:=hj 1 (by decide);exact⟨_,rfl,fun _ _=>rfl,_,Qh,DX hp (q0.wa q1) hf⟩
  ·have q0:zqp W:=hj 0 (by decide);have q1:∀k:Int,0<=k->k<8->Pl W k:=hj 1 (by decide);have q2:∀t:Int,0<=t->t<12->N0 W t:=hj 2 (by decide);have q3:∀k c:Int,0<=k->k<8->0<=c->c<((gi W.groups k).shelves.length:Int)->Pm W k c:=hj 3 (by decide);exact⟨_,rfl,fun _ _=>rfl,_,Qh,v9 hp (q0.wa q1) (fun t h0 h1=>(q2 t h0 h1).1) q3⟩
 refine⟨fun vs w1=>∃k:Nat,vs=[.bool true,.int .i64 (k:Int)]/\k<=5/\Q0 [] wb w1/\∀j:Nat,j<k->Cn j,Zu 5 1,fun wr hx _=>⟨0,rfl,by omega,hx,fun j hj=>absurd hj (Nat.not_lt_zero j)⟩,?_⟩;rintro ok x w1 hs1 ⟨k,he,hk,hX,hI⟩;simp only[List.cons.injEq,Value.int.injEq,Value.bool.injEq,true_and,and_true] at he;obtain⟨rfl,rfl⟩:=he
 have fr:∀{w2:Wo},Q0 [b1] w1 w2->Q0 [] wb w2:=fun {w2} hx=>hX.fresh hx fun y hm=>.inl (by
  have:y=b1:=by simpa using hm
  omega)
 refine⟨fun hlt=>?_,fun hge wr hx=>⟨?_,hxb.trans (fr hx)⟩⟩
 ·have hlt:=Ot hlt;obtain⟨F,hF,_⟩:=cond k (by omega) hI hX;refine⟨.func F,#[],#[],⟨by omega,by omega,by rw[Int.toNat_natCast]; exact hF⟩,fun wr1 hx1 hs2=>?_⟩;obtain⟨F',hF',hcv,rv,hrv,hpu⟩:=cond k (by omega) hI (fr hx1);rw[hF] at hF';simp only[Option.some.injEq,Value.func.injEq,Fn.func.injEq,and_self,and_true] at hF';subst hF';refine .inl ⟨F,#[.pointer (some ⟨b,0,none⟩)],?_,?_⟩
  ·exact hcv _ _
  ·refine(hpu wr1 (Q0.refl _ _)).mono fun e w3 ⟨he,hx3⟩=>⟨rv,he,Qd hx3 hs2,fun g wr2 hx4=>⟨?_,hxb.trans ((fr hx1).trans hx3 |>.fresh hx4 fun y hm=>.inl (by
    have:y=b1:=by simpa using hm
    omega))⟩,fun g=>⟨⟨by omega,by omega⟩,fun wr3 hx4 _=>⟨⟨k+1,by simp,by omega,((fr hx1).trans hx3).fresh hx4 fun y hm=>.inl (by
    have:y=b1:=by simpa using hm
    omega),fun j hj=>?_⟩,Z6 (k:=k) rfl rfl (by omega)⟩⟩⟩
   ·have g:rv=false:=by simpa using g
    exact MU fun q=>by
     rw[hrv.2 (all q k (by omega))] at g; cases g
   ·by_cases hjk:j<k
    ·exact hI j hjk
    ·have:j=k:=by omega
     subst this;exact hrv.1 (by simpa using g)
 ·have hge:=Ou hge;have:k=5:=by omega
  subst this;exact zhj (back hI)
end
theorem Mf:zjn Tryz.prog P0 5 Z1 40 (⟨false,0,0,0,0⟩:OY):=Gb (by kernel_rfl) fun _=>rfl
theorem PB:Tryz.prog.underlying Zd=some (.slice Z1):=by kernel_rfl
theorem Tp:zjn Tryz.prog YM 9 QD 72 (⟨0,0,0,0,0,0,0,0,0⟩:P5):=Gb (by kernel_rfl) fun _=>rfl
theorem OV:Tryz.prog.underlying QO=some (.slice QD):=by kernel_rfl
section
variable {W:Q7}{m:MW}{w w':Wo}
structure zte (base:Nat) (w:Wo) (W:Q7) (m:MW):Prop where
 c:Jp P0 5 Z1 base w m.cO m.cC W.cpus
 t:Jp YM 9 QD base w m.tO m.tC W.tasks
 g:∃ps:List (ZA×MG),ps.map (·.1)=W.groups/\(fun k:Nat=>(gi ps (k:Int)).2)=m.ms/\M9 base w m.gO m.gC ps
theorem zte.mono{base base':Nat}(h:zte base w W m)(hb:base'<=base):zte base' w W m:=
 ⟨h.c.mono hb,h.t.mono hb,by
  obtain⟨ps,h1,h2,h3⟩:=h.g;exact⟨ps,h1,h2,h3.mono hb⟩⟩
end
theorem zr1{x bt n:Nat}(hm:x∈[bt])(h:n<=bt):n<=x:=by
 have:x=bt:=by simpa using hm
 omega
structure Sc (w0:Wo) (bs:List Nat) (w:Wo):Prop where
 ext:Q0 [] w0 w
 new:∀x∈bs,w0.heap.size<=x
theorem Sc.start(w:Wo):Sc w [] w:=⟨Q0.refl _ _,by simp⟩
theorem Sc.step{w0:Wo}{bs:List Nat}{w w':Wo}(h:Sc w0 bs w)(hx:Q0 bs w w'):Sc w0 bs w':=⟨h.ext.fresh hx fun x hm=>.inl (h.new x hm),h.new⟩
theorem Sc.call{w0:Wo}{bs cs:List Nat}{w w':Wo}(h:Sc w0 bs w)(hx:Q0 cs w w')(hc:∀x∈cs,w0.heap.size<=x):Sc w0 bs w':=⟨h.ext.fresh hx fun x hm=>.inl (hc x hm),h.new⟩
theorem Sc.call0{w0:Wo}{bs:List Nat}{w w':Wo}(h:Sc w0 bs w)(hx:Q0 [] w w'):Sc w0 bs w':=⟨h.ext.trans hx,h.new⟩
theorem Sc.add{w0:Wo}{bs:List Nat}{w:Wo}{b:Nat}(h:Sc w0 bs w)(hb:w.heap.size<=b):Sc w0 (bs++[b]) w:=⟨h.ext,fun x hm=>by
 rcases List.mem_append.1 hm with hm | hm
 ·exact h.new x hm
 ·have:x=b:=by simpa using hm
  have:=h.ext.size;omega⟩
theorem Sc.sub{w0:Wo}{bs cs:List Nat}{w:Wo}(h:Sc w0 bs w)(hs:∀x∈cs,x∈bs):Sc w0 cs w:=⟨h.ext,fun x hm=>h.new x (hs x hm)⟩
theorem Sc.put{w0:Wo}{bs:List Nat}{w w':Wo}{b:Nat}(h:Sc w0 bs w)(hx:Q0 bs w w')(hb:w.heap.size<=b):Sc w0 (bs++[b]) w':=⟨(h.step hx).ext,(h.add hb).new⟩
structure Ob {α:Type} (enc:α->List Va) (z:Nat) (ty:TypeId) (base:Nat) (bs:List Nat) (w:Wo) (o:OA) (cap:Nat) (l:List α):Prop where
 own:Jp enc z ty base w o cap l
 nb:∀x∈Qy o,x∉bs
section
variable {α:Type}{enc:α->List Va}{z:Nat}{ty:TypeId}{base:Nat}{bs cs:List Nat}{w w':Wo}{o:OA}{cap:Nat}{l:List α}{b:Nat}
theorem Ob.of(h:Jp enc z ty base w o cap l)(hs:∀x∈bs,x<base):Ob enc z ty base bs w o cap l:=⟨h,fun x hx hm=>by
 have:=(h.lt x hx).1;have:=hs x hm;omega⟩
theorem Ob.step(h:Ob enc z ty base bs w o cap l)(hx:Q0 bs w w'):Ob enc z ty base bs w' o cap l:=⟨h.own.ext hx h.nb,h.nb⟩
theorem Ob.call0(h:Ob enc z ty base bs w o cap l)(hx:Q0 [] w w'):Ob enc z ty base bs w' o cap l:=⟨h.own.ext0 hx,h.nb⟩
theorem Ob.call(h:Ob enc z ty base bs w o cap l)(hx:Q0 cs w w')(hd:∀x∈Qy o,x∉cs):Ob enc z ty base bs w' o cap l:=⟨h.own.ext hx hd,h.nb⟩
theorem Ob.add(h:Ob enc z ty base bs w o cap l)(hb:w.heap.size<=b):Ob enc z ty base (bs++[b]) w o cap l:=⟨h.own,fun x hx hm=>by
 rcases List.mem_append.1 hm with hm | hm
 ·exact h.nb x hx hm
 ·have:x=b:=by simpa using hm
  have:=(h.own.lt x hx).2;omega⟩
theorem Ob.put(h:Ob enc z ty base bs w o cap l)(hx:Q0 bs w w')(hb:w.heap.size<=b):Ob enc z ty base (bs++[b]) w' o cap l:=⟨(h.step hx).own,(h.add hb).nb⟩
theorem Ob.sub(h:Ob enc z ty base bs w o cap l)(hs:∀x∈cs,x∈bs):Ob enc z ty base cs w o cap l:=⟨h.own,fun x hx hm=>h.nb x hx (hs x hm)⟩
theorem Ob.mono{base':Nat}(h:Ob enc z ty base bs w o cap l)(hb:base'<=base):Ob enc z ty base' bs w o cap l:=⟨h.own.mono hb,h.nb⟩
theorem Ob.rd[Inhabited α](h:Ob enc z ty base bs w o cap l)(hz:∀x,(enc x).length=z):Rd enc z bs w o l:=h.own.rd hz h.nb
end
theorem Rd.scb{α:Type}[Inhabited α]{enc:α->List Va}{z:Nat}{w0:Wo}{bs:List Nat}{w:Wo}{o:OA}{l:List α}(h:Rd enc z [] w0 o l)(hs:Sc w0 bs w):Rd enc z bs w o l:=(h.wide (cs:=bs) fun x hm=>.inr (hs.new x hm)).ext hs.ext.of_nil
theorem Kq{bs cs:List Nat}{w w':Wo}(hx:Q0 cs w w')(hs:∀b∈bs,b<w.heap.size)(hd:∀x∈cs,x∉bs):Q9 bs w w':=fun x hm=>hx.block x (hs x hm) fun hm'=>hd x hm' hm
theorem Ob.app1{α:Type}[Inhabited α]{P:Program}{enc:α->List Va}{z:Nat}{ty t:TypeId}{bytes:Nat}{zero:α}(E:zjn P enc z ty bytes zero)(ht:P.underlying t=some (.slice ty)){base:Nat}{bs:List Nat}{w:Wo}{o:OA}{cap:Nat}{l:List α}(hO:Ob enc z ty base bs w o cap l)(hs:∀x∈bs,x<w.heap.size)(hbase:base<=w.heap.size){x:α}{b:Nat}{t':TypeId}{fz:Nat×Nat}(hb:w.heap[b]? = some (.cells (enc x).toArray t' fz))(h1:Z7 (enc x)=true)(hl:l.length<=1048576)(hby:bytes<=1000)(tr:TypeId)(cs:Array Bool) :
  ∃o' cap' w',(builtin .append #[t,t] tr cs #[.slice o l.length cap,.slice (some ⟨b,0,none⟩) 1 1]).run P w=.ok (.value (.slice o' (l++[x]).length cap')) w'/\Q9 bs w w'/\Ob enc z ty base bs w' o' cap' (l++[x])/\Q0 (Qy o) w w':=by
 have hbb:(2*(l.length+1))*bytes<=281474976710656:=Nat.le_trans (Nat.mul_le_mul (show 2*(l.length+1)<=2097154 by omega) hby) (by decide);obtain⟨o2,c2,w2,hrun,hO2,hx2,ho2⟩:=zgx E ht hO.own hb h1 hbb (by omega) tr cs hbase;refine⟨o2,c2,w2,hrun,fun y hm=>hx2.block y (hs y hm) fun hm'=>hO.nb y hm' hm,⟨hO2,fun y hy hm=>?_⟩,hx2⟩;rcases ho2 with rfl | rfl
 ·exact hO.nb y hy hm
 ·have:y=w.heap.size:=by simpa[Qy] using hy
  have:=hs y hm;omega
def XH(f:Nat->Int):Nat->Int
 | 0=>0
 | k+1=>XH f k+f k
theorem UN{f:Nat->Int}{B:Int}(h:∀j,0<=f j/\f j<=B):∀k:Nat,0<=XH f k/\XH f k<=(k:Int)*B
 | 0=>by simp[XH]
 | k+1=>by
  have ih:=UN h k;have:=h k;simp only[XH];rw[show ((k+1:Nat):Int)*B=(k:Int)*B+B by rw[show ((k+1:Nat):Int)=(k:Int)+1 by omega,Int.add_mul,Int.one_mul]];omega
theorem XG(n:Int):0<=Qe n/\Qe n<=20:=by
 unfold Qe;split
 ·rename_i h;have:=Qo.1 h;omega
 ·omega
def zbu(W:Q7)(c:Int)(j:Nat):Int:=if (((Q8 W (j:Int)).cpu==c)&&Zy W (j:Int))=true then Qe (Q8 W (j:Int)).nice else 0
def zf5(W:Q7)(g c:Int)(j:Nat):Int:=if ((((Q8 W (j:Int)).state==1)&&((Q8 W (j:Int)).cpu==c))&&VF 3 W.groups g (Q8 W (j:Int)).group)=true then Qe (Q8 W (j:Int)).nice else 0
theorem zt1{W:Q7}{g c:Int}{k:Nat}(h:((((Q8 W (k:Int)).state==1)&&((Q8 W (k:Int)).cpu==c))&&VF 3 W.groups g (Q8 W (k:Int)).group)=true):zf5 W g c k=Qe (Q8 W (k:Int)).nice:=if_pos h
theorem zt0{W:Q7}{g c:Int}{k:Nat}(h:((((Q8 W (k:Int)).state==1)&&((Q8 W (k:Int)).cpu==c))&&VF 3 W.groups g (Q8 W (k:Int)).group)=false):zf5 W g c k=0:=if_neg (by rw[h]; decide)
def HH(W:Q7)(c:Int):Int:=XH (zbu W c) W.tasks.length
def A1(W:Q7)(g c:Int):Int:=XH (zf5 W g c) W.tasks.length
theorem EW(W:Q7)(c:Int)(j:Nat):0<=zbu W c j/\zbu W c j<=20:=by
 unfold zbu;split
 ·exact XG _
 ·omega
theorem A0(W:Q7)(g c:Int)(j:Nat):0<=zf5 W g c j/\zf5 W g c j<=20:=by
 unfold zf5;split
 ·exact XG _
 ·omega
def YJ(W:Q7)(c:Int):Bool:=Yo c 0 ((W.cpus.length:Int)-1)
theorem JG{W:Q7}{c:Int}(h:YJ W c=true):0<=c/\c<(W.cpus.length:Int):=by have:=Qo.1 h; omega
theorem Xs.li{W:Q7}(wp:Xs W){t:Int}(t0:0<=t)(t1:t<(W.tasks.length:Int))(hs:(Q8 W t).state=1):Q6 W.groups (Q8 W t).group=true/\0<=(Q8 W t).cpu/\(Q8 W t).cpu<(W.cpus.length:Int):=by
 have:=wp.a.t;exact HG wp.a (wp.t t t0 (by omega)) hs
structure TU (W:Q7):Prop where
 a:WA W
 li:∀{t:Int},0<=t->t<(W.tasks.length:Int)->(Q8 W t).state=1->Q6 W.groups (Q8 W t).group=true/\0<=(Q8 W t).cpu/\(Q8 W t).cpu<(W.cpus.length:Int)
structure Xc (W:Q7):Prop where
 c:W.cpus.length<=maxLen
 t:W.tasks.length<=maxLen
 g:W.groups.length<=maxLen
 f:∀i:Int,0<=i->i<(W.groups.length:Int)->zcs (gi W.groups i)
section
variable {W:Q7}{m:MW}{w:Wo}{bs:List Nat}{p:OA}
theorem Vn{c:Int}(h:YZ bs w W m)(wp:Xs W):PX bs X9 #[.agg (Qa W m).toArray,.int .i64 c] w (.int .i64 (HH W c)):=
 AG W.now m.cO W.cpus.length m.cC m.tO W.tasks.length m.tC m.gO W.groups.length m.gC c fun wr hx=>by
  have h:=(h.ext hx).less (cs:=[]) (by simp);have htl:=wp.a.t;intro _ _;refine Tx W.tasks.length 0 rfl (fun x k=>k<=W.tasks.length/\x=XH (zbu W c) k) ⟨Nat.zero_le _,rfl⟩ fun x k ⟨hk,hx2⟩=>⟨fun hlt=>?_,fun hge=>?_⟩
  ·have hlt:=Ot hlt;have hr:=UN (EW W c) k;have hw:=XG (Q8 W (k:Int)).nice;have eF:zbu W c k=if (((Q8 W (k:Int)).cpu==c)&&Zy W (k:Int))=true then Qe (Q8 W (k:Int)).nice else 0:=rfl;refine⟨h.t.ix QI (by omega) hlt,_,h.t.f (by omega) hlt (j:=0) rfl,fun _=>h.t.ix QI (by omega) hlt,_,fun _=>h.t.f (by omega) hlt (j:=2) rfl,Zy W (k:Int),fun _=>Uo h wp.a (by omega) hlt fun hs=>wp.li (by omega) hlt hs,fun g2=>⟨h.t.ix QI (by omega) hlt,_,h.t.f (by omega) hlt (j:=3) rfl,Qe (Q8 W (k:Int)).nice,ZB,⟨by omega,by omega⟩,⟨by omega,by omega⟩,QA (by omega) ⟨by omega,?_⟩⟩,fun g2=>⟨⟨by omega,by omega⟩,QA (by omega) ⟨by omega,?_⟩⟩⟩
   ·have g2:((((Q8 W (k:Int)).state==1)&&((Q8 W (k:Int)).cpu==c))&&Zy W (k:Int))=true:=g2;simp only[Bool.and_eq_true] at g2;simp only[XH]; rw[eF,if_pos (by rw[g2.1.2,g2.2]; rfl),hx2]
   ·have g2:((((Q8 W (k:Int)).state==1)&&((Q8 W (k:Int)).cpu==c))&&Zy W (k:Int))=false:=g2
    simp only[XH]; rw[eF,if_neg (fun hc=>by
     simp only[Bool.and_eq_true] at hc;have hl:=hc.2;unfold Zy at hl;simp only[Bool.and_eq_true] at hl;rw[hc.1,hc.2,hl.1] at g2
     cases g2),hx2]; omega
  ·have hge:=Ou hge;have:k=W.tasks.length:=by omega
   subst this;rw[hx2]; rfl
theorem PR{g c:Int}(h:YZ bs w W m)(wp:TU W)(hl:Xc W)(hu:Q6 W.groups g=true):PX bs Jl #[.agg (Qa W m).toArray,.int .i64 g,.int .i64 c] w (.int .i64 (A1 W g c)):=
 Eu W.now m.cO W.cpus.length m.cC m.tO W.tasks.length m.tC m.gO W.groups.length m.gC g c fun wr hx=>by
  have h:=(h.ext hx).less (cs:=[]) (by simp);have htl:=wp.a.t;intro _ _;refine Tx W.tasks.length 0 rfl (fun x k=>k<=W.tasks.length/\x=XH (zf5 W g c) k) ⟨Nat.zero_le _,rfl⟩ fun x k ⟨hk,hx2⟩=>⟨fun hlt=>?_,fun hge=>?_⟩
  ·have hlt:=Ot hlt;have hr:=UN (A0 W g c) k;have hw:=XG (Q8 W (k:Int)).nice
   have hun:(((Q8 W (k:Int)).state==1)&&((Q8 W (k:Int)).cpu==c))=true->TZ W.groups g (Q8 W (k:Int)).group=VF 3 W.groups g (Q8 W (k:Int)).group:=fun q=>by
    simp only[Bool.and_eq_true,beq_iff_eq] at q;unfold TZ;rw[UT.2 wp.a.tree,hu,(wp.li (by omega) hlt q.1).1]; rfl
   have eF:zf5 W g c k=if ((((Q8 W (k:Int)).state==1)&&((Q8 W (k:Int)).cpu==c))&&VF 3 W.groups g (Q8 W (k:Int)).group)=true then Qe (Q8 W (k:Int)).nice else 0:=rfl
   have e2:((((Q8 W (k:Int)).state==1)&&((Q8 W (k:Int)).cpu==c))&&VF 3 W.groups g (Q8 W (k:Int)).group)=((((Q8 W (k:Int)).state==1)&&((Q8 W (k:Int)).cpu==c))&&TZ W.groups g (Q8 W (k:Int)).group):=by
    cases hq:(((Q8 W (k:Int)).state==1)&&((Q8 W (k:Int)).cpu==c)) with
    | false=>rfl
    | true=>rw[hun hq]
   refine⟨h.t.ix QI (by omega) hlt,_,_,_,_,_,_,_,_,_,h.t k (by omega) hlt,fun _ _=>⟨TZ W.groups g (Q8 W (k:Int)).group,fun _=>T5 h.g hl.g,fun g2=>⟨Qe (Q8 W (k:Int)).nice,ZB,⟨by omega,by omega⟩,⟨by omega,by omega⟩,QA (by omega) ⟨by omega,?_⟩⟩,fun g2=>⟨⟨by omega,by omega⟩,QA (by omega) ⟨by omega,?_⟩⟩⟩⟩
   ·simp only[XH]; rw[zt1 (W:=W) (g:=g) (c:=c) (k:=k) (e2.trans g2),hx2]
   ·simp only[XH]; rw[zt0 (W:=W) (g:=g) (c:=c) (k:=k) (e2.trans g2),hx2]; omega
  ·have hge:=Ou hge;have:k=W.tasks.length:=by omega
   subst this;rw[hx2]; rfl
end
def QM(p:Nat->Bool)(v:Nat->Int):Nat->Int
 | 0 => -1
 | k+1=>if (p k&&(decide (QM p v k<0)||decide (v k<v (QM p v k).toNat)))=true then (k:Int) else QM p v k
theorem Zf(p:Nat->Bool)(v:Nat->Int):∀k:Nat,(QM p v k = -1/\∀j,j<k->p j=false) \/
  (0<=QM p v k/\QM p v k<(k:Int)/\p (QM p v k).toNat=true/\(∀j,j<k->p j=true->v (QM p v k).toNat<=v j)/\∀j:Nat,(j:Int)<QM p v k->p j=true->v (QM p v k).toNat<v j)
 | 0=>.inl ⟨rfl,fun j hj=>absurd hj (Nat.not_lt_zero j)⟩
 | k+1=>by
  simp only[QM];split
  ·rename_i h;simp only[Bool.and_eq_true,Bool.or_eq_true,decide_eq_true_eq] at h;refine .inr ⟨by omega,by omega,by simpa using h.1,fun j hj hp=>?_,fun j hj hp=>?_⟩
   ·rw[Int.toNat_natCast]
    by_cases hjk:j=k
    ·subst hjk; exact Int.le_refl _
    ·rcases Zf p v k with ⟨_,h2⟩ | ⟨h1,_,_,h4,_⟩
     ·rw[h2 j (by omega)] at hp; cases hp
     ·have:=h4 j (by omega) hp;rcases h.2 with h5 | h5 <;> omega
   ·rw[Int.toNat_natCast];rcases Zf p v k with ⟨_,h2⟩ | ⟨h1,_,_,h4,_⟩
    ·rw[h2 j (by omega)] at hp; cases hp
    ·have:=h4 j (by omega) hp;rcases h.2 with h5 | h5 <;> omega
  ·rename_i h;rcases Zf p v k with ⟨h1,h2⟩ | ⟨h1,h2,h3,h4,h5⟩
   ·refine .inl ⟨h1,fun j hj=>?_⟩
    by_cases hjk:j=k
    ·subst hjk
     cases hp:p j with
     | false=>rfl
     | true=>
      exfalso; apply h
      rw[hp,h1]; rfl
    ·exact h2 j (by omega)
   ·refine .inr ⟨h1,by omega,h3,fun j hj hp=>?_,h5⟩
    by_cases hjk:j=k
    ·subst hjk;rcases Int.lt_or_le (v j) (v (QM p v j).toNat) with h6 | h6
     ·exfalso; apply h
      rw[hp,decide_eq_true h6]; simp
     ·exact h6
    ·exact h4 j (by omega) hp
theorem zik{p:Nat->Bool}{v:Nat->Int}{n k:Nat}(hk:k<n)(hp:p k=true)(h0:0<=QM p v n)(hv:v k=v (QM p v n).toNat)(hb:∀j,j<k->p j=true->v j≠v (QM p v n).toNat):QM p v n=(k:Int):=by
 rcases Zf p v n with ⟨h1,_⟩ | ⟨_,h2,h3,h4,h5⟩
 ·omega
 ·by_cases hlt:(k:Int)<QM p v n
  ·have:=h5 k hlt hp; omega
  ·by_cases hgt:QM p v n<(k:Int)
   ·exact absurd rfl (hb _ (by omega) h3)
   ·omega
def Zi(W:Q7)(g c:Int)(i:Nat):Bool:=if i<12 then TH W g c i else XV W g c (i-12)
def Zj(W:Q7)(c:Int)(i:Nat):Int:=if i<12 then (Q8 W (i:Int)).v else (Qc W ((i-12:Nat):Int) c).v
def QJ(W:Q7)(g c:Int):Int:=QM (Zi W g c) (Zj W c) 20
def zkl:Nat->Q7->Int->Int->Int
 | 0,_,_,_ => -1
 | f+1,W,g,c=>if QJ W g c<0 then -1 else if QJ W g c<12 then QJ W g c else zkl f W (QJ W g c-12) c
def PV(W:Q7)(g c:Int):Int:=zkl (4-dep 3 W.groups g).toNat W g c
def Qm(W:Q7)(c:Int):Int:=if (gi W.cpus c).cur>=0/\(gi W.cpus c).ran<50 then (gi W.cpus c).cur else PV W 0 c
theorem Vq{W:Q7}{g c:Int}{i:Nat}(h:i<12):Zi W g c i=TH W g c i:=if_pos h
theorem JA{W:Q7}{g c:Int}{i:Nat}:Zi W g c (12+i)=XV W g c i:=by
 unfold Zi;rw[if_neg (by omega),show 12+i-12=i by omega]
theorem Ed{W:Q7}{c:Int}{i:Nat}(h:i<12):Zj W c i=(Q8 W (i:Int)).v:=if_pos h
theorem Ec{W:Q7}{c:Int}{i:Nat}:Zj W c (12+i)=(Qc W (i:Int) c).v:=by
 unfold Zj;rw[if_neg (by omega),show 12+i-12=i by omega]
theorem zkh(W:Q7)(g c:Int):Zi W g c 12=false:=by
 rw[show (12:Nat)=12+0 from rfl,JA]; rfl
theorem KS{W:Q7}{g c:Int}(ha:WA W)(hu:Q6 W.groups g=true)(h:12<=QJ W g c):Q6 W.groups (QJ W g c-12)=true/\QJ W g c-12≠0/\dep 3 W.groups (QJ W g c-12)=dep 3 W.groups g+1/\QJ W g c<20:=by
 unfold QJ at *;rcases Zf (Zi W g c) (Zj W c) 20 with ⟨h1,_⟩ | ⟨h1,h2,h3,_,_⟩
 ·omega
 ·have e:(QM (Zi W g c) (Zj W c) 20).toNat=12+((QM (Zi W g c) (Zj W c) 20).toNat-12):=by omega
  rw[e,JA] at h3;unfold XV at h3;simp only[Bool.and_eq_true,decide_eq_true_eq,beq_iff_eq] at h3;obtain⟨⟨k1,k2,k3⟩,_⟩:=h3;have ek:(((QM (Zi W g c) (Zj W c) 20).toNat-12:Nat):Int)=QM (Zi W g c) (Zj W c) 20-12:=by omega
  rw[ek] at k2 k3;have hgl:=ha.gl;have hk:Q6 W.groups (QM (Zi W g c) (Zj W c) 20-12)=true:=Q5.2 ⟨by omega,by omega,k2⟩;have hz:QM (Zi W g c) (Zj W c) 20-12≠0:=by omega
  obtain⟨_,_,_,d,e1,e2,_⟩:=ZZ ha.tree hk hz;rw[k3] at e2;exact⟨hk,hz,by omega,by omega⟩
theorem Kb{W:Q7}(ha:WA W){g:Int}(hu:Q6 W.groups g=true):0<=dep 3 W.groups g/\dep 3 W.groups g<=3:=by
 have hr:=VN W.groups 3 g
 by_cases hz:g=0
 ·subst hz; rw[Y8]; omega
 ·obtain⟨_,_,_,d,e1,_⟩:=ZZ ha.tree hu hz;omega
theorem Ei{W:Q7}(ha:WA W){g c:Int}(hu:Q6 W.groups g=true):PV W g c=if QJ W g c<0 then -1 else if QJ W g c<12 then QJ W g c else PV W (QJ W g c-12) c:=by
 have hd:=Kb ha hu;have e:(4-dep 3 W.groups g).toNat=(3-dep 3 W.groups g).toNat+1:=by omega
 show zkl (4-dep 3 W.groups g).toNat W g c=_;rw[e];simp only[zkl];split
 ·rfl
 ·split
  ·rfl
  ·obtain⟨_,_,hk,_⟩:=KS ha hu (c:=c) (by omega);unfold PV;rw[hk,show (4-(dep 3 W.groups g+1))=3-dep 3 W.groups g by omega]
section
variable {W:Q7}{m:MW}{w:Wo}{bs:List Nat}{p:OA}
def Z9(W:Q7)(g c:Int)(k:Nat):Int:=if QM (Zi W g c) (Zj W c) k<0 then 0 else Zj W c (QM (Zi W g c) (Zj W c) k).toNat
def ZH(W:Q7)(g c:Int)(k:Nat):Bool:=decide (0<=QM (Zi W g c) (Zj W c) k)
theorem zbg{W:Q7}{g c:Int}{k:Nat}:(decide (QM (Zi W g c) (Zj W c) k<0)||decide (Zj W c k<Zj W c (QM (Zi W g c) (Zj W c) k).toNat))=(!ZH W g c k||decide (Zj W c k<Z9 W g c k)):=by
 unfold ZH Z9
 by_cases h:QM (Zi W g c) (Zj W c) k<0
 ·have h2:decide (0<=QM (Zi W g c) (Zj W c) k)=false:=decide_eq_false (by omega);rw[if_pos h,decide_eq_true h,h2]; rfl
 ·have h2:decide (0<=QM (Zi W g c) (Zj W c) k)=true:=decide_eq_true (by omega);rw[if_neg h,decide_eq_false h,h2]; rfl
theorem zff{W:Q7}{g c:Int}{k:Nat}(h:(Zi W g c k&&(!ZH W g c k||decide (Zj W c k<Z9 W g c k)))=true):Z9 W g c (k+1)=Zj W c k/\ZH W g c (k+1)=true:=by
 rw[<-zbg] at h
 have e:QM (Zi W g c) (Zj W c) (k+1)=(k:Int):=by
  simp only[QM]; rw[if_pos h]
 unfold Z9 ZH;rw[e,if_neg (by omega),Int.toNat_natCast];exact⟨rfl,decide_eq_true (by omega)⟩
theorem zdc{W:Q7}{g c:Int}{k:Nat}(h:(Zi W g c k&&(!ZH W g c k||decide (Zj W c k<Z9 W g c k)))=false):Z9 W g c (k+1)=Z9 W g c k/\ZH W g c (k+1)=ZH W g c k:=by
 rw[<-zbg] at h
 have e:QM (Zi W g c) (Zj W c) (k+1)=QM (Zi W g c) (Zj W c) k:=by
  simp only[QM]; rw[if_neg (by rw[h]; decide)]
 unfold Z9 ZH;rw[e];exact⟨rfl,rfl⟩
theorem Kn{g c:Int}(h:YZ bs w W m)(ha:WA W)(c0:0<=c)(c1:c<(W.cpus.length:Int)):PX bs Ui #[.agg (Qa W m).toArray,.int .i64 g,.int .i64 c] w (.tuple #[.int .i64 (Z9 W g c 20),.bool (ZH W g c 20)]):=
 AK W.now m.cO W.cpus.length m.cC m.tO W.tasks.length m.tC m.gO W.groups.length m.gC g c fun wr hx=>by
  have h:=(h.ext hx).less (cs:=[]) (by simp);have hgl:=ha.gl;have htl:=ha.t;intro _ _;refine⟨fun vs=>∃k:Nat,k<=12/\vs=[.int .i64 (Z9 W g c k),.bool (ZH W g c k),.int .i64 (k:Int)],XK 12 2,⟨0,by omega,rfl⟩,?_⟩;rintro best some t ⟨k,hk,he⟩;simp only[List.cons.injEq,Value.int.injEq,Value.bool.injEq,true_and,and_true] at he;obtain⟨rfl,rfl,rfl⟩:=he;refine⟨fun hlt=>?_,fun hge=>?_⟩
  ·have hlt:=Ot hlt;have hk12:k<12:=by omega
   refine⟨h.t.ix QI (by omega) hlt,_,_,_,_,_,_,_,_,_,h.t k (by omega) hlt,fun _ _=>⟨fun q=>⟨⟨by omega,by omega⟩,⟨k+1,by omega,?_⟩,Z6 (k:=k) rfl rfl hk12⟩,fun q=>⟨⟨by omega,by omega⟩,⟨k+1,by omega,?_⟩,Z6 (k:=k) rfl rfl hk12⟩⟩⟩
   ·have q':(Zi W g c k&&(!ZH W g c k||decide (Zj W c k<Z9 W g c k)))=true:=by rw[Vq hk12,Ed hk12]; exact q
    obtain⟨e1,e2⟩:=zff q';rw[e1,e2,Ed hk12]; simp[Q8]
   ·have q':(Zi W g c k&&(!ZH W g c k||decide (Zj W c k<Z9 W g c k)))=false:=by rw[Vq hk12,Ed hk12]; exact q
    obtain⟨e1,e2⟩:=zdc q';rw[e1,e2]; simp
  ·have hge:=Ou hge;have:k=12:=by omega
   subst this;have e12:Z9 W g c 13=Z9 W g c 12/\ZH W g c 13=ZH W g c 12:=zdc (by rw[zkh]; rfl);refine⟨fun vs=>∃k:Nat,1<=k/\k<=8/\vs=[.int .i64 (Z9 W g c (12+k)),.bool (ZH W g c (12+k)),.int .i64 (k:Int)],XK 8 2,⟨1,by omega,by omega,by rw[show 12+1=13 from rfl,e12.1,e12.2]; rfl⟩,?_⟩;rintro best1 some1 t1 ⟨k,hk1,hk,he⟩;simp only[List.cons.injEq,Value.int.injEq,Value.bool.injEq,true_and,and_true] at he;obtain⟨rfl,rfl,rfl⟩:=he;refine⟨fun hlt=>?_,fun hge=>?_⟩
   ·have hlt:=Ot hlt;have hk0:(0:Int)<=(k:Int):=by omega
    have used:∀{x:Bool},(((gi W.groups (k:Int)).used&&((gi W.groups (k:Int)).parent==g))&&x)=true->Q6 W.groups (k:Int)=true/\c<((gi W.groups (k:Int)).shelves.length:Int):=fun {x} q=>by
     simp only[Bool.and_eq_true] at q;have hu:=ze3 hlt q.1.1;exact⟨hu,by rw[ha.sl hu]; exact c1⟩
    have eA:XV W g c k=(((gi W.groups (k:Int)).used&&((gi W.groups (k:Int)).parent==g))&&(Qc W (k:Int) c).on):=by
     unfold XV; rw[decide_eq_true hk1,Bool.true_and]
    have eP:Zi W g c (12+k)=(((gi W.groups (k:Int)).used&&((gi W.groups (k:Int)).parent==g))&&(Qc W (k:Int) c).on):=by rw[JA,eA]
    refine⟨h.g.ix hk0 hlt,_,h.g.used hk0 hlt,fun _=>h.g.ix hk0 hlt,_,fun _=>h.g.parent hk0 hlt,(Qc W (k:Int) c).on,fun q=>Up h ha (used (x:=true) (by rw[q]; rfl)).1 c0 c1,fun _ _=>h.g.ix hk0 hlt,_,_,_,fun _ _=>h.g.shelf hk0 hlt,fun _ q=>(h.g.shelves _ hk0 hlt).ix ZD c0 (used q).2,(Qc W (k:Int) c).v,fun _ q=>ze8.f (h.g.shelves _ hk0 hlt) c0 (used q).2 (j:=2) rfl,fun q=>?_,fun q=>⟨⟨by omega,by omega⟩,⟨k+1,by omega,by omega,?_⟩,Z6 (k:=k) rfl rfl (by omega)⟩⟩
    ·have q2:=q;simp only[Bool.and_eq_true] at q2;have hu:=used (x:=(Qc W (k:Int) c).on) (by simp only[Bool.and_eq_true]; exact q2.1);have q':(Zi W g c (12+k)&&(!ZH W g c (12+k)||decide (Zj W c (12+k)<Z9 W g c (12+k))))=true:=by rw[eP,Ec]; exact q
     obtain⟨e1,e2⟩:=zff q';refine⟨h.g.ix hk0 hlt,_,_,_,h.g.shelf hk0 hlt,(h.g.shelves _ hk0 hlt).ix ZD c0 hu.2,_,ze8.f (h.g.shelves _ hk0 hlt) c0 hu.2 (j:=2) rfl,⟨by omega,by omega⟩,⟨k+1,by omega,by omega,?_⟩,Z6 (k:=k) rfl rfl (by omega)⟩;rw[show 12+(k+1)=12+k+1 from rfl,e1,e2,Ec]; simp[Qc]
    ·have q':(Zi W g c (12+k)&&(!ZH W g c (12+k)||decide (Zj W c (12+k)<Z9 W g c (12+k))))=false:=by rw[eP,Ec]; exact q
     obtain⟨e1,e2⟩:=zdc q';rw[show 12+(k+1)=12+k+1 from rfl,e1,e2]; simp
   ·have hge:=Ou hge;have:k=8:=by omega
    subst this;rfl
theorem zag{g c:Int}(h:YZ bs w W m)(ha:WA W)(hu:Q6 W.groups g=true)(c0:0<=c)(c1:c<(W.cpus.length:Int)):PX bs Jy #[.agg (Qa W m).toArray,.int .i64 g,.int .i64 c] w (.int .i64 (PV W g c)):=by
 have hgl:=ha.gl;have htl:=ha.t
 have key:∀(n:Nat) (g:Int),Q6 W.groups g=true->(3-dep 3 W.groups g).toNat=n->∀{bs:List Nat} {w:Wo},YZ bs w W m->PX bs Jy #[.agg (Qa W m).toArray,.int .i64 g,.int .i64 c] w (.int .i64 (PV W g c)):=by
  intro n
  induction n using Nat.strongRecOn with
  | ind n ih=>
   intro g hu hn bs w h;refine za6 W.now m.cO W.cpus.length m.cC m.tO W.tasks.length m.tC m.gO W.groups.length m.gC g c fun wr hx=>?_
   have h:=(h.ext hx).less (cs:=[]) (by simp);have hstep:=Ei ha hu (c:=c);have hd:=Kb ha hu;intro _ _;refine⟨_,_,Kn h ha c0 c1,fun q=>?_,fun q=>?_⟩
   ·have q:¬0<=QM (Zi W g c) (Zj W c) 20:=by
     unfold ZH at q
     simpa using q
    have q:¬0<=QJ W g c:=q;rw[hstep,if_pos (by omega)]
   have hF0:0<=QM (Zi W g c) (Zj W c) 20:=by
    unfold ZH at q
    simpa using q
   have hF:0<=QJ W g c:=hF0
   have hbest:Z9 W g c 20=Zj W c (QJ W g c).toNat:=by
    show (if QJ W g c<0 then 0 else Zj W c (QJ W g c).toNat)=_;rw[if_neg (show ¬QJ W g c<0 by omega)]
   have found:∀k:Nat,k<20->Zi W g c k=true->Zj W c k=Z9 W g c 20->(∀j,j<k->Zi W g c j=true->Zj W c j≠Z9 W g c 20)->QJ W g c=(k:Int):=fun k hk hp hv hb=>by
    rw[hbest] at hv hb;exact zik hk hp hF hv hb
   refine⟨fun vs=>∃k:Nat,vs=[.int .i64 (k:Int)]/\k<=12/\∀j,j<k->Zi W g c j=true->Zj W c j≠Z9 W g c 20,XK 12 0,⟨0,rfl,by omega,fun j hj=>absurd hj (Nat.not_lt_zero j)⟩,?_⟩;rintro t ⟨k,he,hk,hI⟩;simp only[List.cons.injEq,Value.int.injEq,true_and,and_true] at he;subst he;refine⟨fun hlt=>?_,fun hge=>?_⟩
   ·have hlt:=Ot hlt;have hk12:k<12:=by omega
    refine⟨h.t.ix QI (by omega) hlt,_,_,_,_,_,_,_,_,_,h.t k (by omega) hlt,fun b1 hb1=>⟨fun q2=>?_,fun q2=>⟨⟨by omega,by omega⟩,⟨k+1,by simp,by omega,fun j hj hp hv=>?_⟩,Z6 (k:=k) rfl rfl hk12⟩⟩⟩
    ·have q2':(TH W g c k&&((Q8 W (k:Int)).v==Z9 W g c 20))=true:=q2;simp only[Bool.and_eq_true,beq_iff_eq] at q2';have:=found k (by omega) (by rw[Vq hk12]; exact q2'.1) (by rw[Ed hk12]; exact q2'.2) hI;rw[hstep,if_neg (by omega),if_pos (by omega),this]
    ·by_cases hjk:j<k
     ·exact hI j hjk hp hv
     ·have:j=k:=by omega
      subst this;rw[Vq hk12] at hp;rw[Ed hk12] at hv;have q2':(TH W g c j&&((Q8 W (j:Int)).v==Z9 W g c 20))=false:=q2;rw[hp,hv] at q2';simp at q2'
   ·have hge:=Ou hge;have:k=12:=by omega
    subst this
    refine⟨fun vs=>∃k:Nat,vs=[.int .i64 (k:Int)]/\1<=k/\k<=8/\∀j,j<12+k->Zi W g c j=true->Zj W c j≠Z9 W g c 20,XK 8 0,⟨1,rfl,by omega,by omega,fun j hj hp=>by
     by_cases hj12:j<12
     ·exact hI j hj12 hp
     ·have:j=12:=by omega
      subst this;rw[zkh] at hp; cases hp⟩,?_⟩
    rintro t2 ⟨k,he,hk1,hk,hI2⟩;simp only[List.cons.injEq,Value.int.injEq,true_and,and_true] at he;subst he;refine⟨fun hlt=>?_,fun hge2=>?_⟩
    ·have hlt:=Ot hlt;have hk0:(0:Int)<=(k:Int):=by omega
     have used:∀{x:Bool},(((gi W.groups (k:Int)).used&&((gi W.groups (k:Int)).parent==g))&&x)=true->Q6 W.groups (k:Int)=true/\c<((gi W.groups (k:Int)).shelves.length:Int):=fun {x} q=>by
      simp only[Bool.and_eq_true] at q;have hu:=ze3 hlt q.1.1;exact⟨hu,by rw[ha.sl hu]; exact c1⟩
     have eA:XV W g c k=(((gi W.groups (k:Int)).used&&((gi W.groups (k:Int)).parent==g))&&(Qc W (k:Int) c).on):=by
      unfold XV; rw[decide_eq_true hk1,Bool.true_and]
     have eP:Zi W g c (12+k)=(((gi W.groups (k:Int)).used&&((gi W.groups (k:Int)).parent==g))&&(Qc W (k:Int) c).on):=by rw[JA,eA]
     refine⟨h.g.ix hk0 hlt,_,h.g.used hk0 hlt,fun _=>h.g.ix hk0 hlt,_,fun _=>h.g.parent hk0 hlt,(Qc W (k:Int) c).on,fun q=>Up h ha (used (x:=true) (by rw[q]; rfl)).1 c0 c1,fun _=>h.g.ix hk0 hlt,_,_,_,fun _=>h.g.shelf hk0 hlt,fun q=>(h.g.shelves _ hk0 hlt).ix ZD c0 (used q).2,(Qc W (k:Int) c).v,fun q=>ze8.f (h.g.shelves _ hk0 hlt) c0 (used q).2 (j:=2) rfl,fun q=>?_,fun q=>⟨⟨by omega,by omega⟩,⟨k+1,by simp,by omega,by omega,fun j hj hp hv=>?_⟩,Z6 (k:=k) rfl rfl (by omega)⟩⟩
     ·have q2:=q;simp only[Bool.and_eq_true,beq_iff_eq] at q2;have hfk:=found (12+k) (by omega) (by rw[eP]; simp only[Bool.and_eq_true,beq_iff_eq]; exact q2.1) (by rw[Ec]; exact q2.2) hI2;have hkid:=KS ha hu (c:=c) (by omega);have ek:QJ W g c-12=(k:Int):=by omega
      rw[ek] at hkid;have hdk:=Kb ha hkid.1;refine⟨_,ih _ (show (3-dep 3 W.groups (k:Int)).toNat<n by omega) (k:Int) hkid.1 rfl h,?_⟩;rw[hstep,if_neg (by omega),if_neg (by omega),ek]
     ·by_cases hjk:j<12+k
      ·exact hI2 j hjk hp hv
      ·have:j=12+k:=by omega
       subst this;rw[eP] at hp;rw[Ec] at hv;rw[hp,hv] at q;simp at q
    ·have hge2:=Ou hge2;have:k=8:=by omega
     subst this;rcases Zf (Zi W g c) (Zj W c) 20 with ⟨h1,_⟩ | ⟨h1,h2,h3,_,_⟩
     ·have:QJ W g c = -1:=h1;omega
     ·exact absurd hbest.symm (hI2 (QJ W g c).toNat (by unfold QJ; omega) h3)
 exact key _ g hu rfl h
theorem zah{c:Int}(h:YZ bs w W m)(ha:WA W)(c0:0<=c)(c1:c<(W.cpus.length:Int)):PX bs OC #[.agg (Qa W m).toArray,.int .i64 c] w (.int .i64 (Qm W c)):=by
 refine za7 W.now m.cO W.cpus.length m.cC m.tO W.tasks.length m.tC m.gO W.groups.length m.gC c fun wr hx=>?_
 have h:=(h.ext hx).less (cs:=[]) (by simp);intro _ _;refine⟨h.c.ix Zh c0 c1,_,h.c.f c0 c1 (j:=1) rfl,fun _=>h.c.ix Zh c0 c1,_,fun _=>h.c.f c0 c1 (j:=2) rfl,fun g=>⟨h.c.ix Zh c0 c1,_,h.c.f c0 c1 (j:=1) rfl,?_⟩,fun g=>⟨_,zag h ha ha.root c0 c1,?_⟩⟩
 ·simp only[Bool.and_eq_true,decide_eq_true_eq] at g;unfold Qm; rw[if_pos g]
 ·unfold Qm; rw[if_neg (fun hc=>by
   rw[decide_eq_true hc.1,decide_eq_true hc.2] at g; cases g)]
end
def setTk(W:Q7)(t:Int)(x:P5):Q7:={ W with tasks:=W.tasks.set t.toNat x }
def setCp(W:Q7)(c:Int)(x:OY):Q7:={ W with cpus:=W.cpus.set c.toNat x }
def setGr(W:Q7)(g:Int)(x:ZA):Q7:={ W with groups:=W.groups.set g.toNat x }
def setSh(W:Q7)(g c:Int)(s:Mx):Q7:=setGr W g { gi W.groups g with shelves:=(gi W.groups g).shelves.set c.toNat s }
def setBd(W:Q7)(g:Int)(b:Jb):Q7:=setGr W g { gi W.groups g with band:=b }
theorem NV{α:Type}[Inhabited α](l:List α)(i:Int):gi l i=gi l ((i.toNat:Nat):Int):=by unfold gi; rw[Int.toNat_natCast]
structure QS (gs gs':List ZA):Prop where
 len:gs'.length=gs.length
 u:∀i:Int,(gi gs' i).used=(gi gs i).used
 p:∀i:Int,(gi gs' i).parent=(gi gs i).parent
 n:∀i:Int,(gi gs' i).name=(gi gs i).name
theorem QS.refl(gs:List ZA):QS gs gs:=⟨rfl,fun _=>rfl,fun _=>rfl,fun _=>rfl⟩
theorem QS.trans{a b c:List ZA}(h:QS a b)(k:QS b c):QS a c:=⟨k.len.trans h.len,fun i=>(k.u i).trans (h.u i),fun i=>(k.p i).trans (h.p i),fun i=>(k.n i).trans (h.n i)⟩
theorem QS.usd{gs gs':List ZA}(h:QS gs gs')(i:Int):Q6 gs' i=Q6 gs i:=by unfold Q6; rw[h.len,h.u]
theorem QS.dep{gs gs':List ZA}(h:QS gs gs'):∀(f:Nat) (i:Int),YtnclplgaicdapaaGreatDoor.dep f gs' i=YtnclplgaicdapaaGreatDoor.dep f gs i
 | 0,i=>rfl
 | f+1,i=>by simp only[YtnclplgaicdapaaGreatDoor.dep]; rw[h.p,h.dep f]
theorem QS.path{gs gs':List ZA}(h:QS gs gs'):∀(f:Nat) (i:Int),JS f gs' i=JS f gs i
 | 0,i=>rfl
 | f+1,i=>by simp only[JS]; rw[h.p,h.path f]
theorem QS.tree{gs gs':List ZA}(h:QS gs gs')(t:ZU gs):ZU gs':=
 ⟨by rw[h.len]; exact t.len,by rw[h.u]; exact t.ru,by rw[h.p]; exact t.rp,by rw[h.n]; exact t.rn,fun g a b c=>by rw[h.u] at c; rw[h.n]; exact t.nm g a b c,fun g a b c=>by rw[h.u] at c; rw[h.usd,h.p]; exact t.par g a b c,
  fun g a b c=>by rw[h.u] at c; rw[h.dep]; exact t.dp g a b c,fun g k a b c d e=>by rw[h.u] at d e; rw[h.p,h.p,h.n,h.n]; exact t.uniq g k a b c d e⟩
theorem Yj{W:Q7}{g:Int}{x:ZA}(h0:0<=g)(h1:g<(W.groups.length:Int)){i:Int}(hi:0<=i):gi (setGr W g x).groups i=if g=i then x else gi W.groups i:=Qw _ _ h0 h1 hi
theorem Ja{W:Q7}{g:Int}{x:ZA}(h0:0<=g)(h1:g<(W.groups.length:Int))(u:x.used=(gi W.groups g).used)(p:x.parent=(gi W.groups g).parent)(n:x.name=(gi W.groups g).name):QS W.groups (setGr W g x).groups:=by
 have key:∀i:Int,gi (setGr W g x).groups i=if g=((i.toNat:Nat):Int) then x else gi W.groups i:=fun i=>by
  rw[NV,Yj h0 h1 (by omega),<-NV W.groups i]
 refine⟨List.length_set,fun i=>?_,fun i=>?_,fun i=>?_⟩
 all_goals
  rw[key];split
  ·rename_i e;rw[NV W.groups i,<-e]; assumption
  ·rfl
theorem WA.set{W:Q7}(ha:WA W){g:Int}{x:ZA}(h0:0<=g)(h1:g<8)(u:x.used=(gi W.groups g).used)(p:x.parent=(gi W.groups g).parent)(n:x.name=(gi W.groups g).name)(hN:x.used=false->zne x)(hU:x.used=true->zhm W g x):WA (setGr W g x):=by
 have hl:=ha.gl;refine⟨ha.n1,ha.n2,ha.c1,ha.c2,ha.t,(Ja h0 (by omega) u p n).tree ha.tree,ha.ups,fun k k0 k1=>?_⟩;show Pl (setGr W g x) k;unfold Pl;rw[Yj h0 (by omega) k0]
 by_cases e:g=k
 ·subst e;rw[if_pos rfl];exact⟨hN,fun hu=>by have:=hU hu; exact⟨this.w1,this.w2,this.m,this.m0,this.s,this.len,this.root,this.none,this.band⟩⟩
 ·rw[if_neg e];have:=ha.grp k k0 k1;exact⟨this.1,fun hu=>by have:=this.2 hu; exact⟨this.w1,this.w2,this.m,this.m0,this.s,this.len,this.root,this.none,this.band⟩⟩
theorem WA.setSh{W:Q7}(ha:WA W){g c:Int}{s:Mx}(h0:0<=g)(h1:g<8):WA (setSh W g c s):=by
 have hg:=ha.grp g h0 h1;refine ha.set h0 h1 rfl rfl rfl (fun hu=>?_) fun hu=>?_
 ·have:=hg.1 hu;exact⟨this.p,this.n,this.w,this.c,this.pe,this.ne,this.s,by rw[List.length_set]; exact this.l,this.b⟩
 ·have:=hg.2 hu;exact⟨this.w1,this.w2,this.m,this.m0,this.s,by rw[List.length_set]; exact this.len,this.root,this.none,this.band⟩
theorem J8{W:Q7}{g c:Int}{s:Mx}(h0:0<=g)(h1:g<(W.groups.length:Int))(c0:0<=c)(c1:c<((gi W.groups g).shelves.length:Int)){i d:Int}(hi:0<=i)(hd:0<=d):Qc (setSh W g c s) i d=if g=i/\c=d then s else Qc W i d:=by
 unfold Qc YtnclplgaicdapaaGreatDoor.setSh;rw[Yj h0 h1 hi]
 by_cases e:g=i
 ·subst e;rw[if_pos rfl,Qw _ _ c0 c1 hd]
  by_cases e2:c=d
  ·rw[if_pos e2,if_pos ⟨rfl,e2⟩]
  ·rw[if_neg e2,if_neg (fun h=>e2 h.2)]
 ·rw[if_neg e,if_neg (fun h=>e h.1)]
theorem Xm{W:Q7}{g c:Int}{s:Mx}(h0:0<=g)(h1:g<(W.groups.length:Int)):QS W.groups (setSh W g c s).groups:=Ja h0 h1 rfl rfl rfl
theorem KR{W:Q7}{g c:Int}{s:Mx}(h0:0<=g)(h1:g<(W.groups.length:Int)){i d:Int}(hi:0<=i):UU (setSh W g c s) i d=UU W i d:=by
 unfold UU YtnclplgaicdapaaGreatDoor.setSh;rw[Yj h0 h1 hi];split
 ·rename_i e; subst e; rfl
 ·rfl
theorem zbh{W:Q7}{g c:Int}{s:Mx}(h0:0<=g)(h1:g<(W.groups.length:Int)){i:Int}(hi:0<=i):(gi (setSh W g c s).groups i).band=(gi W.groups i).band:=by
 unfold YtnclplgaicdapaaGreatDoor.setSh;rw[Yj h0 h1 hi];split
 ·rename_i e; subst e; rfl
 ·rfl
theorem zcf{W:Q7}{g c:Int}{s:Mx}(h0:0<=g)(h1:g<(W.groups.length:Int)){i:Int}(hi:0<=i):(gi (setSh W g c s).groups i).shelves.length=(gi W.groups i).shelves.length:=by
 unfold YtnclplgaicdapaaGreatDoor.setSh;rw[Yj h0 h1 hi];split
 ·rename_i e; subst e; simp
 ·rfl
structure SW (K:Int) (W:Q7):Prop where
 a:WA W
 t:∀t:Int,0<=t->t<12->(Q8 W t).state≠0->Q6 W.groups (Q8 W t).group=true/\0<=(Q8 W t).cpu/\(Q8 W t).cpu<(W.cpus.length:Int)
 tv:∀t:Int,0<=t->t<12->0<=(Q8 W t).v/\(Q8 W t).v<=K
 s:∀k c:Int,Q6 W.groups k=true->0<=c->c<(W.cpus.length:Int)->0<=(Qc W k c).floor/\(Qc W k c).floor<=K/\0<=(Qc W k c).v/\(Qc W k c).v<=K/\1<=(Qc W k c).w/\(Qc W k c).w<=20
 cu:∀c:Int,0<=c->c<(W.cpus.length:Int)->-1<=(gi W.cpus c).cur/\(gi W.cpus c).cur<12
structure SF (F K:Int) (W:Q7):Prop where
 w:SW K W
 f:∀k c:Int,Q6 W.groups k=true->0<=c->c<(W.cpus.length:Int)->(Qc W k c).floor<=F
theorem SW.mono{K K':Int}{W:Q7}(h:SW K W)(hk:K<=K'):SW K' W:=
 ⟨h.a,h.t,fun t a b=>by have:=h.tv t a b; omega,fun k c u a b=>by have:=h.s k c u a b; omega,h.cu⟩
theorem SW.sf{K:Int}{W:Q7}(h:SW K W):SF K K W:=⟨h,fun k c u a b=>(h.s k c u a b).2.1⟩
theorem SF.mono{F K F' K':Int}{W:Q7}(h:SF F K W)(hf:F<=F')(hk:K<=K'):SF F' K' W:=⟨h.w.mono hk,fun k c u a b=>by have:=h.f k c u a b; omega⟩
theorem SW.li{K:Int}{W:Q7}(h:SW K W){t:Int}(t0:0<=t)(t1:t<(W.tasks.length:Int))(hs:(Q8 W t).state=1):Q6 W.groups (Q8 W t).group=true/\0<=(Q8 W t).cpu/\(Q8 W t).cpu<(W.cpus.length:Int):=by
 have hl:=h.a.t;exact h.t t t0 (by omega) (by omega)
theorem SF.setSh{F K:Int}{W:Q7}(h:SF F K W){g c:Int}{s:Mx}(hu:Q6 W.groups g=true)(c0:0<=c)(c1:c<(W.cpus.length:Int))(f0:0<=s.floor)(f1:s.floor<=F)(fk:s.floor<=K)(v0:0<=s.v)(v1:s.v<=K)(w1:1<=s.w)(w2:s.w<=20):SF F K (setSh W g c s):=by
 obtain⟨u0,u1,_⟩:=Q5.1 hu;have hl:=h.w.a.gl;have hs:=h.w.a.sl hu;have hT:=Xm (W:=W) (g:=g) (c:=c) (s:=s) u0 u1
 have e:∀k d:Int,Q6 (YtnclplgaicdapaaGreatDoor.setSh W g c s).groups k=true->0<=d->Qc (YtnclplgaicdapaaGreatDoor.setSh W g c s) k d=if g=k/\c=d then s else Qc W k d:=fun k d uk hd=>by
  rw[hT.usd] at uk;exact J8 u0 u1 c0 (by omega) (Q5.1 uk).1 hd
 refine⟨⟨h.w.a.setSh u0 (by omega),fun t a b n=>by rw[hT.usd]; exact h.w.t t a b n,h.w.tv,fun k d uk a b=>?_,h.w.cu⟩,fun k d uk a b=>?_⟩
 ·rw[e k d uk a];rw[hT.usd] at uk;split
  ·exact⟨f0,fk,v0,v1,w1,w2⟩
  ·exact h.w.s k d uk a b
 ·rw[e k d uk a];rw[hT.usd] at uk;split
  ·exact f1
  ·exact h.f k d uk a b
def Yl(W:Q7)(k c:Int):Mx:=
 { Qc W k c with
  v:=if (QP W k c && !UU W k c)=true/\(Qc W k c).on=false then (Qc W (gi W.groups k).parent c).floor+X3 ((Qc W k c).v-(Qc W (gi W.groups k).parent c).floor) (Qc W k c).w else (Qc W k c).v
  on:=QP W k c && !UU W k c }
def ZO(W:Q7)(c d:Int):Nat->Q7
 | 0=>W
 | k+1=>if (gi (ZO W c d k).groups (k:Int)).used=true/\dep 3 (ZO W c d k).groups (k:Int)=d then setSh (ZO W c d k) (k:Int) c (Yl (ZO W c d k) (k:Int) c) else ZO W c d k
theorem zme{W:Q7}{c d:Int}(h:d≠0):ZO W c d 1=W:=by
 show (if (gi W.groups ((0:Nat):Int)).used=true/\dep 3 W.groups ((0:Nat):Int)=d then _ else W)=W;refine if_neg fun hc=>h ?_
 have:=hc.2;rw[show (((0:Nat):Int))=0 from rfl,Y8] at this;exact this.symm
def XB(W:Q7)(c:Int):Nat->Q7
 | 0=>W
 | j+1=>ZO (XB W c j) c (3-(j:Int)) 8
def QN(W:Q7)(c:Int):Q7:=XB W c 3
abbrev Qk:Int:=34686091440
theorem zo2{F K:Int}{W:Q7}(h:SF F K W)(hk:F+Qk<=K){k c d:Int}(hu:Q6 W.groups k=true)(hd:dep 3 W.groups k=d)(d1:1<=d)(c0:0<=c)(c1:c<(W.cpus.length:Int)):SF F K (setSh W k c (Yl W k c)):=by
 have hz:k≠0:=fun e=>by subst e; rw[Y8] at hd; omega
 have hp:=h.w.a.up hu hz;have s1:=h.w.s k c hu c0 c1;have s2:=h.w.s _ c hp c0 c1;have f1:=h.f k c hu c0 c1;have f2:=h.f _ c hp c0 c1;have lc:=ZQ ((Qc W k c).v-(Qc W (gi W.groups k).parent c).floor) (Qc W k c).w;have lm:=ZN (Qc W k c).w;refine h.setSh hu c0 c1 s1.1 f1 (by show (Qc W k c).floor<=K; omega) ?_ ?_ s1.2.2.2.2.1 s1.2.2.2.2.2
 ·simp only[Yl]; split <;> omega
 ·simp only[Yl]; simp only[Qk] at hk; split <;> omega
structure Jv (W W':Q7):Prop where
 n:W'.now=W.now
 c:W'.cpus=W.cpus
 t:W'.tasks=W.tasks
 g:QS W.groups W'.groups
 b:∀i:Int,0<=i->(gi W'.groups i).band=(gi W.groups i).band
 l:∀i:Int,0<=i->(gi W'.groups i).shelves.length=(gi W.groups i).shelves.length
theorem Jv.refl(W:Q7):Jv W W:=⟨rfl,rfl,rfl,QS.refl _,fun _ _=>rfl,fun _ _=>rfl⟩
theorem Jv.trans{A B C:Q7}(h:Jv A B)(k:Jv B C):Jv A C:=⟨k.n.trans h.n,k.c.trans h.c,k.t.trans h.t,h.g.trans k.g,fun i hi=>(k.b i hi).trans (h.b i hi),fun i hi=>(k.l i hi).trans (h.l i hi)⟩
theorem PZ{W:Q7}{g c:Int}{s:Mx}(h0:0<=g)(h1:g<(W.groups.length:Int)):Jv W (setSh W g c s):=⟨rfl,rfl,rfl,Xm h0 h1,fun _ hi=>zbh h0 h1 hi,fun _ hi=>zcf h0 h1 hi⟩
theorem Ai{F K:Int}{W:Q7}(h:SF F K W)(hk:F+Qk<=K){c d:Int}(d1:1<=d)(c0:0<=c)(c1:c<(W.cpus.length:Int)):∀k:Nat,k<=8->SF F K (ZO W c d k)/\Jv W (ZO W c d k)
 | 0,_=>⟨h,Jv.refl _⟩
 | k+1,hk8=>by
  obtain⟨ih,io⟩:=Ai h hk (d:=d) d1 c0 c1 k (by omega);have hl:=ih.w.a.gl;simp only[ZO];split
  ·rename_i hc;have hu:Q6 (ZO W c d k).groups (k:Int)=true:=Q5.2 ⟨by omega,by omega,hc.1⟩;exact⟨zo2 ih hk hu hc.2 d1 c0 (by rw[io.c]; exact c1),io.trans (PZ (by omega) (by omega))⟩
  ·exact⟨ih,io⟩
theorem E9{F K:Int}{W:Q7}(h:SF F K W)(hk:F+Qk<=K){c:Int}(c0:0<=c)(c1:c<(W.cpus.length:Int)):∀j:Nat,j<=3->SF F K (XB W c j)/\Jv W (XB W c j)
 | 0,_=>⟨h,Jv.refl _⟩
 | j+1,hj=>by
  obtain⟨a1,b1⟩:=E9 h hk c0 c1 j (by omega);obtain⟨a2,b2⟩:=Ai a1 hk (c:=c) (d:=3-(j:Int)) (by omega) c0 (by rw[b1.c]; exact c1) 8 (by omega);exact⟨a2,b1.trans b2⟩
theorem E8{F K:Int}{W:Q7}(h:SF F K W)(hk:F+Qk<=K){c:Int}(c0:0<=c)(c1:c<(W.cpus.length:Int)):SF F K (QN W c)/\Jv W (QN W c):=E9 h hk c0 c1 3 (Nat.le_refl _)
def YH(W:Q7):Nat->Q7
 | 0=>W
 | c+1=>QN (YH W c) (c:Int)
theorem Od{F K:Int}{W:Q7}(h:SF F K W)(hk:F+Qk<=K):∀c:Nat,c<=W.cpus.length->SF F K (YH W c)/\Jv W (YH W c)
 | 0,_=>⟨h,Jv.refl _⟩
 | c+1,hc=>by
  obtain⟨a,b⟩:=Od h hk c (by omega);obtain⟨a2,b2⟩:=E8 a hk (c:=(c:Int)) (by omega) (by rw[b.c]; omega);exact⟨a2,b.trans b2⟩
def Yk(b:Jb)(c:Int):Jb:={ b with pool:=b.pool+gi b.locals c,locals:=b.locals.set c.toNat 0,dry:=if b.pool+gi b.locals c>0 then List.replicate b.dry.length false else b.dry }
theorem KF(l:List Int)(c:Int)(x:Int)(c0:0<=c)(c1:c<(l.length:Int)):∀k:Nat,Ub (l.set c.toNat x) k=Ub l k+if c<(k:Int) then x-gi l c else 0
 | 0=>by simp only[Ub]; rw[if_neg (by omega)]; omega
 | k+1=>by
  simp only[Ub];rw[KF l c x c0 c1 k,Qw _ _ c0 c1 (by omega)]
  by_cases e:c=(k:Int)
  ·subst e;rw[if_neg (by omega),if_pos rfl,if_pos (by omega)]; omega
  ·rw[if_neg e]
   by_cases h:c<(k:Int)
   ·rw[if_pos h,if_pos (by omega)]; omega
   ·rw[if_neg h,if_neg (by omega)]; omega
theorem zey{l:List Int}(h:∀c:Int,0<=c->c<(l.length:Int)->0<=gi l c){c:Int}(c0:0<=c):∀k:Nat,k<=l.length->0<=Ub l k/\(c<(k:Int)->gi l c<=Ub l k)
 | 0,_=>by simp only[Ub]; exact⟨by omega,fun h=>by omega⟩
 | k+1,hk=>by
  have ih:=zey h c0 k (by omega);have:=h (k:Int) (by omega) (by omega);simp only[Ub];refine⟨by omega,fun hc=>?_⟩
  by_cases e:c=(k:Int)
  ·subst e; omega
  ·have:=ih.2 (by omega); omega
theorem TR{α:Type}[Inhabited α](n:Nat)(x:α){i:Int}(h0:0<=i)(h1:i<(n:Int)):gi (List.replicate n x) i=x:=by
 obtain⟨k,rfl⟩:=Int.eq_ofNat_of_zero_le h0;rw[J0 (by simp; omega)]; simp
theorem zfz{b:Jb}(h:Vz b){c:Int}(c0:0<=c)(c1:c<(b.locals.length:Int))(hp:0<gi b.locals c):Vz (Yk b c)/\(Yk b c).locals.length=b.locals.length/\(Yk b c).quota=b.quota:=by
 have hs:=KF b.locals c 0 c0 c1 b.locals.length;rw[if_pos c1] at hs;have hn:=zey (fun d d0 d1=>(h.each d d0 d1).1) c0 b.locals.length (Nat.le_refl _);have hn2:=hn.2 c1;have p1:=h.p1;have s1:=h.s1;have su:=h.sum;have hpos:b.pool+gi b.locals c>0:=by omega
 refine⟨⟨h.q1,h.q2,?_,?_,?_,?_,?_,h.s1,h.s2,fun d d0 d1=>?_,?_⟩,by simp[Yk],rfl⟩
 ·simp only[Yk,List.length_set]; exact h.l1
 ·simp only[Yk,List.length_set]; exact h.l2
 ·simp only[Yk]; rw[if_pos hpos]; simp[h.dl]
 ·simp only[Yk]; omega
 ·simp only[Yk]; omega
 ·simp only[Yk,List.length_set] at d1 ⊢;have hd:=h.dl;have he:=h.each d d0 d1;rw[if_pos hpos,TR _ _ d0 (by omega),Qw _ _ c0 c1 d0];have:=h.q1;refine⟨?_,?_,fun h=>by cases h⟩
  ·split <;> omega
  ·split <;> omega
 ·simp only[Yk,List.length_set];rw[hs]; omega
def Yx(W:Q7)(k:Int):Nat->Q7
 | 0=>W
 | c+1=>if gi (gi (Yx W k c).groups k).band.locals (c:Int)>0/\QP (Yx W k c) k (c:Int)=false then setBd (Yx W k c) k (Yk (gi (Yx W k c).groups k).band (c:Int)) else Yx W k c
def YP(W:Q7):Nat->Q7
 | 0=>W
 | k+1=>if (gi (YP W k).groups (k:Int)).used=true/\(gi (YP W k).groups (k:Int)).band.quota≠0 then Yx (YP W k) (k:Int) (YP W k).cpus.length else YP W k
def LE(W:Q7):Q7:=YP W 8
structure UY (W W':Q7):Prop where
 n:W'.now=W.now
 c:W'.cpus=W.cpus
 t:W'.tasks=W.tasks
 g:QS W.groups W'.groups
 s:∀i:Int,0<=i->(gi W'.groups i).shelves=(gi W.groups i).shelves
theorem UY.refl(W:Q7):UY W W:=⟨rfl,rfl,rfl,QS.refl _,fun _ _=>rfl⟩
theorem UY.trans{A B C:Q7}(h:UY A B)(k:UY B C):UY A C:=⟨k.n.trans h.n,k.c.trans h.c,k.t.trans h.t,h.g.trans k.g,fun i hi=>(k.s i hi).trans (h.s i hi)⟩
theorem zb0{W:Q7}{g:Int}{b:Jb}(h0:0<=g)(h1:g<(W.groups.length:Int)):UY W (setBd W g b):=⟨rfl,rfl,rfl,Ja h0 h1 rfl rfl rfl,fun i hi=>by
 unfold setBd;rw[Yj h0 h1 hi];split
 ·rename_i e; subst e; rfl
 ·rfl⟩
theorem SF.onlyB{F K:Int}{W W':Q7}(h:SF F K W)(ho:UY W W')(ha:WA W'):SF F K W':=by
 have e:∀k c:Int,Q6 W'.groups k=true->Qc W' k c=Qc W k c:=fun k c hu=>by unfold Qc; rw[ho.s k (Q5.1 hu).1]
 have et:∀t:Int,Q8 W' t=Q8 W t:=fun t=>by unfold Q8; rw[ho.t]
 refine⟨⟨ha,fun t a b n=>?_,fun t a b=>by rw[et]; exact h.w.tv t a b,fun k c u a b=>?_,fun c a b=>?_⟩,fun k c u a b=>?_⟩
 ·rw[et] at n ⊢; rw[ho.g.usd,ho.c]; exact h.w.t t a b n
 ·rw[e k c u]; rw[ho.g.usd] at u; rw[ho.c] at b; exact h.w.s k c u a b
 ·rw[ho.c] at b ⊢; exact h.w.cu c a b
 ·rw[e k c u]; rw[ho.g.usd] at u; rw[ho.c] at b; exact h.f k c u a b
theorem WA.setBd{W:Q7}(ha:WA W){g:Int}{b:Jb}(hu:Q6 W.groups g=true)(hq:(gi W.groups g).band.quota≠0)(hb:Vz b)(hl:b.locals.length=W.cpus.length)(he:b.quota=(gi W.groups g).band.quota):WA (setBd W g b):=by
 obtain⟨u0,u1,hg⟩:=ha.u hu;have hb0:=hg.band hq;refine ha.set u0 u1 rfl rfl rfl (fun hn=>?_) fun _=>⟨hg.w1,hg.w2,hg.m,hg.m0,hg.s,hg.len,fun h=>⟨(hg.root h).1,(hg.root h).2.1,by show b.quota=0; rw[he]; exact(hg.root h).2.2⟩,fun h=>absurd (he.symm.trans h) hq,fun _=>⟨hb,hl,hb0.2.2⟩⟩
 have:(gi W.groups g).used=false:=hn;rw[(Q5.1 hu).2.2] at this;cases this
theorem Ht{F K:Int}{W:Q7}(h:SF F K W){k:Int}(hu:Q6 W.groups k=true)(hq:(gi W.groups k).band.quota≠0):∀c:Nat,c<=W.cpus.length->SF F K (Yx W k c)/\UY W (Yx W k c)/\(gi (Yx W k c).groups k).band.quota≠0
 | 0,_=>⟨h,UY.refl _,hq⟩
 | c+1,hc=>by
  obtain⟨a,b,q⟩:=Ht h hu hq c (by omega);simp only[Yx];split
  ·rename_i hcond;have hu':Q6 (Yx W k c).groups k=true:=by rw[b.g.usd]; exact hu
   obtain⟨u0,u1,hg⟩:=a.w.a.u hu';have hb:=hg.band q;have hl:=a.w.a.gl;have hcl:(Yx W k c).cpus.length=W.cpus.length:=by rw[b.c]
   obtain⟨g1,g2,g3⟩:=zfz hb.1 (c:=(c:Int)) (by omega) (by omega) hcond.1;have ho:=zb0 (W:=Yx W k c) (b:=Yk (gi (Yx W k c).groups k).band (c:Int)) u0 (by omega);refine⟨a.onlyB ho (a.w.a.setBd hu' q g1 (by rw[g2,hb.2.1]) g3),b.trans ho,?_⟩;show (gi (setGr _ k _).groups k).band.quota≠0;rw[Yj u0 (by omega) u0,if_pos rfl];exact fun e=>q (by rw[<-g3]; exact e)
  ·exact⟨a,b,q⟩
theorem Tu{F K:Int}{W:Q7}(h:SF F K W):∀k:Nat,k<=8->SF F K (YP W k)/\UY W (YP W k)
 | 0,_=>⟨h,UY.refl _⟩
 | k+1,hk=>by
  obtain⟨a,b⟩:=Tu h k (by omega);simp only[YP];split
  ·rename_i hc;have hl:=a.w.a.gl;obtain⟨a2,b2,_⟩:=Ht a (k:=(k:Int)) (Q5.2 ⟨by omega,by omega,hc.1⟩) hc.2 _ (Nat.le_refl _);exact⟨a2,b.trans b2⟩
  ·exact⟨a,b⟩
def DR(W:Q7)(k c:Int):Mx:={ Qc W k c with floor:=Z9 W k c 20 }
def QY(W:Q7)(c:Int):Nat->Q7
 | 0=>W
 | k+1=>if (gi (QY W c k).groups (k:Int)).used=true/\ZH (QY W c k) (k:Int) c 20=true/\Z9 (QY W c k) (k:Int) c 20>(Qc (QY W c k) (k:Int) c).floor then setSh (QY W c k) (k:Int) c (DR (QY W c k) (k:Int) c) else QY W c k
def Zo(W:Q7)(c:Int):Q7:=QY W c 8
theorem zhx{K:Int}{W:Q7}(h:SW K W){k c:Int}(c0:0<=c)(c1:c<(W.cpus.length:Int))(hK:0<=K):0<=Z9 W k c 20/\Z9 W k c 20<=K:=by
 unfold Z9;split
 ·omega
 ·rename_i hn;have hl:=h.a.gl;rcases Zf (Zi W k c) (Zj W c) 20 with h1 | h1
  ·omega
  ·obtain⟨j,hj⟩:∃j:Nat,QM (Zi W k c) (Zj W c) 20=(j:Int):=⟨(QM (Zi W k c) (Zj W c) 20).toNat,by omega⟩;rw[hj,Int.toNat_natCast] at h1 ⊢;have hp:=h1.2.2.1;unfold Zj
   by_cases h12:j<12
   ·rw[if_pos h12];exact h.tv (j:Int) (by omega) (by omega)
   ·rw[if_neg h12];unfold Zi at hp;rw[if_neg h12] at hp;unfold XV at hp;simp only[Bool.and_eq_true] at hp;have hu:Q6 W.groups ((j-12:Nat):Int)=true:=Q5.2 ⟨by omega,by omega,hp.1.2.1⟩;have:=h.s _ c hu c0 c1;omega
theorem KT{K:Int}{W:Q7}(h:SW K W)(hK:0<=K){c:Int}(c0:0<=c)(c1:c<(W.cpus.length:Int)):∀k:Nat,k<=8->SW K (QY W c k)/\Jv W (QY W c k)
 | 0,_=>⟨h,Jv.refl _⟩
 | k+1,hk=>by
  obtain⟨a,b⟩:=KT h hK c0 c1 k (by omega);have hl:=a.a.gl;have c1':c<((QY W c k).cpus.length:Int):=by rw[b.c]; exact c1
  simp only[QY];split
  ·rename_i hc;have hu:Q6 (QY W c k).groups (k:Int)=true:=Q5.2 ⟨by omega,by omega,hc.1⟩;have s1:=a.s _ c hu c0 c1';have br:=zhx a (k:=(k:Int)) c0 c1' hK;exact⟨(a.sf.setSh (s:=DR (QY W c k) (k:Int) c) hu c0 c1' br.1 br.2 br.2 s1.2.2.1 s1.2.2.2.1 s1.2.2.2.2.1 s1.2.2.2.2.2).w,b.trans (PZ (by omega) (by omega))⟩
  ·exact⟨a,b⟩
def Xd(x:OY):OY:={ x with cur := -1,ran:=0 }
def endW(W:Q7)(c:Int):Q7:=setCp W c (Xd (gi W.cpus c))
theorem zlc{cs cs':List OY}:∀k:Nat,(∀j:Nat,j<k->(gi cs' (j:Int)).up=(gi cs (j:Int)).up)->Uc cs' k=Uc cs k
 | 0,_=>rfl
 | k+1,h=>by simp only[Uc]; rw[zlc k fun j hj=>h j (by omega),h k (by omega)]
theorem ze0{cs cs':List OY}(hl:cs'.length=cs.length)(h:∀j:Nat,j<cs.length->(gi cs' (j:Int)).up=(gi cs (j:Int)).up):J2 cs'=J2 cs:=by
 unfold J2;rw[hl];exact zlc _ h
theorem WA.cp{W:Q7}(ha:WA W){cs:List OY}(hl:cs.length=W.cpus.length)(hu:J2 cs≠0):WA { W with cpus:=cs }:=
 ⟨ha.n1,ha.n2,by show 1<=cs.length; rw[hl]; exact ha.c1,by show cs.length<=4; rw[hl]; exact ha.c2,ha.t,ha.tree,hu,fun k a b=>by
  have:=ha.grp k a b;refine⟨this.1,fun hu=>?_⟩;have hg:=this.2 hu
  exact⟨hg.w1,hg.w2,hg.m,hg.m0,hg.s,by show (gi W.groups k).shelves.length=cs.length; rw[hl]; exact hg.len,hg.root,hg.none,fun q=>by
   have:=hg.band q;exact⟨this.1,by show (gi W.groups k).band.locals.length=cs.length; rw[hl]; exact this.2.1,this.2.2⟩⟩⟩
theorem SW.endW{K:Int}{W:Q7}(h:SW K W){c:Int}(c0:0<=c)(c1:c<(W.cpus.length:Int)):SW K (endW W c):=by
 have hl:(W.cpus.set c.toNat (Xd (gi W.cpus c))).length=W.cpus.length:=List.length_set;have hg:∀d:Int,0<=d->gi (W.cpus.set c.toNat (Xd (gi W.cpus c))) d=if c=d then Xd (gi W.cpus c) else gi W.cpus d:=fun d d0=>Qw _ _ c0 c1 d0
 refine⟨h.a.cp hl ?_,fun t a b n=>?_,h.tv,fun k d u a b=>?_,fun d a b=>?_⟩
 ·rw[ze0 hl fun j hj=>?_]
  ·exact h.a.ups
  ·rw[hg _ (by omega)];split
   ·rename_i e; rw[e]; rfl
   ·rfl
 ·show _/\_/\_<(((W.cpus.set c.toNat (Xd (gi W.cpus c))).length:Nat):Int);rw[hl];exact h.t t a b n
 ·have b:d<(((W.cpus.set c.toNat (Xd (gi W.cpus c))).length:Nat):Int):=b;rw[hl] at b;exact h.s k d u a b
 ·have b:d<(((W.cpus.set c.toNat (Xd (gi W.cpus c))).length:Nat):Int):=b;rw[hl] at b;show _<=(gi (W.cpus.set c.toNat (Xd (gi W.cpus c))) d).cur/\_;rw[show (gi (YtnclplgaicdapaaGreatDoor.endW W c).cpus d).cur=(gi (W.cpus.set c.toNat (Xd (gi W.cpus c))) d).cur from rfl,hg _ a];split
  ·exact⟨Int.le_refl _,show (-1:Int)<12 by decide⟩
  ·exact h.cu d a b
def MB(W:Q7)(c:Int):Bool:=decide ((gi W.cpus c).cur>=0)&&(((Q8 W (gi W.cpus c).cur).cpu != c) || !Zy W (gi W.cpus c).cur)
def Vu(W:Q7)(c:Int):Q7:=if MB (Zo (QN W c) c) c=true then endW (Zo (QN W c) c) c else Zo (QN W c) c
def JE(W:Q7):Nat->Q7
 | 0=>W
 | c+1=>Vu (JE W c) (c:Int)
def Qg(W:Q7):Q7:=JE (LE (YH W W.cpus.length)) W.cpus.length
structure Fr (W W':Q7):Prop where
 n:W'.now=W.now
 c:W'.cpus.length=W.cpus.length
 t:W'.tasks=W.tasks
 g:QS W.groups W'.groups
theorem Fr.refl(W:Q7):Fr W W:=⟨rfl,rfl,rfl,QS.refl _⟩
theorem Fr.trans{A B C:Q7}(h:Fr A B)(k:Fr B C):Fr A C:=⟨k.n.trans h.n,k.c.trans h.c,k.t.trans h.t,h.g.trans k.g⟩
theorem Jv.fr{W W':Q7}(h:Jv W W'):Fr W W':=⟨h.n,by rw[h.c],h.t,h.g⟩
theorem UY.fr{W W':Q7}(h:UY W W'):Fr W W':=⟨h.n,by rw[h.c],h.t,h.g⟩
theorem NU(W:Q7)(c:Int):Fr W (endW W c):=⟨rfl,List.length_set,rfl,QS.refl _⟩
theorem zp7{K:Int}{W:Q7}(h:SW K W)(hK:0<=K){c:Int}(c0:0<=c)(c1:c<(W.cpus.length:Int)):SW (K+Qk) (Vu W c)/\Fr W (Vu W c):=by
 obtain⟨a1,b1⟩:=E8 (F:=K) (K:=K+Qk) (h.sf.mono (Int.le_refl _) (by simp only[Qk]; omega)) (Int.le_refl _) c0 c1;obtain⟨a2,b2⟩:=KT a1.w (by simp only[Qk]; omega) c0 (c:=c) (by rw[b1.c]; exact c1) 8 (by omega);have hf:=b1.fr.trans b2.fr;unfold Vu;split
 ·exact⟨SW.endW a2 c0 (by show c<((QY (QN W c) c 8).cpus.length:Int); rw[hf.c]; exact c1),hf.trans (NU _ _)⟩
 ·exact⟨a2,hf⟩
theorem KE{K:Int}{W:Q7}(h:SW K W)(hK:0<=K):∀c:Nat,c<=W.cpus.length->SW (K+(c:Int)*Qk) (JE W c)/\Fr W (JE W c)
 | 0,_=>⟨h.mono (by simp),Fr.refl _⟩
 | c+1,hc=>by
  obtain⟨a,b⟩:=KE h hK c (by omega);obtain⟨a2,b2⟩:=zp7 a (by simp only[Qk]; omega) (c:=(c:Int)) (by omega) (by rw[b.c]; omega);exact⟨a2.mono (by simp only[Qk]; omega),b.trans b2⟩
abbrev UL:Int:=5*Qk
theorem Tb{K:Int}{W:Q7}(h:SW K W)(hK:0<=K):SW (K+UL) (Qg W)/\Fr W (Qg W):=by
 obtain⟨a1,b1⟩:=Od (F:=K) (K:=K+Qk) (h.sf.mono (Int.le_refl _) (by simp only[Qk]; omega)) (Int.le_refl _) W.cpus.length (Nat.le_refl _);obtain⟨a2,b2⟩:=Tu a1 8 (by omega);have hf:=b1.fr.trans b2.fr;obtain⟨a3,b3⟩:=KE a2.w (by simp only[Qk]; omega) W.cpus.length (by show W.cpus.length<=(YP (YH W W.cpus.length) 8).cpus.length; rw[hf.c]; exact Nat.le_refl _);have:=h.a.c2;exact⟨a3.mono (by simp only[Qk,UL]; omega),hf.trans b3⟩
abbrev Qp:Int:=50000000000000000
structure Lx (W:Q7):Prop where
 n:W.now<=Qp
 c:∀c:Int,0<=c->c<(W.cpus.length:Int)->(gi W.cpus c).busy<=Qp/\(gi W.cpus c).idle<=Qp
 t:∀t:Int,0<=t->t<(W.tasks.length:Int)->(gi W.tasks t).v<=Qp/\(gi W.tasks t).sum<=Qp/\(gi W.tasks t).used<=Qp
 g:∀k:Int,0<=k->k<(W.groups.length:Int)->(gi W.groups k).sum<=Qp
 s:∀k c:Int,0<=k->k<(W.groups.length:Int)->0<=c->c<((gi W.groups k).shelves.length:Int)->(Qc W k c).floor<=Qp/\(Qc W k c).v<=Qp/\(Qc W k c).sum<=Qp
noncomputable def QK(W:Q7):Bool:=Jr (Lx W)
theorem OT{W:Q7}(wp:Xs W)(r:Lx W):SW Qp W:=by
 have ht:=wp.a.t;have hg:=wp.a.gl;refine⟨wp.a,fun t t0 t1 n=>?_,fun t t0 t1=>?_,fun k c u c0 c1=>?_,fun c c0 c1=>?_⟩
 ·rcases wp.t t t0 t1 with h | h
  ·exact absurd h.1 n
  ·exact⟨h.2.g,Ka wp.a h.2.c⟩
 ·refine⟨?_,(r.t t t0 (by omega)).1⟩;rcases wp.t t t0 t1 with h | h
  ·rw[h.2]; exact Int.le_refl _
  ·exact(ZY.1 h.2.v).1
 ·obtain⟨u0,u1,_⟩:=Q5.1 u;have hl:=wp.a.sl u;have hs:=wp.s k c u0 (by omega) c0 (by omega);have hr:=r.s k c u0 u1 c0 (by omega);exact⟨(ZY.1 hs.f).1,hr.1,(ZY.1 hs.v).1,hr.2.1,hs.w1,hs.w2⟩
 ·have hc:=wp.c c c0 c1;have h1:=hc.c1;have h2:=hc.c2;omega
theorem WA.tk{W:Q7}(ha:WA W){ts:List P5}(hl:ts.length=W.tasks.length):WA { W with tasks:=ts }:=
 ⟨ha.n1,ha.n2,ha.c1,ha.c2,by show ts.length=12; rw[hl]; exact ha.t,ha.tree,ha.ups,fun k a b=>by
  have:=ha.grp k a b;refine⟨this.1,fun hu=>?_⟩;have hg:=this.2 hu;exact⟨hg.w1,hg.w2,hg.m,hg.m0,hg.s,hg.len,hg.root,hg.none,hg.band⟩⟩
theorem SW.setTk{K:Int}{W:Q7}(h:SW K W){t:Int}(t0:0<=t)(t1:t<12){x:P5}(hx:x.state≠0->Q6 W.groups x.group=true/\0<=x.cpu/\x.cpu<(W.cpus.length:Int))(v0:0<=x.v)(v1:x.v<=K):SW K (setTk W t x):=by
 have hl:=h.a.t;have e:∀i:Int,0<=i->Q8 (YtnclplgaicdapaaGreatDoor.setTk W t x) i=if t=i then x else Q8 W i:=fun i i0=>Qw _ _ t0 (by omega) i0
 refine⟨h.a.tk List.length_set,fun i a b n=>?_,fun i a b=>?_,h.s,h.cu⟩
 ·rw[e i a] at n ⊢;split
  ·rename_i he; rw[if_pos he] at n; exact hx n
  ·rename_i he; rw[if_neg he] at n; exact h.t i a b n
 ·rw[e i a];split
  ·exact⟨v0,v1⟩
  ·exact h.tv i a b
def Pi:Q7:=⟨0,[],[],[]⟩
def zqq:MW:=⟨none,0,none,0,none,0,fun _=>⟨none,0,none,0,none,0⟩⟩
noncomputable def YG(W:Q7)(bar:Int)(W':Q7):Q7×Int:=if Qv W=false then (Pi,1) else if bar≠0 then (W,bar) else (W',0)
theorem zc3{W W':Q7}{bar:Int}(h:Qv W=false):YG W bar W'=(Pi,1):=if_pos h
theorem zc4{W W':Q7}{bar:Int}(h:Qv W=true)(hb:bar≠0):YG W bar W'=(W,bar):=by unfold YG; rw[if_neg (by rw[h]; decide),if_pos hb]
theorem zhp{W W':Q7}{bar:Int}(h:Qv W=true)(hb:bar=0):YG W bar W'=(W',0):=by unfold YG; rw[if_neg (by rw[h]; decide),if_neg (by simpa using hb)]
def ZT(W:Q7)(t:Int):Bool:=Yo t 0 ((W.tasks.length:Int)-1)&&((Q8 W t).state != 0)
theorem YB{W:Q7}{t:Int}(h:ZT W t=true):0<=t/\t<(W.tasks.length:Int)/\(Q8 W t).state≠0:=by
 unfold ZT at h;simp only[Bool.and_eq_true,bne_iff_ne,ne_eq] at h;have:=Qo.1 h.1;exact⟨by omega,by omega,h.2⟩
noncomputable def V2(W:Q7)(t:Int):Int:=if ZT W t=false then 2 else if (Q8 W t).state≠1 then 6 else if QK W=false then 10 else 0
def zdd(W:Q7)(t:Int):Q7:=Qg (setTk W t { Q8 W t with state:=2 })
theorem zfg{W:Q7}{t:Int}(hW:Qv W=true)(hb:V2 W t=0):ZT W t=true/\(Q8 W t).state=1/\SW Qp W/\SW Qp (setTk W t { Q8 W t with state:=2 }):=by
 have wp:=Qh.1 hW;unfold V2 at hb
 split at hb
 ·cases hb
 ·rename_i h1
  split at hb
  ·cases hb
  ·rename_i h2
   split at hb
   ·cases hb
   ·rename_i h3;have h1:ZT W t=true:=by simpa using h1
    have h2:(Q8 W t).state=1:=by simpa using h2
    have h3:QK W=true:=by simpa using h3
    have sw:=OT wp (Qh.1 h3);obtain⟨t0,t1,n⟩:=YB h1;have hl:=wp.a.t;have hv:=sw.tv t t0 (by omega);exact⟨h1,h2,sw,sw.setTk t0 (by omega) (fun _=>sw.t t t0 (by omega) n) hv.1 hv.2⟩
theorem Jp.same{α:Type}{enc:α->List Va}{z:Nat}{ty:TypeId}{base:Nat}{w:Wo}{o:OA}{cap:Nat}{l l':List α}(h:Jp enc z ty base w o cap l)(he:l'.flatMap enc=l.flatMap enc)(hl:l'.length=l.length):Jp enc z ty base w o cap l':=by
 rcases h with ⟨h1,rfl,h3⟩ | ⟨b,sp,rfl,h1,h2,h3,h4⟩
 ·exact .inl ⟨h1,List.eq_nil_of_length_eq_zero hl,h3⟩
 ·exact .inr ⟨b,sp,rfl,h1,by rw[he]; exact h2,by rw[he]; exact h3,by omega⟩
theorem LD{α:Type}{enc:α->List Va}:∀(l:List α) (i:Nat) (x:α),(∀y,l[i]? = some y->enc x=enc y)->(l.set i x).flatMap enc=l.flatMap enc
 | [],_,_,_=>rfl
 | y::r,0,x,h=>by simp only[List.set_cons_zero,List.flatMap_cons]; rw[h y rfl]
 | y::r,i+1,x,h=>by
  simp only[List.set_cons_succ,List.flatMap_cons];rw[LD r i x fun z hz=>h z (by simpa using hz)]
theorem ztz{α:Type}[Inhabited α]{l:List α}{i:Int}(h0:0<=i)(hi:i<(l.length:Int)):l[i.toNat]? = some (gi l i):=by
 obtain⟨k,rfl⟩:=Int.eq_ofNat_of_zero_le h0;rw[Int.toNat_natCast];exact zrf (by omega)
section
variable {base:Nat}{w w':Wo}{o:OA}{cap:Nat}{ps:List (ZA×MG)}
theorem M9.foreign{α:Type}{enc:α->List Va}{z:Nat}{ty:TypeId}{base' cap':Nat}{o':OA}{l:List α}(h:M9 base w o cap ps)(h':Jp enc z ty base' w o' cap' l)(n1:QC≠ty)(n2:Qb≠ty)(n3:ZR≠ty)(n4:Zm≠ty)(hx:Q0 (Qy o') w w'):M9 base w' o cap ps:=
 ⟨h.row.ext hx (h.row.ty_ne h' n1),fun i a b=>(h.each i a b).ext hx fun x hm=>by
  simp only[Ql,List.mem_append] at hm;rcases hm with (hm | hm) | hm
  ·exact(h.each i a b).loc.ty_ne h' n2 x hm
  ·exact(h.each i a b).dry.ty_ne h' n3 x hm
  ·exact(h.each i a b).shl.ty_ne h' n4 x hm,h.dj⟩
theorem M9.sto(h:M9 base w o cap ps){i:Int}(h0:0<=i)(hi:i<(ps.length:Int)){p:ZA×MG}(hp:O3 base w p)(hd:∀j:Int,0<=j->j<(ps.length:Int)->i≠j->∀b∈Ql (gi ps j).2,b∉Ql p.2){j:Nat}{vs:List Va}(he:VE p=(VE (gi ps i)).take j++vs++(VE (gi ps i)).drop (j+vs.length))(hj:j+vs.length<=14):M9 base (YtnclplgaicdapaaGreatDoor.sto w o (Int.toNat i*14+j) vs) o cap (ps.set i.toNat p):=by
 have hx:=h.row.stoX (Int.toNat i*14+j) vs;have hlen:(ps.set i.toNat p).length=ps.length:=List.length_set;refine⟨h.row.sto ZJ.len h0 hi he hj,fun k hk hkl=>?_,fun a k ha hal hk hkl hak b hb hb'=>?_⟩
 ·rw[hlen] at hkl;rw[Qw _ _ h0 hi hk];split
  ·exact hp.ext hx (Xj h.row hp)
  ·exact(h.each k hk hkl).ext hx (Xj h.row (h.each k hk hkl))
 ·rw[hlen] at hal hkl;rw[Qw _ _ h0 hi ha] at hb;rw[Qw _ _ h0 hi hk] at hb'
  by_cases e1:i=a
  ·rw[if_pos e1] at hb
   by_cases e2:i=k
   ·omega
   ·rw[if_neg e2] at hb';exact hd k hk hkl e2 b hb' hb
  ·rw[if_neg e1] at hb
   by_cases e2:i=k
   ·rw[if_pos e2] at hb';exact hd a ha hal e1 b hb hb'
   ·rw[if_neg e2] at hb';exact h.dj a k ha hal hk hkl hak b hb hb'
theorem M9.in(h:M9 base w o cap ps){i:Int}(h0:0<=i)(hi:i<(ps.length:Int)){p:ZA×MG}{bs:List Nat}(hx:Q0 bs w w')(hb:∀x∈bs,x∈Ql (gi ps i).2)(hp:O3 base w' p)(hm:p.2=(gi ps i).2)(he:VE p=VE (gi ps i)):M9 base w' o cap (ps.set i.toNat p):=by
 have hlen:(ps.set i.toNat p).length=ps.length:=List.length_set;refine⟨?_,fun k hk hkl=>?_,fun a k ha hal hk hkl hak b hb1 hb'=>?_⟩
 ·refine(h.row.ext hx fun b hb1 hb2=>Xj h.row (h.each i h0 hi) b (hb b hb2) hb1).same (LD _ _ _ fun y hy=>?_) hlen;rw[ztz h0 hi] at hy;cases hy;exact he
 ·rw[hlen] at hkl;rw[Qw _ _ h0 hi hk];split
  ·exact hp
  ·rename_i hne;exact(h.each k hk hkl).ext hx fun b hb1 hb2=>h.dj i k h0 hi hk hkl hne b (hb b hb2) hb1
 ·rw[hlen] at hal hkl;rw[Qw _ _ h0 hi ha] at hb1;rw[Qw _ _ h0 hi hk] at hb'
  have e1:b∈Ql (gi ps a).2:=by
   by_cases e:i=a
   ·rw[if_pos e,hm,e] at hb1; exact hb1
   ·rw[if_neg e] at hb1; exact hb1
  have e2:b∈Ql (gi ps k).2:=by
   by_cases e:i=k
   ·rw[if_pos e,hm,e] at hb'; exact hb'
   ·rw[if_neg e] at hb'; exact hb'
  exact h.dj a k ha hal hk hkl hak b e1 e2
end
def zix(W:Q7)(m:MW):List (ZA×MG):=(List.range W.groups.length).map fun (k:Nat)=>(gi W.groups (k:Int),m.ms k)
theorem Xl(W:Q7)(m:MW):(zix W m).length=W.groups.length:=by simp[zix]
theorem Vt{W:Q7}{m:MW}{i:Int}(h0:0<=i)(hi:i<(W.groups.length:Int)):gi (zix W m) i=(gi W.groups i,m.ms i.toNat):=by
 obtain⟨k,rfl⟩:=Int.eq_ofNat_of_zero_le h0;rw[J0 (by rw[Xl]; omega)];simp[zix]
def QB(n:Nat)(m:MW):List Nat:=Qy m.cO++Qy m.tO++Qy m.gO++(List.range n).flatMap fun (k:Nat)=>Ql (m.ms k)
structure Y1 (n base:Nat) (w:Wo) (W:Q7) (m:MW):Prop where
 c:Jp P0 5 Z1 base w m.cO m.cC W.cpus
 t:Jp YM 9 QD base w m.tO m.tC W.tasks
 g:M9 base w m.gO m.gC (zix W m)
 len:W.groups.length=n
section
variable {n base:Nat}{w w':Wo}{W:Q7}{m:MW}{bs:List Nat}
theorem Ee{x:Nat}(h:x∈Qy m.cO):x∈QB n m:=by simp[QB,h]
theorem Eg{x:Nat}(h:x∈Qy m.tO):x∈QB n m:=by simp[QB,h]
theorem Ef{x:Nat}(h:x∈Qy m.gO):x∈QB n m:=by simp[QB,h]
theorem JB{x k:Nat}(hk:k<n)(h:x∈Ql (m.ms k)):x∈QB n m:=by
 unfold QB;exact List.mem_append_right _ (List.mem_flatMap.2 ⟨k,List.mem_range.2 hk,h⟩)
theorem F1{x:Nat}(h:x∈QB n m):x∈Qy m.cO\/x∈Qy m.tO\/x∈Qy m.gO\/∃k,k<n/\x∈Ql (m.ms k):=by
 unfold QB at h;simp only[List.mem_append,List.mem_flatMap,List.mem_range] at h;rcases h with ((h | h) | h) | ⟨k,hk,h⟩
 ·exact .inl h
 ·exact .inr (.inl h)
 ·exact .inr (.inr (.inl h))
 ·exact .inr (.inr (.inr ⟨k,hk,h⟩))
theorem Y1.each(h:Y1 n base w W m){i:Int}(h0:0<=i)(hi:i<(n:Int)):O3 base w (gi W.groups i,m.ms i.toNat):=by
 have:=h.g.each i h0 (by rw[Xl,h.len]; exact hi)
 rwa[Vt h0 (by rw[h.len]; exact hi)] at this
theorem Y1.lt(h:Y1 n base w W m):∀x∈QB n m,base<=x/\x<w.heap.size:=fun x hx=>by
 rcases F1 hx with hx | hx | hx | ⟨k,hk,hx⟩
 ·exact h.c.lt x hx
 ·exact h.t.lt x hx
 ·exact h.g.row.lt x hx
 ·exact(h.each (i:=(k:Int)) (by omega) (by omega)).lt x (by simpa using hx)
theorem Y1.ext(h:Y1 n base w W m)(hx:Q0 bs w w')(hd:∀x∈QB n m,x∉bs):Y1 n base w' W m:=
 ⟨h.c.ext hx fun b hb=>hd b (Ee hb),h.t.ext hx fun b hb=>hd b (Eg hb),
  ⟨h.g.row.ext hx fun b hb=>hd b (Ef hb),fun i a b=>by
   have b':i<(W.groups.length:Int):=by rw[Xl] at b; exact b
   have hl:=h.len;refine(h.g.each i a b).ext hx fun x hm=>?_
   rw[Vt a b'] at hm;exact hd x (JB (by omega) hm),h.g.dj⟩,h.len⟩
theorem Y1.ext0(h:Y1 n base w W m)(hx:Q0 [] w w'):Y1 n base w' W m:=h.ext hx (by simp)
theorem Y1.mono{base':Nat}(h:Y1 n base w W m)(hb:base'<=base):Y1 n base' w W m:=⟨h.c.mono hb,h.t.mono hb,h.g.mono hb,h.len⟩
theorem Y1.rd(h:Y1 n base w W m)(hd:∀x∈QB n m,x∉bs):YZ bs w W m:=by
 have hl:=h.len;refine⟨h.c.rd Mf.len fun b hb=>hd b (Ee hb),h.t.rd Tp.len fun b hb=>hd b (Eg hb),⟨fun i h0 hi=>?_,fun i h0 hi=>?_,fun i h0 hi=>?_,fun i h0 hi=>?_⟩⟩
 ·have:=h.g.row.rd ZJ.len (bs:=bs) (fun b hb=>hd b (Ef hb)) i h0 (by rw[Xl]; exact hi)
  rwa[Vt h0 hi] at this
 ·exact(h.each h0 (by omega)).loc.rd ZW.len fun b hb=>hd b (JB (k:=i.toNat) (by omega) (by simp[Ql]; exact .inl hb))
 ·exact(h.each h0 (by omega)).dry.rd Ys.len fun b hb=>hd b (JB (k:=i.toNat) (by omega) (by simp[Ql]; exact .inr (.inl hb)))
 ·exact(h.each h0 (by omega)).shl.rd UQ.len fun b hb=>hd b (JB (k:=i.toNat) (by omega) (by simp[Ql]; exact .inr (.inr hb)))
theorem Y1.stoT(h:Y1 n base w W m){i:Int}(h0:0<=i)(hi:i<(W.tasks.length:Int)){j:Nat}{vs:List Va}{x:P5}(he:YM x=(YM (gi W.tasks i)).take j++vs++(YM (gi W.tasks i)).drop (j+vs.length))(hj:j+vs.length<=9) :
  Y1 n base (sto w m.tO (Int.toNat i*9+j) vs) { W with tasks:=W.tasks.set i.toNat x } m:=
 ⟨h.c.ext (h.t.stoX _ _) (h.c.ty_ne h.t (by decide)),h.t.sto Tp.len h0 hi he hj,h.g.foreign h.t (by decide) (by decide) (by decide) (by decide) (h.t.stoX _ _),h.len⟩
theorem Y1.stoC(h:Y1 n base w W m){i:Int}(h0:0<=i)(hi:i<(W.cpus.length:Int)){j:Nat}{vs:List Va}{x:OY}(he:P0 x=(P0 (gi W.cpus i)).take j++vs++(P0 (gi W.cpus i)).drop (j+vs.length))(hj:j+vs.length<=5) :
  Y1 n base (sto w m.cO (Int.toNat i*5+j) vs) { W with cpus:=W.cpus.set i.toNat x } m:=
 ⟨h.c.sto Mf.len h0 hi he hj,h.t.ext (h.c.stoX _ _) (h.t.ty_ne h.c (by decide)),h.g.foreign h.c (by decide) (by decide) (by decide) (by decide) (h.c.stoX _ _),h.len⟩
def Oc(m:MW)(k:Nat)(p:MG):MW:={ m with ms:=fun j=>if k=j then p else m.ms j }
theorem zcd(m:MW)(k:Nat):Oc m k (m.ms k)=m:=by
 unfold Oc
 have:(fun j=>if k=j then m.ms k else m.ms j)=m.ms:=by
  funext j
  split
  ·rename_i e; rw[e]
  ·rfl
 rw[this]
theorem zeo{i:Int}(h0:0<=i)(hi:i<(W.groups.length:Int))(g:ZA)(p:MG):zix { W with groups:=W.groups.set i.toNat g } (Oc m i.toNat p)=(zix W m).set i.toNat (g,p):=by
 refine zia (by rw[Xl,List.length_set,List.length_set,Xl]) fun k hk=>?_
 rw[Xl,List.length_set] at hk;rw[Vt (by omega) (by rw[List.length_set]; omega),Qw _ _ h0 hi (by omega),Qw _ _ h0 (by rw[Xl]; exact hi) (by omega)];simp only[Oc]
 by_cases e:i=(k:Int)
 ·rw[if_pos e,if_pos e,if_pos (by omega)]
 ·rw[if_neg e,if_neg e,if_neg (by omega),Vt (by omega) (by omega)]
theorem Y1.foreignM{p:MG}(h:Y1 n base w W m){i:Int}(hn:∀x∈Ql p,x∉QB n m\/x∈Ql (m.ms i.toNat))(h0:0<=i)(hi:i<(n:Int)):∀j:Int,0<=j->j<((zix W m).length:Int)->i≠j->∀b∈Ql (gi (zix W m) j).2,b∉Ql p:=fun j hj hjl hij b hb hb'=>by
 have hl:=h.len;rw[Xl] at hjl;have hb2:=hb;rw[Vt hj hjl] at hb;rcases hn b hb' with h1 | h1
 ·exact h1 (JB (by omega) hb)
 ·have:=h.g.dj i j h0 (by rw[Xl]; omega) hj (by rw[Xl]; exact hjl) hij b (by rw[Vt h0 (by omega)]; exact h1);exact this hb2
theorem Y1.stoG(h:Y1 n base w W m){i:Int}(h0:0<=i)(hi:i<(n:Int)){g:ZA}{p:MG}(hp:O3 base w (g,p))(hn:∀x∈Ql p,x∉QB n m\/x∈Ql (m.ms i.toNat)){j:Nat}{vs:List Va}(he:Yc g p=(Yc (gi W.groups i) (m.ms i.toNat)).take j++vs++(Yc (gi W.groups i) (m.ms i.toNat)).drop (j+vs.length))(hj:j+vs.length<=14) :
  Y1 n base (sto w m.gO (Int.toNat i*14+j) vs) { W with groups:=W.groups.set i.toNat g } (Oc m i.toNat p):=by
 have hl:=h.len;have hx:=h.g.row.stoX (Int.toNat i*14+j) vs;refine⟨h.c.ext hx (h.c.ty_ne h.g.row (by decide)),h.t.ext hx (h.t.ty_ne h.g.row (by decide)),?_,by rw[List.length_set]; exact hl⟩;have:=h.g.sto h0 (by rw[Xl]; omega) hp (h.foreignM hn h0 hi) (j:=j) (vs:=vs) (by rw[Vt h0 (by omega)]; exact he) hj;rw[zeo h0 (by omega)];exact this
theorem Y1.stoG0(h:Y1 n base w W m){i:Int}(h0:0<=i)(hi:i<(n:Int)){g:ZA}(e1:g.band.locals=(gi W.groups i).band.locals)(e2:g.band.dry=(gi W.groups i).band.dry)(e3:g.shelves=(gi W.groups i).shelves){j:Nat}{vs:List Va}(he:Yc g (m.ms i.toNat)=(Yc (gi W.groups i) (m.ms i.toNat)).take j++vs++(Yc (gi W.groups i) (m.ms i.toNat)).drop (j+vs.length))(hj:j+vs.length<=14) :
  Y1 n base (sto w m.gO (Int.toNat i*14+j) vs) { W with groups:=W.groups.set i.toNat g } m:=by
 have hm:=h.each h0 hi;have:=h.stoG h0 hi (g:=g) (p:=m.ms i.toNat) ⟨by rw[e1]; exact hm.loc,by rw[e2]; exact hm.dry,by rw[e3]; exact hm.shl⟩ (fun x hx=>.inr hx) he hj
 rwa[zcd] at this
theorem Y1.in(h:Y1 n base w W m){i:Int}(h0:0<=i)(hi:i<(n:Int)){g:ZA}(hx:Q0 bs w w')(hb:∀x∈bs,x∈Ql (m.ms i.toNat))(hp:O3 base w' (g,m.ms i.toNat))(he:Yc g (m.ms i.toNat)=Yc (gi W.groups i) (m.ms i.toNat)) :
  Y1 n base w' { W with groups:=W.groups.set i.toNat g } m:=by
 have hl:=h.len;have hmi:=h.each h0 hi
 have hf:∀{α:Type} {enc:α->List Va} {z:Nat} {ty:TypeId} {base' cap':Nat} {o':OA} {l:List α},Jp enc z ty base' w o' cap' l->ty≠Qb->ty≠ZR->ty≠Zm->∀b∈Qy o',b∉bs:=fun ho n1 n2 n3 b hb1 hb2=>by
  have hm:=hb b hb2;simp only[Ql,List.mem_append] at hm;rcases hm with (hm | hm) | hm
  ·exact ho.ty_ne hmi.loc n1 b hb1 hm
  ·exact ho.ty_ne hmi.dry n2 b hb1 hm
  ·exact ho.ty_ne hmi.shl n3 b hb1 hm
 refine⟨h.c.ext hx (hf h.c (by decide) (by decide) (by decide)),h.t.ext hx (hf h.t (by decide) (by decide) (by decide)),?_,by rw[List.length_set]; exact hl⟩;have:=h.g.in h0 (by rw[Xl]; omega) (p:=(g,m.ms i.toNat)) hx (by rw[Vt h0 (by omega)]; exact hb) hp (by rw[Vt h0 (by omega)]) (by rw[Vt h0 (by omega)]; exact he);have hs:=zeo (m:=m) h0 (W:=W) (by omega) g (m.ms i.toNat);rw[zcd] at hs;rw[hs];exact this
theorem zsp(W:Q7)(i:Int)(c:Int)(x:Mx)(mg:MG):Yc { gi W.groups i with shelves:=(gi W.groups i).shelves.set c.toNat x } mg=Yc (gi W.groups i) mg:=by
 simp[Yc]
theorem Y1.stoS(h:Y1 n base w W m){i c:Int}(h0:0<=i)(hi:i<(n:Int))(c0:0<=c)(c1:c<((gi W.groups i).shelves.length:Int)){j:Nat}{vs:List Va}{x:Mx}(he:P1 x=(P1 (gi (gi W.groups i).shelves c)).take j++vs++(P1 (gi (gi W.groups i).shelves c)).drop (j+vs.length))(hj:j+vs.length<=5) :
  Y1 n base (sto w (m.ms i.toNat).sO (Int.toNat c*5+j) vs) { W with groups:=W.groups.set i.toNat { gi W.groups i with shelves:=(gi W.groups i).shelves.set c.toNat x } } m:=by
 have hm:=h.each h0 hi;have hx:=hm.shl.stoX (Int.toNat c*5+j) vs;exact h.in h0 hi hx (fun x hx=>by simp[Ql]; exact .inr (.inr hx)) ⟨hm.loc.ext hx (hm.loc.ty_ne hm.shl (by decide)),hm.dry.ext hx (hm.dry.ty_ne hm.shl (by decide)),hm.shl.sto UQ.len c0 c1 he hj⟩ (zsp _ _ _ _ _)
end
structure Mv (n base:Nat) (bs:List Nat) (w0:Wo) (m0:MW) (w:Wo) (W:Q7) (m:MW):Prop where
 own:Y1 n base w W m
 ext:Q0 (QB n m0) w0 w
 sub:∀x∈QB n m,x∈QB n m0\/w0.heap.size<=x
 hd:m={ m0 with ms:=m.ms }
 nb:∀x∈QB n m,x∉bs
 new:∀x∈bs,w0.heap.size<=x
section
variable {n base:Nat}{bs cs:List Nat}{w0 w w':Wo}{W W':Q7}{m0 m m':MW}{b:Nat}
theorem Mv.start(h:Y1 n base w W m):Mv n base [] w m w W m:=⟨h,Q0.refl _ _,fun x hx=>.inl hx,rfl,by simp,by simp⟩
theorem Mv.add(h:Mv n base bs w0 m0 w W m)(hb:w.heap.size<=b):Mv n base (bs++[b]) w0 m0 w W m:=⟨h.own,h.ext,h.sub,h.hd,fun x hx hm=>by
 rcases List.mem_append.1 hm with hm | hm
 ·exact h.nb x hx hm
 ·have:x=b:=by simpa using hm
  have:=(h.own.lt x hx).2;omega,fun x hm=>by
 rcases List.mem_append.1 hm with hm | hm
 ·exact h.new x hm
 ·have:x=b:=by simpa using hm
  have:=h.ext.size;omega⟩
theorem Mv.sub'(h:Mv n base bs w0 m0 w W m)(hs:∀x∈cs,x∈bs):Mv n base cs w0 m0 w W m:=⟨h.own,h.ext,h.sub,h.hd,fun x hx hm=>h.nb x hx (hs x hm),fun x hm=>h.new x (hs x hm)⟩
theorem Mv.close(h:Mv n base bs w0 m0 w W m):Mv n base [] w0 m0 w W m:=h.sub' (by simp)
theorem Mv.step(h:Mv n base bs w0 m0 w W m)(hx:Q0 bs w w'):Mv n base bs w0 m0 w' W m:=⟨h.own.ext hx h.nb,h.ext.fresh hx fun x hm=>.inl (h.new x hm),h.sub,h.hd,h.nb,h.new⟩
theorem Mv.call0(h:Mv n base bs w0 m0 w W m)(hx:Q0 [] w w'):Mv n base bs w0 m0 w' W m:=⟨h.own.ext0 hx,h.ext.trans hx.of_nil,h.sub,h.hd,h.nb,h.new⟩
theorem Mv.call(h:Mv n base bs w0 m0 w W m)(k:Mv n base [] w m w' W' m')(hs:∀x∈bs,x<w.heap.size):Mv n base bs w0 m0 w' W' m':=
 ⟨k.own,h.ext.fresh k.ext fun x hm=>(h.sub x hm).symm,fun x hx=>by
  rcases k.sub x hx with h1 | h1
  ·exact h.sub x h1
  ·have:=h.ext.size;exact .inr (by omega),by rw[k.hd,h.hd],fun x hx hm=>by
  rcases k.sub x hx with h1 | h1
  ·exact h.nb x h1 hm
  ·have:=hs x hm;omega,h.new⟩
theorem Mv.deed(h:Mv n base bs w0 m0 w W m)(k:Y1 n base w' W' m)(hx:Q0 (QB n m) w w'):Mv n base bs w0 m0 w' W' m:=
 ⟨k,h.ext.fresh hx fun x hm=>(h.sub x hm).symm,h.sub,h.hd,h.nb,h.new⟩
theorem Mv.kept(h:Mv n base bs w0 m0 w W m)(k:Mv n base [] w m w' W' m')(hs:∀x∈bs,x<w.heap.size):Q9 bs w w':=fun x hm=>k.ext.block x (hs x hm) fun hm'=>h.nb x hm' hm
theorem Mv.rd(h:Mv n base bs w0 m0 w W m):YZ bs w W m:=h.own.rd h.nb
theorem Mv.rd0(h:Mv n base bs w0 m0 w W m):YZ [] w W m:=h.own.rd (by simp)
theorem Mv.trans{w1:Wo}{W1:Q7}{m1:MW}(h:Mv n base [] w0 m0 w W m)(k:Mv n base [] w m w1 W1 m1):Mv n base [] w0 m0 w1 W1 m1:=h.call k (by simp)
theorem Mv.encW_eq(h:Mv n base bs w0 m0 w W m){W0:Q7}(e0:W.now=W0.now)(e1:W.cpus.length=W0.cpus.length)(e2:W.tasks.length=W0.tasks.length)(e3:W.groups.length=W0.groups.length):Qa W m=Qa W0 m0:=by
 rw[h.hd];simp only[Qa,e0,e1,e2,e3]
end
structure OW (n base:Nat) (bs:List Nat) (w:Wo) (W:Q7) (m:MW):Prop where
 own:Y1 n base w W m
 nb:∀x∈QB n m,x∉bs
section
variable {n base:Nat}{bs cs:List Nat}{w w':Wo}{W:Q7}{m:MW}{b:Nat}
theorem OW.of(h:Y1 n base w W m)(hs:∀x∈bs,x<base):OW n base bs w W m:=⟨h,fun x hx hm=>by
 have:=(h.lt x hx).1;have:=hs x hm;omega⟩
theorem OW.step(h:OW n base bs w W m)(hx:Q0 bs w w'):OW n base bs w' W m:=⟨h.own.ext hx h.nb,h.nb⟩
theorem OW.call0(h:OW n base bs w W m)(hx:Q0 [] w w'):OW n base bs w' W m:=⟨h.own.ext0 hx,h.nb⟩
theorem OW.call(h:OW n base bs w W m)(hx:Q0 cs w w')(hd:∀x∈QB n m,x∉cs):OW n base bs w' W m:=⟨h.own.ext hx hd,h.nb⟩
theorem OW.add(h:OW n base bs w W m)(hb:w.heap.size<=b):OW n base (bs++[b]) w W m:=⟨h.own,fun x hx hm=>by
 rcases List.mem_append.1 hm with hm | hm
 ·exact h.nb x hx hm
 ·have:x=b:=by simpa using hm
  have:=(h.own.lt x hx).2;omega⟩
theorem OW.put(h:OW n base bs w W m)(hx:Q0 bs w w')(hb:w.heap.size<=b):OW n base (bs++[b]) w' W m:=⟨(h.step hx).own,(h.add hb).nb⟩
theorem OW.put2{b2:Nat}(h:OW n base bs w W m)(hx:Q0 bs w w')(hb:w.heap.size<=b)(hb2:w.heap.size<=b2):OW n base (bs++[b]++[b2]) w' W m:=⟨(h.step hx).own,((h.add hb).add hb2).nb⟩
theorem OW.sub(h:OW n base bs w W m)(hs:∀x∈cs,x∈bs):OW n base cs w W m:=⟨h.own,fun x hx hm=>h.nb x hx (hs x hm)⟩
theorem OW.mono{base':Nat}(h:OW n base bs w W m)(hb:base'<=base):OW n base' bs w W m:=⟨h.own.mono hb,h.nb⟩
theorem OW.rd(h:OW n base bs w W m):YZ bs w W m:=h.own.rd h.nb
theorem OW.rd0(h:OW n base bs w W m):YZ [] w W m:=h.own.rd (by simp)
end
def JR(b:Jb):Jb:=⟨b.quota,b.quota,0,List.replicate b.dry.length 0,List.replicate b.dry.length false⟩
def YA(b:Jb)(c:Int):Jb×Int:=
 if gi b.locals c>0 then (b,0)
 else (⟨b.quota,b.pool-ZX 20 b.pool,b.spent,b.locals.set c.toNat (ZX 20 b.pool),b.dry.set c.toNat (ZX 20 b.pool==0)⟩,if ZX 20 b.pool=0 then 2 else 0)
def Tc(b:Jb)(c n:Int):Jb×Int:=
 if n<1\/n>gi b.locals c then (b,3) else ({ b with spent:=b.spent+n,locals:=b.locals.set c.toNat (gi b.locals c-n) },0)
def YC(b:Jb)(op:zs1):Jb×Int:=
 if op.kind=4 then (JR b,0)
 else if Yo op.at' 0 ((b.locals.length:Int)-1)=false then (b,1)
 else if op.kind=1 then YA b op.at'
 else if op.kind=2 then Tc b op.at' op.n
 else if op.kind=3 then (Yk b op.at',0)
 else (b,1)
structure QR (base:Nat) (w:Wo) (b:Jb) (p:MG):Prop where
 loc:Jp Xu 1 Qb base w p.lO p.lC b.locals
 dry:Jp Ol 1 ZR base w p.dO p.dC b.dry
def Zt(p:MG):List Nat:=Qy p.lO++Qy p.dO
theorem QR.lt{base:Nat}{w:Wo}{b:Jb}{p:MG}(h:QR base w b p):∀x∈Zt p,base<=x/\x<w.heap.size:=fun x hx=>by
 rcases List.mem_append.1 hx with hx | hx
 ·exact h.loc.lt x hx
 ·exact h.dry.lt x hx
theorem QR.ext{base:Nat}{w w':Wo}{b:Jb}{p:MG}{bs:List Nat}(h:QR base w b p)(hx:Q0 bs w w')(hd:∀x∈Zt p,x∉bs):QR base w' b p:=
 ⟨h.loc.ext hx fun x hm=>hd x (List.mem_append_left _ hm),h.dry.ext hx fun x hm=>hd x (List.mem_append_right _ hm)⟩
theorem QR.ext0{base:Nat}{w w':Wo}{b:Jb}{p:MG}(h:QR base w b p)(hx:Q0 [] w w'):QR base w' b p:=h.ext hx (by simp)
theorem QR.extB{base:Nat}{w w':Wo}{b:Jb}{p:MG}{bs:List Nat}(h:QR base w b p)(hx:Q0 bs w w')(hb:∀x∈bs,x<base):QR base w' b p:=h.ext hx fun x hm hm'=>by
 have:=(h.lt x hm).1;have:=hb x hm';omega
theorem QR.mono{base base':Nat}{w:Wo}{b:Jb}{p:MG}(h:QR base w b p)(hb:base'<=base):QR base' w b p:=⟨h.loc.mono hb,h.dry.mono hb⟩
theorem QR.stoL{base:Nat}{w:Wo}{b:Jb}{p:MG}(h:QR base w b p){c:Int}(c0:0<=c)(c1:c<(b.locals.length:Int))(x:Int):QR base (sto w p.lO (Int.toNat c*1) [.int .i64 x]) { b with locals:=b.locals.set c.toNat x } p:=
 ⟨h.loc.sto ZW.len c0 c1 (j:=0) (vs:=[.int .i64 x]) (x:=x) rfl (by simp),h.dry.ext (h.loc.stoX _ _) (h.dry.ty_ne h.loc (by decide))⟩
theorem QR.stoD{base:Nat}{w:Wo}{b:Jb}{p:MG}(h:QR base w b p){c:Int}(c0:0<=c)(c1:c<(b.dry.length:Int))(x:Bool):QR base (sto w p.dO (Int.toNat c*1) [.bool x]) { b with dry:=b.dry.set c.toNat x } p:=
 ⟨h.loc.ext (h.dry.stoX _ _) (h.loc.ty_ne h.dry (by decide)),h.dry.sto Ys.len c0 c1 (j:=0) (vs:=[.bool x]) (x:=x) rfl (by simp)⟩
theorem QR.xL{base:Nat}{w:Wo}{b:Jb}{p:MG}(h:QR base w b p)(n:Nat)(vs:List Va):Q0 (Zt p) w (sto w p.lO n vs):=(h.loc.stoX n vs).mono fun x hx=>List.mem_append_left _ hx
theorem QR.xD{base:Nat}{w:Wo}{b:Jb}{p:MG}(h:QR base w b p)(n:Nat)(vs:List Va):Q0 (Zt p) w (sto w p.dO n vs):=(h.dry.stoX n vs).mono fun x hx=>List.mem_append_right _ hx
section
variable {b:Jb}{m:MG}{w:Wo}
theorem KG{α:Type}[Inhabited α]{l:List α}{i:Nat}(h:i<l.length):l.take i++[gi l (i:Int)]=l.take (i+1):=by
 rw[List.take_succ_eq_append_getElem h,J0 h]
theorem HC(h1:zfa [] w m.lO b.locals)(h2:zjp [] w m.dO b.dry)(hd:b.dry.length=b.locals.length)(hl:b.locals.length<=1048576) :
  Cz Te #[.agg (QT b m).toArray] w fun e w'=>∃p,e=.returned (.agg (QT b p).toArray)/\QR w.heap.size w' b p/\Q0 [] w w':=by
 refine(zdq b.quota b.pool b.spent m.lO b.locals.length m.lC m.dO b.dry.length m.dC (R:=fun v w'=>∃p,v=.agg (QT b p).toArray/\QR w.heap.size w' b p/\Q0 [] w w') ?_).mono fun e w' ⟨v,he,p,hv,h3⟩=>⟨p,by rw[he,hv],h3⟩
 intro x hx0 x5 hx5 x6 hx6
 refine⟨fun vs w1=>∃(i:Nat) (p:MG),vs=[.int .i64 (i:Int),.int .i64 b.quota,.int .i64 b.pool,.int .i64 b.spent,.slice p.lO (b.locals.take i).length p.lC,.slice p.dO (b.dry.take i).length p.dC]/\i<=b.locals.length/\Sc w [x,x5,x6] w1/\Ob Xu 1 Qb w.heap.size [x,x5,x6] w1 p.lO p.lC (b.locals.take i)/\Ob Ol 1 ZR w.heap.size [x,x5,x6] w1 p.dO p.dC (b.dry.take i),
  Zu b.locals.length 0,fun wr hx _=>⟨0,⟨none,0,none,0,none,0⟩,by simp,Nat.zero_le _,(((Sc.start w).add hx0).add hx5 |>.add hx6).call0 hx,⟨.inl ⟨rfl,rfl,rfl⟩,by simp[Qy]⟩,⟨.inl ⟨rfl,rfl,rfl⟩,by simp[Qy]⟩⟩,?_⟩
 rintro c1 l l1 l2 l3O l3L l3C l4O l4L l4C wv hs ⟨i,p,he,hi,s1,hO,hD⟩;simp only[List.cons.injEq,Value.int.injEq,Value.slice.injEq,true_and,and_true] at he;obtain⟨rfl,rfl,rfl,rfl,⟨rfl,rfl,rfl⟩,rfl,rfl,rfl⟩:=he;refine⟨fun hlt=>?_,fun hge=>?_⟩
 ·have hlt:=Ot hlt;have hr1:=h1.scb s1;refine⟨hr1.ix Uv (by omega) hlt,_,hr1 i (by omega) hlt,fun b8 hb8=>⟨rfl,fun wr3 hx3 hs3 hcell=>?_⟩⟩;have s2:=s1.put hx3 hb8;have hO2:=hO.put hx3 hb8;have hD2:=hD.put hx3 hb8;obtain⟨o2,c2,w2,hrun,hk2,hO3,hy2⟩:=hO2.app1 ZW TB (x:=gi b.locals (i:Int)) hs3 s2.ext.size hcell (zuj _) (by rw[List.length_take]; omega) (by decide) ZE #[false,false];rw[KG (by omega)] at hrun hO3;have s3:=s2.call hy2 fun x hm=>(hO2.own.lt x hm).1
  have hD3:=hD2.call hy2 (hD2.own.ty_ne hO2.own (by decide));have hr2:=h2.scb s3;refine⟨_,_,_,w2,hrun,hk2,hr2.ix Gc (by omega) (by omega),_,hr2 i (by omega) (by omega),fun b9 hb9=>⟨rfl,fun wr4 hx4 hs4 hcell4=>?_⟩⟩;have s4:=s3.put hx4 hb9;have hO4:=hO3.put hx4 hb9;have hD4:=hD3.put hx4 hb9;obtain⟨o4,c4,w4,hrun4,hk4,hD5,hy4⟩:=hD4.app1 Ys M4 (x:=gi b.dry (i:Int)) hs4 s4.ext.size hcell4 (zvo _) (by rw[List.length_take]; omega) (by decide) Xq #[false,false];rw[KG (by omega)] at hrun4 hD5;have s5:=s4.call hy4 fun x hm=>(hD4.own.lt x hm).1
  have hO5:=hO4.call hy4 (hO4.own.ty_ne hD4.own (by decide));refine⟨_,_,_,w4,hrun4,hk4,⟨by omega,by omega⟩,fun w5 hx5 _=>⟨⟨i+1,⟨o2,c2,o4,c4,none,0⟩,rfl,by omega,(s5.step hx5).sub (by simp),(hO5.step hx5).sub (by simp),(hD5.step hx5).sub (by simp)⟩,?_⟩⟩;simp only[Zu,XK,Y5,List.getElem?_cons_zero];omega
 ·have hge:=Ou hge;have e1:b.locals.take i=b.locals:=List.take_of_length_le (by omega);have e2:b.dry.take i=b.dry:=List.take_of_length_le (by omega);rw[e1] at hO ⊢;rw[e2] at hD ⊢;exact fun w2 hx2=>⟨p,rfl,⟨(hO.step hx2).own,(hD.step hx2).own⟩,(s1.step hx2).ext⟩
theorem zqi(l:List Bool)(k:Nat)(h:k<l.length):(List.replicate k false++l.drop k).set k false=List.replicate (k+1) false++l.drop (k+1):=by
 rw[List.set_append,if_neg (by simp),List.length_replicate,Nat.sub_self,List.drop_eq_getElem_cons h,List.set_cons_zero,List.replicate_succ',List.append_assoc,List.singleton_append]
theorem HD{base:Nat}(h:QR base w b m)(hl:b.dry.length<=1048576) :
  Cz Tf #[.agg (QT b m).toArray] w fun e w'=>e=.returned (.agg (QT b m).toArray)/\QR base w' { b with dry:=List.replicate b.dry.length false } m/\Q0 (Zt m) w w':=by
 refine(zdr b.quota b.pool b.spent m.lO b.locals.length m.lC m.dO b.dry.length m.dC (R:=fun v w'=>v=.agg (QT b m).toArray/\QR base w' { b with dry:=List.replicate b.dry.length false } m/\Q0 (Zt m) w w') ?_).mono fun e w' ⟨v,he,hv,h3⟩=>⟨by rw[he,hv],h3⟩
 intro x hx0 x5 hx5
 have hnb:∀y∈Zt m,y∉[x,x5]:=fun y hy hm=>by
  have:=(h.lt y hy).2;simp only[List.mem_cons,List.not_mem_nil,or_false] at hm;rcases hm with rfl | rfl <;> omega
 have hfr:∀y∈[x,x5],w.heap.size<=y:=fun y hm=>by
  simp only[List.mem_cons,List.not_mem_nil,or_false] at hm;rcases hm with rfl | rfl <;> assumption
 refine OM b.dry.length 0 rfl (fun k w1=>k<=b.dry.length/\QR base w1 { b with dry:=List.replicate k false++b.dry.drop k } m/\Q0 (Zt m) w w1) (fun w1 hx1 _=>⟨Nat.zero_le _,by simpa using h.ext0 hx1,hx1.of_nil⟩) fun k w1 hs ⟨hk,hO,hX⟩=>⟨fun hlt=>?_,fun hge=>?_⟩
 ·have hlt:=Ot hlt;have hlen:(List.replicate k false++b.dry.drop k).length=b.dry.length:=by simp; omega
  have e1:=hO.stoD (c:=(k:Int)) (by omega) (by show (k:Int)<((List.replicate k false++b.dry.drop k).length:Int); rw[hlen]; exact hlt) false;have e2:({ b with dry:=(List.replicate k false++b.dry.drop k).set k false }:Jb)={ b with dry:=List.replicate (k+1) false++b.dry.drop (k+1) }:=by rw[zqi _ _ (by omega)]
  have hix:=hO.dry.ix (i:=(k:Int)) (by omega) (by show (k:Int)<((List.replicate k false++b.dry.drop k).length:Int); rw[hlen]; exact hlt);have hwr:=hO.dry.wr Ys.len (bs:=[x,x5]) (fun y hy=>hnb y (List.mem_append_right _ hy)) (i:=(k:Int)) (by omega) (by show (k:Int)<((List.replicate k false++b.dry.drop k).length:Int); rw[hlen]; exact hlt) (j:=0) (n:=1) (by decide);refine⟨by rw[<-hlen]; exact hix,hwr,⟨by omega,by omega⟩,fun w2 hx2 _=>Z0 (by omega) ⟨by omega,?_,(hX.trans (hO.xD _ _)).fresh hx2 fun y hy=>.inl (hfr y hy)⟩⟩;rw[Int.toNat_natCast] at e1;have:=(e2▸e1:QR base (sto w1 m.dO (k*1) [.bool false]) { b with dry:=List.replicate (k+1) false++b.dry.drop (k+1) } m);exact this.ext (by rw[Int.toNat_natCast] at hx2; exact hx2) hnb
 ·have hge:=Ou hge;have hk2:k=b.dry.length:=by omega
  subst hk2;rw[List.drop_length,List.append_nil] at hO;exact fun w2 hx2=>⟨rfl,hO.ext hx2 hnb,hX.fresh hx2 fun y hy=>.inl (hfr y hy)⟩
theorem zeb{p:Int}(h:0<=p):0<=ZX 20 p/\ZX 20 p<=p:=by unfold ZX; split <;> omega
theorem J4{op:zs1}(hb:Vz b)(h1:zfa [] w m.lO b.locals)(h2:zjp [] w m.dO b.dry) :
  Cz Y2 #[.agg (QT b m).toArray,.agg (zoa op).toArray] w fun e w'=>∃p,e=.returned (.tuple #[.agg (QT (YC b op).1 p).toArray,.int .i64 (YC b op).2])/\QR w.heap.size w' (YC b op).1 p/\Q0 [] w w':=by
 refine(j8 b.quota b.pool b.spent m.lO b.locals.length m.lC m.dO b.dry.length m.dC op.kind op.at' op.n (R:=fun v w'=>∃p,v=.tuple #[.agg (QT (YC b op).1 p).toArray,.int .i64 (YC b op).2]/\QR w.heap.size w' (YC b op).1 p/\Q0 [] w w') ?_).mono fun e w' ⟨v,he,p,hv,h3⟩=>⟨p,by rw[he,hv],h3⟩
 have hm9:=Zb;have hl2:=hb.l2;have hdl:=hb.dl;have q1:=hb.q1;have q2:=hb.q2;have p1:=hb.p1;have p2:=hb.p2;have s1':=hb.s1;have s2':=hb.s2;intro x hx0 x5 hx5 x6 hx6;have hok:=LI (bs:=[]) h1 h2 (by omega);rw[Qh.2 hb] at hok;refine⟨true,hok,fun h=>by simp at h,fun _ wr1 hx1 hs1=>?_⟩;have t1:=((((Sc.start w).add hx0).add hx5).add hx6).call0 hx1;refine(HC (h1.ext hx1) (h2.ext hx1) hdl (by omega)).mono fun e wv ⟨p,he,hO,hy1⟩=>⟨_,_,_,_,_,_,_,_,_,he,Qd hy1 hs1,fun g4=>?_,fun g4=>?_⟩
 ·have g4:op.kind=4:=by simpa using g4
  have t2:=t1.call0 hy1;have hbl:∀y∈[x,x5,x6],y<wr1.heap.size:=hs1;refine fun wr2 hx2 hs2=>⟨_,_,_,_,Pz ZW TB b.dry.length (by omega) (by omega) wr2,Qd (QV _ _) hs2,fun wr3 hx3 hs3=>?_⟩
  have hLo:=(U9 (enc:=Xu) ZW.len Qb b.dry.length (0:Int) wr2).ext hx3 fun y hy hm=>by
   have:y=wr2.heap.size:=by simpa[Qy] using hy
   have:=hs2 y hm;omega
  have hD3:Jp Ol 1 ZR wr1.heap.size wr3 p.dO p.dC b.dry:=((hO.extB hx2 hbl).ext0 (QV wr2 _)).extB hx3 hbl |>.dry
  have hsz1:wr1.heap.size<=wr2.heap.size:=Nat.le_trans hy1.size hx2.size;have hB3:QR wr1.heap.size wr3 { b with locals:=List.replicate b.dry.length 0 } ⟨some ⟨wr2.heap.size,0,none⟩,b.dry.length,p.dO,p.dC,none,0⟩:=⟨hLo.mono hsz1,hD3⟩;have t3:=((t2.step hx2).call0 (QV wr2 (.cells ((List.replicate b.dry.length (0:Int)).flatMap Xu).toArray Qb))).step hx3;have hw:=HD (b:=⟨b.quota,b.quota,0,List.replicate b.dry.length 0,b.dry⟩) (m:=⟨some ⟨wr2.heap.size,0,none⟩,b.dry.length,p.dO,p.dC,none,0⟩) (base:=wr1.heap.size) ⟨hB3.loc,hB3.dry⟩ (by show b.dry.length<=_; omega);simp only[QT,List.length_replicate] at hw;refine Calls.mono hw fun e w4 ⟨he4,hO4,hy4⟩=>⟨_,_,_,_,_,_,_,_,_,he4,fun y hm=>hy4.block y (hs3 y hm) fun hm'=>?_,fun wr4 hx4=>⟨⟨some ⟨wr2.heap.size,0,none⟩,b.dry.length,p.dO,p.dC,none,0⟩,?_,?_,?_⟩⟩
  ·have:=(hB3.lt y hm').1;have:=hs1 y hm;omega
  ·have:YC b op=(JR b,0):=by unfold YC; rw[if_pos g4]
   rw[this]; simp[QT,JR]
  ·have:YC b op=(JR b,0):=by unfold YC; rw[if_pos g4]
   rw[this]
   exact(QR.mono ⟨hO4.loc,hO4.dry⟩ hx1.size).ext hx4 fun y hy hm=>by
    have:=(hB3.lt y hy).1;have:=hs1 y hm;omega
  ·exact((t3.call hy4 fun y hy=>Nat.le_trans hx1.size (hB3.lt y hy).1).step hx4).ext
 ·have g4:¬op.kind=4:=by simpa using g4
  have t2:=t1.call0 hy1
  have hbl:∀y∈Zt p,y∉[x,x5,x6]:=fun y hy hm=>by
   have:=(hO.lt y hy).1;have:=hs1 y hm;omega
  have hO0:QR w.heap.size wv b p:=hO.mono hx1.size
  have fin:∀{b':Jb} {c:Int} {w1 w2:Wo},YC b op=(b',c)->QR w.heap.size w1 b' p->Q0 (Zt p) wv w1->Q0 [x,x5,x6] w1 w2->QR w.heap.size w2 (YC b op).1 p/\Q0 [] w w2:=fun e hB hX hx=>by
   rw[e];exact⟨hB.ext hx hbl,((t2.call hX fun y hy=>(hO0.lt y hy).1).step hx).ext⟩
  have hr1:zfa [x,x5,x6] wv p.lO b.locals:=hO.loc.rd ZW.len fun y hy=>hbl y (List.mem_append_left _ hy)
  refine⟨⟨by omega,by omega⟩,_,Qj,fun g5 wr hx=>⟨p,?_,fin (b':=b) (c:=1) ?_ hO0 (Q0.refl _ _) hx⟩,fun g5=>?_⟩
  ·have:YC b op=(b,1):=by unfold YC; rw[if_neg g4,if_pos (by simpa using g5)]
   rw[this]; rfl
  ·unfold YC; rw[if_neg g4,if_pos (by simpa using g5)]
  have g5':Yo op.at' 0 ((b.locals.length:Int)-1)=true:=by simpa using g5
  have hbd:YC b op=if op.kind=1 then YA b op.at' else if op.kind=2 then Tc b op.at' op.n else if op.kind=3 then (Yk b op.at',0) else (b,1):=by
   unfold YC; rw[if_neg g4,if_neg (by rw[g5']; decide)]
  obtain⟨c0,c1⟩:=Qo.1 g5';have c1:op.at'<(b.locals.length:Int):=by omega
  have he':=hb.each _ c0 c1;have hix:=hr1.ix Uv c0 c1;have hwL:YX [x,x5,x6] wv p.lO (Int.toNat op.at'*1) 1:=hO.loc.wr ZW.len (fun y hy=>hbl y (List.mem_append_left _ hy)) c0 c1 (j:=0) (by decide);refine⟨fun g6=>?_,fun g6=>?_⟩
  ·have g6:op.kind=1:=by simpa using g6
   rw[if_pos g6] at hbd;refine⟨hix,_,hr1 _ c0 c1,fun g7 wr hx=>⟨p,?_,fin (b':=b) (c:=0) ?_ hO0 (Q0.refl _ _) hx⟩,fun g7=>?_⟩
   ·rw[hbd]; unfold YA; rw[if_pos (Ot g7)]; rfl
   ·rw[hbd]; unfold YA; rw[if_pos (Ot g7)]
   have g7:=Ou g7;have ht:YA b op.at'=(⟨b.quota,b.pool-ZX 20 b.pool,b.spent,b.locals.set op.at'.toNat (ZX 20 b.pool),b.dry.set op.at'.toNat (ZX 20 b.pool==0)⟩,if ZX 20 b.pool=0 then 2 else 0):=by unfold YA; rw[if_neg g7]
   rw[ht] at hbd;have hm:=zeb p1;have e1:=hO0.stoL c0 c1 (ZX 20 b.pool);have e2:=e1.stoD (c:=op.at') c0 (by show op.at'<(b.dry.length:Int); omega) (ZX 20 b.pool==0);have hX:=(hO0.xL (Int.toNat op.at'*1) [.int .i64 (ZX 20 b.pool)]).trans (e1.xD (Int.toNat op.at'*1) [.bool (ZX 20 b.pool==0)]);refine⟨_,XS,⟨by omega,by omega⟩,hix,hwL,e1.dry.ix c0 (by show op.at'<(b.dry.length:Int); omega),e1.dry.wr Ys.len (fun y hy=>hbl y (List.mem_append_right _ hy)) c0 (by show op.at'<(b.dry.length:Int); omega) (j:=0) (by decide),fun g8 wr hx=>⟨p,?_,fin hbd ⟨e2.loc,e2.dry⟩ hX hx⟩,fun g8 wr hx=>⟨p,?_,fin hbd ⟨e2.loc,e2.dry⟩ hX hx⟩⟩
   ·rw[hbd,if_pos (by simpa using g8)]; simp[QT]
   ·rw[hbd,if_neg (by simpa using g8)]; simp[QT]
  ·have g6:¬op.kind=1:=by simpa using g6
   rw[if_neg g6] at hbd;refine⟨fun g7=>?_,fun g7=>?_⟩
   ·have g7:op.kind=2:=by simpa using g7
    rw[if_pos g7] at hbd;refine⟨fun _=>hix,_,fun _=>hr1 _ c0 c1,fun g8 wr hx=>⟨p,?_,fin (b':=b) (c:=3) ?_ hO0 (Q0.refl _ _) hx⟩,fun g8=>?_⟩
    ·rw[hbd]; unfold Tc; rw[if_pos (by simpa using g8)]; rfl
    ·rw[hbd]; unfold Tc; rw[if_pos (by simpa using g8)]
    have g8':¬(op.n<1\/op.n>gi b.locals op.at'):=by simpa using g8
    have ht:Tc b op.at' op.n=({ b with spent:=b.spent+op.n,locals:=b.locals.set op.at'.toNat (gi b.locals op.at'-op.n) },0):=by unfold Tc; rw[if_neg g8']
    rw[ht] at hbd;have e1:=hO0.stoL c0 c1 (gi b.locals op.at'-op.n);refine⟨hix,_,hr1 _ c0 c1,⟨by omega,by omega⟩,hix,hwL,⟨by omega,by omega⟩,fun wr hx=>⟨p,?_,fin hbd ⟨e1.loc,e1.dry⟩ (hO0.xL _ _) hx⟩⟩;rw[hbd]; simp[QT]
   ·have g7:¬op.kind=2:=by simpa using g7
    rw[if_neg g7] at hbd;refine⟨fun g8=>?_,fun g8 wr hx=>⟨p,?_,fin (b':=b) (c:=1) ?_ hO0 (Q0.refl _ _) hx⟩⟩
    ·have g8:op.kind=3:=by simpa using g8
     rw[if_pos g8] at hbd;have e1:=hO0.stoL c0 c1 0;refine⟨hix,_,hr1 _ c0 c1,⟨by omega,by omega⟩,hix,hwL,fun g9 wr hx hs=>?_,fun g9 wr hx=>⟨p,?_,fin hbd ?_ (hO0.xL _ _) hx⟩⟩
     ·have g9:=Ot g9;have e2:QR w.heap.size wr ⟨b.quota,b.pool+gi b.locals op.at',b.spent,b.locals.set op.at'.toNat 0,b.dry⟩ p:=QR.ext ⟨e1.loc,e1.dry⟩ hx hbl;have hw:=HD e2 (by show b.dry.length<=_; omega);simp only[QT,List.length_set] at hw;refine Calls.mono hw fun e w4 ⟨he4,hO4,hy4⟩=>⟨_,_,_,_,_,_,_,_,_,he4,fun y hm=>hy4.block y (hs y hm) fun hm'=>hbl y hm' hm,fun wr4 hx4=>⟨p,?_,?_,?_⟩⟩
      ·rw[hbd]; simp[QT,Yk,if_pos g9]
      ·rw[hbd];have:Yk b op.at'=⟨b.quota,b.pool+gi b.locals op.at',b.spent,b.locals.set op.at'.toNat 0,List.replicate b.dry.length false⟩:=by unfold Yk; rw[if_pos g9]
       rw[this];exact QR.ext ⟨hO4.loc,hO4.dry⟩ hx4 hbl
      ·exact((((t2.call (hO0.xL _ _) fun y hy=>(hO0.lt y hy).1).step hx).call hy4 fun y hy=>(hO0.lt y hy).1).step hx4).ext
     ·have g9:=Ou g9;rw[hbd]; simp[QT,Yk,if_neg g9]
     ·have g9:=Ou g9;have:Yk b op.at'=⟨b.quota,b.pool+gi b.locals op.at',b.spent,b.locals.set op.at'.toNat 0,b.dry⟩:=by unfold Yk; rw[if_neg g9]
      rw[this];exact⟨e1.loc,e1.dry⟩
    ·rw[hbd,if_neg (by simpa using g8)]; rfl
    ·rw[hbd,if_neg (by simpa using g8)]
end
end Go.Proofs.YtnclplgaicdapaaGreatDoor
