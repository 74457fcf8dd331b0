/- Part 17 of what the law FnPull needs: the engine, the functions' propositions, the contracts. -/
import Derived.Test.YtclpmgfpjeaibaaGreatFnPullPp
namespace Go.Proofs.YtclpmgfpjeaibaaGreat
open Go.RowKit
set_option linter.unusedVariables false
set_option linter.unusedSimpArgs false
set_option maxRecDepth 10000
set_option maxHeartbeats 8000000
theorem zgh{K S c t n:Int}{W:Q8}(sw:SW K W)(rb:RB S W)(hS:S+500<=100000000000000000)(c0:0<=c)(c1:c<(W.cpus.length:Int))(up:(gi W.cpus c).up=true)(ran:(gi W.cpus c).ran<50)(t0:0<=t)(t1:t<12)(hu:Q6 W.groups (Q7 W t).group=true)(n0:0<=n)(n1:n<=100) :
  SW (K+5*Ql) (Pb W c t n)/\RB (S+500) (Pb W c t n)/\KU (Pb W c t n) c=KU W c/\(Pb W c t n).now=W.now/\(Pb W c t n).cpus.length=W.cpus.length/\(gi (Pb W c t n).cpus c).up=true/\SW (K+Ql) (setTk W t (L7 W t n))/\RB (S+100) (setTk W t (L7 W t n))/\ztc (K+5*Ql) (S+500) c n (setTk W t (L7 W t n)) (zgg c n (YK W t) (setTk W t (L7 W t n))):=by
 have hv:=Gt n (Qc (Q7 W t).nice) n0 n1;have hlg:0<=Ql:=by decide
 have htv:=sw.tv t t0 t1;have htr:=rb.t t t0 t1;have hcr:=rb.c c c0 c1;obtain⟨hp1,hp2⟩:=AD sw.a hu;have s1:SW (K+Ql) (setTk W t (L7 W t n)):=(sw.mono (K':=K+Ql) (by omega)).setTk t0 t1 (x:=L7 W t n) (fun h=>sw.t t t0 t1 h) (by show 0<=(Q7 W t).v+Z3 n (Qc (Q7 W t).nice); omega) (by show (Q7 W t).v+Z3 n (Qc (Q7 W t).nice)<=_; omega);have r1:RB (S+100) (setTk W t (L7 W t n)):=(rb.mono (S':=S+100) (by omega)).setTk sw.a.t t0 t1 (x:=L7 W t n) ⟨by show 0<=(Q7 W t).sum+n; omega,by show (Q7 W t).sum+n<=_; omega,by show 0<=(Q7 W t).used+n; omega,by show (Q7 W t).used+n<=_; omega⟩;have h0:=zqw c0 n0 n1 (YK W t) s1 r1 (by omega) c1 hp1;have h2:ztc (K+5*Ql) (S+500) c n (setTk W t (L7 W t n)) (zgg c n (YK W t) (setTk W t (L7 W t n))):=⟨h0.sw.mono (by simp only[Ql]; omega),h0.rb.mono (by omega),h0.now,h0.t,h0.cp,h0.g,h0.p⟩;have hcp:(zgg c n (YK W t) (setTk W t (L7 W t n))).cpus=W.cpus:=h2.cp
 have e:gi (Pb W c t n).cpus c=zm0 W c n:=by
  show gi ((zgg c n (YK W t) (setTk W t (L7 W t n))).cpus.set c.toNat (zm0 W c n)) c=_;rw[hcp];exact(QA _ _ c0 c1 c0).trans (if_pos rfl)
 have hlen:(Pb W c t n).cpus.length=W.cpus.length:=by
  show ((zgg c n (YK W t) (setTk W t (L7 W t n))).cpus.set c.toNat (zm0 W c n)).length=_;rw[List.length_set,hcp]
 have hcu:=sw.cu c c0 c1;refine⟨h2.sw.setCp c0 (by rw[hcp]; exact c1) (x:=zm0 W c n) (BE (c:=c) ?_ c0 ?_ ?_) hcu.1 hcu.2,h2.rb.setCp c0 (by rw[hcp]; exact c1) (x:=zm0 W c n) ⟨by show 0<=(gi W.cpus c).busy+n; omega,by show (gi W.cpus c).busy+n<=_; omega,hcr.2.2.1,hcr.2.2.2.1,by show 0<=(gi W.cpus c).ran+n; omega,by show (gi W.cpus c).ran+n<=149; omega⟩,zu6 (W':=Pb W c t n) h2.p,h2.now,hlen,by rw[e]; exact up,s1,r1,h2⟩
 ·rw[List.length_set,hcp]; exact sw.a.c2
 ·rw[List.length_set,hcp]; exact c1
 ·rw[show gi ((zgg c n (YK W t) (setTk W t (L7 W t n))).cpus.set c.toNat (zm0 W c n)) c=_ from e]; exact up
theorem zbh{K S c:Int}{W:Q8}(sw:SW K W)(rb:RB S W)(hK:0<=K)(c0:0<=c)(c1:c<(W.cpus.length:Int))(up:(gi W.cpus c).up=true) :
  SW (K+Vm) (Qg W)/\RB S (Qg W)/\Dm (Qg W) c/\(gi (Qg W).cpus c).up=true/\(Qg W).now=W.now/\(Qg W).cpus.length=W.cpus.length/\KU (Qg W) c<=KU W c:=by
 obtain⟨s,f⟩:=U1 sw hK;have su:=zmg W;exact⟨s,rb.sum su f.g f.c,zpz sw hK c0 c1,by rw[su.u]; exact up,f.n,f.c,zlu sw hK c⟩
theorem zhx{f:Nat}{c left:Int}{W0 W:Q8}(h:AK (f+1) c W0 W left)(hl:0<left)(hp:¬Qn W c<0):zy3 f c W0 W left:=by
 have hf:=h.f2;have hh0:(0:Int)<=Qq:=by decide
 have hK:=Gm (f:=f+1) hf;have hS:=zhy (f:=f+1) hf;have c0:=h.c0;have c1:=h.c1;have eK:ED f=ED (f+1)+346860914400:=by unfold ED; omega
 have eS:Bp f=Bp (f+1)+500:=by unfold Bp; omega
 have hline:=zpt h.sw.a (h.sw.cu c c0 c1).2 h.dm.cu hp;have hM:Uy W c left=zak (YO W c).1 c (YK W (Qn W c)) left:=rfl;have hT:YO W c=zfu c (YK W (Qn W c)) (YU W c (Qn W c)):=rfl;have hR:EC W c left=if (YO W c).2=true then (Qg (Pb (YO W c).1 c (Qn W c) (Uy W c left)),left-Uy W c left) else (Qg (endW (YO W c).1 c),left):=rfl;have t0:=hline.t0;have t1:=hline.t1;obtain⟨us,_,_⟩:=h.sw.t _ t0 t1 (by rw[hline.st]; decide);obtain⟨pin,plen⟩:=AD h.sw.a us;obtain⟨s1,r1,u1,ran1,cu1,l1⟩:=EI h.sw h.rb c0 c1 h.up t0 t1
 have hdr:∀g∈YK W (Qn W c),(gi (YU W c (Qn W c)).groups g).band.quota≠0->gi (gi (YU W c (Qn W c)).groups g).band.dry c=false:=fun g hg hq=>by
  have hq:(gi W.groups g).band.quota≠0:=hq;show gi (gi W.groups g).band.dry c=false;have hug:=pin g hg;obtain⟨u0,u8,hgu⟩:=h.sw.a.u hug;rcases List.mem_append.1 hg with hg | hg
  ·have hon:=hline.on g hg;have hz:=(YB h.sw.a.tree _ us g hg).2;have:=h.dm.on g hug hz;unfold VA at this;rw[hon] at this
   have hd:UB W g c=false:=by
    cases hd:UB W g c with
    | false=>rfl
    | true=>rw[hd] at this; simp at this
   unfold UB at hd;have:=(hgu.band hq).1.q1;rw[decide_eq_true (by omega),Bool.true_and] at hd;exact hd
  ·rw[List.mem_singleton.1 hg] at hq hgu;exact absurd (hgu.root rfl).2.2 hq
 obtain⟨tk,tl,tf⟩:=zs4 c0 (YK W (Qn W c)) s1 (by rw[l1]; exact c1) pin hdr;rw[<-hT] at tk tl tf;have eT:(YO W c).1.tasks=W.tasks:=tk.o.t;have eC:(YO W c).1.cpus=(YU W c (Qn W c)).cpus:=tk.o.c;have eG:QR W.groups (YO W c).1.groups:=tk.o.g;have lT:(YO W c).1.cpus.length=W.cpus.length:=by rw[eC,l1]
 have rT:RB (Bp (f+1)) (YO W c).1:=r1.sum tk.su tk.o.g (by rw[eC]);have uT:Q6 (YO W c).1.groups (Q7 (YO W c).1 (Qn W c)).group=true:=by rw[eG.usd,J1 eT]; exact us
 have pT:YK (YO W c).1 (Qn W c)=YK W (Qn W c):=zhu eT eG _;have upT:(gi (YO W c).1.cpus c).up=true:=by rw[eC]; exact u1
 have ranT:(gi (YO W c).1.cpus c).ran<50:=by rw[eC]; exact ran1
 have phT:KU (YO W c).1 c<=KU W c:=Gj (fun k _=>tk.p (k:Int) (by omega)) 8 (Nat.le_refl _)
 have hm:(YO W c).2=true->1<=Uy W c left/\Uy W c left<=left:=fun ht=>by
  refine ze3 _ left (by omega) fun g hg hq=>?_
  have g0:=(Q5.1 (pin g hg)).1;rw[tk.q g g0] at hq;exact tl ht g hg (by omega)
 have hl1:=h.l1;have hch:(YO W c).2=true->_:=fun ht=>zgh (t:=Qn W c) (n:=Uy W c left) tk.sw rT (by omega) c0 (by rw[lT]; exact c1) upT ranT t0 t1 uT (by have:=hm ht; omega) (by have:=hm ht; omega)
 refine⟨hline,us,pin,plen,s1,r1,ran1,tk,hdr,hm,fun ht=>⟨(hch ht).1,(hch ht).2.1⟩,?_,?_⟩
 rotate_left
 ·rw[hR]
  by_cases ht:(YO W c).2=true
  ·rw[if_pos ht];have a:=(hch ht).1;have g1:QR (YO W c).1.groups (Pb (YO W c).1 c (Qn W c) (Uy W c left)).groups:=(hch ht).2.2.2.2.2.2.2.2.g;exact(eG.trans g1).trans (U1 a (by simp only[Ql]; omega)).2.g
  ·rw[if_neg ht];have g1:QR (YO W c).1.groups (endW (YO W c).1 c).groups:=QR.refl _;exact(eG.trans g1).trans (U1 (tk.sw.endW c0 (by rw[lT]; exact c1)) (by omega)).2.g
 rw[hR];have hf1:=h.f1
 by_cases ht:(YO W c).2=true
 ·rw[if_pos ht];obtain⟨a,b,d,e1,e2,e3,_⟩:=hch ht;obtain⟨b1,b2,b3,b4,b5,b6,b7⟩:=zbh a b (by simp only[Ql]; omega) c0 (by rw[e2,lT]; exact c1) e3;have hm:=hm ht
  exact⟨b1.mono (by simp only[Ql,Vm]; omega),b2.mono (by omega),b3,c0,by rw[b6,e2,lT]; exact c1,b4,by rw[b5,e1,tk.o.n]; exact h.now,by rw[b6,e2,lT]; exact h.len,by show 0<=left-Uy W c left; omega,by show left-Uy W c left<=100; omega,by
   rw[d] at b7;show left-Uy W c left+((KU (Qg (Pb (YO W c).1 c (Qn W c) (Uy W c left))) c:Nat):Int)<_;omega,by omega⟩
 ·rw[if_neg ht];have ht:(YO W c).2=false:=by simpa using ht
  obtain⟨g,hg,hlt⟩:=tf ht;have g0:=Q5.1 (pin g hg);have hgl:=h.sw.a.gl
  have hp1:KU (YO W c).1 c<KU W c:=by
   refine znw (fun k _=>tk.p (k:Int) (by omega)) (j:=g.toNat) ?_ 8 (by omega) (Nat.le_refl _);rw[show ((g.toNat:Nat):Int)=g by omega];exact hlt
  have ce:c<((YO W c).1.cpus.length:Int):=by rw[lT]; exact c1
  have sE:=tk.sw.endW c0 ce;have eE:gi (endW (YO W c).1 c).cpus c=XK (gi (YO W c).1.cpus c):=(QA _ _ c0 ce c0).trans (if_pos rfl);have lE:(endW (YO W c).1 c).cpus.length=(YO W c).1.cpus.length:=List.length_set;obtain⟨b1,b2,b3,b4,b5,b6,b7⟩:=zbh sE (rT.sum (zob _ c) (QR.refl _) lE) (by omega) c0 (by rw[lE]; exact ce) (by rw[eE]; exact upT)
  exact⟨b1.mono (by simp only[Ql,Vm]; omega),b2.mono (by omega),b3,c0,by rw[b6,lE]; exact ce,b4,by rw[b5]; show (YO W c).1.now=_; rw[tk.o.n]; exact h.now,by rw[b6,lE,lT]; exact h.len,h.l0,h.l1,by
   have b7:KU (Qg (endW (YO W c).1 c)) c<=KU (YO W c).1 c:=b7;show left+((KU (Qg (endW (YO W c).1 c)) c:Nat):Int)<_;omega,by omega⟩
theorem zwd{b:JH}{c:Int}(c0:0<=c)(c1:c<(b.locals.length:Int)):YM b ⟨1,c,0⟩=YL b c:=by
 unfold YM;rw[if_neg (show ¬(1:Int)=4 by decide),if_neg (by rw[Qm.2 (by show 0<=c/\c<=_; omega)]; decide),if_pos rfl]
theorem zgy{α:Type}[Inhabited α]{l:List α}{k:Nat}(h:k<l.length):l.drop k=gi l (k:Int)::l.drop (k+1):=by
 rw[List.drop_eq_getElem_cons h]
 congr 1
 unfold gi;rw[Int.toNat_natCast,List.getD_eq_getElem?_getD,List.getElem?_eq_getElem h]; rfl
theorem zgz{α:Type}[Inhabited α]{l:List α}{k:Nat}(h:k<l.length):gi l (k:Int)∈l:=by
 have:=List.getElem_mem h;unfold gi;rw[Int.toNat_natCast,List.getD_eq_getElem?_getD,List.getElem?_eq_getElem h]; exact this
theorem zki{c g:Int}{l:List Int}{W:Q8}:zfu c (g::l) W=if (AH W c g).2=true then zfu c l (AH W c g).1 else ((AH W c g).1,false):=rfl
section
variable {base:Nat}{W:Q8}{m:MW}{w:Wo}
theorem PE{pb n:Nat}{l:List Int}{pO:OA}{pC:Nat}{w2:Wo}{bs:List Nat}{V:Q8}{m2:MW}(hp:U4 Ji 1 Qd pb w pO pC l)(hpn:∀x∈QB pO,x∉QL n m)(hM:Mv n base bs w m w2 V m2):U4 Ji 1 Qd pb w2 pO pC l/\zok bs w2 pO l:=by
 have h:=hp.ext hM.ext hpn
 exact⟨h,h.rd Y5.len fun x hx hm=>by
  have:=(hp.lt x hx).2;have:=hM.new x hm;omega⟩
theorem Mv.put{n:Nat}{bs:List Nat}{w0 w w':Wo}{m0:MW}{b:Nat}(h:Mv n base bs w0 m0 w W m)(hx:Q0 bs w w')(hb:w.heap.size<=b):Mv n base (bs++[b]) w0 m0 w' W m:=(h.add hb).step (hx.mono fun x hm=>List.mem_append_left _ hm)
theorem zdm{K c:Int}{l:List Int}{pO:OA}{pC pb:Nat}(h:Yu 8 base w W m)(sw:SW K W)(hbase:base<=w.heap.size)(hp:U4 Ji 1 Qd pb w pO pC l)(hpn:∀x∈QB pO,x∉QL 8 m)(hl4:l.length<=4)(c0:0<=c)(c1:c<(W.cpus.length:Int))(hu:∀g∈l,Q6 W.groups g=true)(hd:∀g∈l,(gi W.groups g).band.quota≠0->gi (gi W.groups g).band.dry c=false) :
  Cz Pq #[.agg (Qa W m).toArray,.slice pO l.length pC,.int .i64 c] w fun e w'=>∃m',e=.returned (.tuple #[.agg (Qa W m).toArray,.bool (zfu c l W).2])/\Mv 8 base [] w m w' (zfu c l W).1 m':=by
 refine(zc5 W.now m.cO W.cpus.length m.cC m.tO W.tasks.length m.tC m.gO W.groups.length m.gC pO l.length pC c (R:=fun v w'=>∃m',v=.tuple #[.agg (Qa W m).toArray,.bool (zfu c l W).2]/\Mv 8 base [] w m w' (zfu c l W).1 m') ?_).mono fun e w' ⟨v,he,m',hv,h3⟩=>⟨m',by rw[he,hv],h3⟩
 intro x hx x1 hx1;have hgl:=sw.a.gl;have hnew:=YC hx hx1
 refine⟨fun vs w2=>∃(k:Nat) (r:List Va) (V:Q8) (m2:MW),vs=.int .i64 (k:Int)::r/\k<=l.length/\Mv 8 base [x,x1] w m w2 V m2/\zfu c l W=zfu c (l.drop k) V/\SW K V/\VE W V/\∀g∈l.drop k,(gi V.groups g).band.quota≠0->gi (gi V.groups g).band.dry c=false,
  Zu l.length 0,fun wr hx3 _=>⟨0,_,W,m,rfl,Nat.zero_le _,(Mv.two h hx hx1).call0 hx3,rfl,sw,VE.refl _,hd⟩,?_⟩
 rintro i1 ll l1O l1L l1C l2O l2L l2C l3O l3L l3C w2 hs2 ⟨k,r,V,m2,he,hk,hM2,hE,swV,oV,hdV⟩;simp only[List.cons.injEq,Value.int.injEq,true_and] at he;obtain⟨rfl,_⟩:=he;have hmg:m2.gO=m.gO:=by rw[hM2.hd]
 have hr:=hM2.rd;have hglV:V.groups.length=8:=swV.a.gl;obtain⟨_,hpr⟩:=PE hp hpn hM2;refine⟨fun hlt=>?_,fun hge=>?_⟩
 ·have hlt':=Ot hlt;have hlt:k<l.length:=by omega
  have hdr:=zgy hlt;have hgu:=hu _ (zgz hlt);rw[hdr] at hE hdV;have hug:Q6 V.groups (gi l (k:Int))=true:=by rw[oV.g.usd]; exact hgu
  have hpc:=hpr (k:Int) (by omega) (by omega);have hpix:=hpr.ix VI (i:=(k:Int)) (by omega) (by omega);have hdk:=hdV _ List.mem_cons_self;generalize hgk:gi l (k:Int)=g at hE hdV hug hpc hdk hgu hdr;obtain⟨u0,u1,hgg⟩:=swV.a.u hug;have hlt2:g<(V.groups.length:Int):=by omega
  have hix:Ix m.gO W.groups.length g:=by have:=hr.g.ix (i:=g) u0 hlt2; rwa[hglV,<-hgl,hmg] at this
  have hrow:=hr.g.cells g u0 hlt2;rw[hmg] at hrow;refine⟨hpix,g,hpc,hix,_,_,_,_,_,_,_,_,_,_,_,_,_,_,_,_,_,_,_,_,hrow,fun b4 hb4=>⟨hrow,hpc,rfl,fun g1=>?_,fun g1=>?_⟩⟩
  ·have g1:(gi V.groups g).band.quota=0:=by simpa using g1
   have hT:AH V c g=(V,true):=by unfold AH; rw[if_pos g1]
   rw[zki,hT,if_pos rfl] at hE;exact⟨⟨by omega,by omega⟩,fun wr hx3 _=>⟨⟨k+1,_,V,m2,by simp; rfl,by omega,hM2.step hx3,hE,swV,oV,fun y hy=>hdV y (List.mem_cons_of_mem _ hy)⟩,QS (k:=k) rfl rfl hlt⟩⟩
  ·have g1:(gi V.groups g).band.quota≠0:=by simpa using g1
   obtain⟨hb,hbl,_⟩:=hgg.band g1;have hclV:c<(V.cpus.length:Int):=by rw[oV.c]; exact c1
   have hcl:c<((gi V.groups g).band.locals.length:Int):=by omega
   intro wr3 hx3 hs4;have hM4:=hM2.put hx3 hb4;have hr4:=hM4.rd0;refine Calls.mono (Jt (op:=⟨1,c,0⟩) hb (hr4.g.locals g u0 hlt2) (hr4.g.dry g u0 hlt2)) ?_;rintro e wv2 ⟨p,he,hO,hy⟩;rw[zwd c0 hcl] at he hO;have hM5:=hM4.call0 hy;have hbs:base<=wr3.heap.size:=by have:=hM4.ext.size; omega
   have hOb:∀y∈ZO p,wr3.heap.size<=y:=fun y hy=>(hO.lt y hy).1
   have hput:=hM5.own.putB (i:=g) u0 (by omega) (hO.mono hbs) (fun y hy hm=>by have:=hOb y hy; have:=(hM4.own.lt y hm).2; omega);have hwr:=zee hM5.own hM5.nb (i:=g) u0 (by omega) (j:=8) (k:=5) (by decide);have hsz:=hM4.ext.size
   have hM6:=hM5.swap hput Bu rfl fun y hy=>by
    rcases TQ y hy with h1 | h1
    ·exact .inl h1
    ·rcases TP y h1 with h2 | h2
     ·have:=hOb y h2;exact .inr ⟨by omega,fun hm=>by have:=hs4 y hm; omega⟩
     ·exact .inl (JX (by omega) h2)
   rw[hmg] at hwr;have hgO:m2.gO=m.gO:=hmg;rw[hgO] at hM6;obtain⟨_,hpr5⟩:=PE hp hpn hM5;have hpc5:=hpr5 (k:Int) (by omega) (by omega);rw[hgk] at hpc5;have hTk:AH V c g=(setBd V g (YL (gi V.groups g).band c).1,decide ((YL (gi V.groups g).band c).2≠2)):=by unfold AH; rw[if_neg g1]
   obtain⟨tk,t2,_⟩:=zs3 swV c0 hclV hug hdk;rw[zki] at hE;refine⟨_,_,_,_,_,_,_,_,_,_,he,Qe hy hs4,fun b5 hb5=>⟨hpix,g,hpc5,hix,hwr,fun g2 wr6 hx6=>?_,fun g2=>⟨⟨by omega,by omega⟩,fun wr6 hx6 hs6=>⟨⟨k+1,_,setBd V g (YL (gi V.groups g).band c).1,_,by simp; rfl,by omega,(hM6.step hx6).sub' (by simp),?_,?_,?_,fun y hy hq=>?_⟩,QS (k:=k) rfl rfl hlt⟩⟩⟩⟩
   ·have g2:(YL (gi V.groups g).band c).2=2:=by simpa using g2
    have:(AH V c g).2=false:=by rw[hTk]; simp[g2]
    rw[hE,this,if_neg (by decide),hTk];exact⟨_,rfl,(hM6.step hx6).close⟩
   all_goals
    have g2:(YL (gi V.groups g).band c).2≠2:=by simpa using g2
    have ht2:(AH V c g).2=true:=by rw[hTk]; simp[g2]
    have hT1:(AH V c g).1=setBd V g (YL (gi V.groups g).band c).1:=by rw[hTk]
   ·rw[hE,if_pos ht2,hT1]
   ·rw[<-hT1]; exact tk.sw
   ·rw[<-hT1]; exact oV.trans tk.o
   ·have y0:=(Q5.1 (hu y (List.mem_of_mem_drop hy))).1;rw[<-hT1] at hq ⊢;rw[tk.q y y0] at hq;exact(t2 ht2).2 y y0 (hdV y (List.mem_cons_of_mem _ hy)) hq
 ·have hge:=Ou hge;have hk2:k=l.length:=by omega
  subst hk2;rw[List.drop_length] at hE;rw[hE];exact fun w3 hx3=>⟨m2,rfl,(hM2.step hx3).close⟩
theorem zdj{c n:Int}{l:List Int}{pO:OA}{pC:Nat}{bs:List Nat}(h:Xt bs w W m)(ha:WA W)(hp:zok bs w pO l)(hl4:l.length<=4)(c0:0<=c)(c1:c<(W.cpus.length:Int))(hu:∀g∈l,Q6 W.groups g=true) :
  PX bs Po #[.agg (Qa W m).toArray,.slice pO l.length pC,.int .i64 c,.int .i64 n] w (.int .i64 (zak W c l n)):=
 zd7 W.now m.cO W.cpus.length m.cC m.tO W.tasks.length m.tC m.gO W.groups.length m.gC pO l.length pC c n fun wr hx=>by
  have h:=(h.ext hx).less (cs:=[]) (by simp);have hp:=(hp.ext hx).less (cs:=[]) (by simp);intro _ _;refine T3 l.length 0 rfl (fun y k=>k<=l.length/\zak W c l n=zak W c (l.drop k) y) ⟨Nat.zero_le _,rfl⟩ fun y k ⟨hk,hy⟩=>⟨fun hlt=>?_,fun hge=>?_⟩
  ·have hlt':=Ot hlt;have hlt:k<l.length:=by omega
   have hdr:=zgy hlt;have hgu:=hu _ (zgz hlt);rw[hdr] at hy;have hpc:=hp (k:Int) (by omega) (by omega);generalize gi l (k:Int)=g at hy hpc hgu;obtain⟨u0,u1,hgg⟩:=ha.u hgu;have hgl:=ha.gl;have hyy:zak W c (g::l.drop (k+1)) y=zak W c (l.drop (k+1)) (zjn W c g y):=rfl;rw[hyy] at hy;refine⟨hp.ix VI (i:=(k:Int)) (by omega) (by omega),g,hpc,h.g.ix u0 (by omega),_,_,_,_,_,_,_,_,_,h.g.band u0 (by omega),fun b1 hb1=>⟨h.g.band u0 (by omega),hpc,rfl,fun g1=>?_,fun g1=>?_⟩⟩
   ·have g1:=Ot g1;obtain⟨hb,hbl,_⟩:=hgg.band (by omega);have hLo:=h.g.locals g u0 (by omega);refine⟨hLo.ix VI c0 (by omega),_,hLo c c0 (by omega),_,Je,⟨by omega,by omega⟩,Qw (by omega) ⟨by omega,?_⟩⟩;rw[hy]; unfold zjn; rw[if_pos g1]
   ·have g1:=Ou g1;refine⟨⟨by omega,by omega⟩,Qw (by omega) ⟨by omega,?_⟩⟩;rw[hy]; unfold zjn; rw[if_neg g1]
  ·have hge:=Ou hge;have:k=l.length:=by omega
   subst this;rw[List.drop_length] at hy;show Value.int .i64 y=_;rw[hy]; rfl
end
theorem ziq{c n g:Int}{l:List Int}{W:Q8}:zgg c n (g::l) W=zgg c n l (Cp W c n g):=rfl
theorem G9(W:Q8)(c n g:Int):(L6 W c n g).groups.length=W.groups.length:=by simp[L6,setSh,setGr]
theorem zkz{W:Q8}{c n g:Int}(u0:0<=g)(u1:g<(W.groups.length:Int)):gi (L6 W c n g).groups g={ gi W.groups g with shelves:=(gi W.groups g).shelves.set c.toNat (Av W c n g) }:=by
 unfold L6 setSh;rw[Yt u0 u1 u0,if_pos rfl]
theorem zk1{W:Q8}{c n g:Int}(u0:0<=g)(u1:g<(W.groups.length:Int)):gi (setGr (L6 W c n g) g (BJ W c n g)).groups g=BJ W c n g:=by
 rw[Yt u0 (by rw[G9]; exact u1) u0,if_pos rfl]
theorem Cq{W:Q8}{c n g:Int}(u0:0<=g)(u1:g<(W.groups.length:Int)):(BJ W c n g).band=(gi W.groups g).band:=by
 unfold BJ;rw[zkz u0 u1]
theorem zio{W:Q8}{c n g:Int}(u0:0<=g)(u1:g<(W.groups.length:Int))(h:¬(gi W.groups g).band.quota>0):Cp W c n g=setGr (L6 W c n g) g (BJ W c n g):=by
 unfold Cp zem;rw[if_neg h,<-Cq (c:=c) (n:=n) u0 u1];have:=zk1 (c:=c) (n:=n) u0 u1
 conv=>lhs; arg 3; rw[<-this]
 exact zl7 u0 (by simp only[setGr,List.length_set]; rw[G9]; exact u1)
section
variable {base:Nat}{W:Q8}{m:MW}{w:Wo}
theorem A2{K S t c n:Int}{pO:OA}{pC pb:Nat}(h:Yu 8 base w W m)(hbase:base<=w.heap.size)(hp:U4 Ji 1 Qd pb w pO pC (YK W t))(hpn:∀x∈QB pO,x∉QL 8 m)(sw:SW K W)(rb:RB S W)(hK:0<=K/\K<=60000000000000000)(hS:0<=S/\S<=60000000000000000)(c0:0<=c)(c1:c<(W.cpus.length:Int))(up:(gi W.cpus c).up=true)(ran:(gi W.cpus c).ran<50)(t0:0<=t)(t1:t<12)(hu:Q6 W.groups (Q7 W t).group=true)(n0:0<=n)(n1:n<=100) :
  Cz TH #[.agg (Qa W m).toArray,.int .i64 t,.slice pO (YK W t).length pC,.int .i64 c,.int .i64 n] w fun e w'=>∃m',e=.returned (.agg (Qa (Qg (Pb W c t n)) m').toArray)/\Mv 8 base [] w m w' (Qg (Pb W c t n)) m':=by
 obtain⟨sE,rE,_,_,hlE,_,s1,r1,cp1⟩:=zgh sw rb (by omega) c0 c1 up ran t0 t1 hu n0 n1;obtain⟨pin,plen⟩:=AD sw.a hu;refine(NM W.now m.cO W.cpus.length m.cC m.tO W.tasks.length m.tC m.gO W.groups.length m.gC t pO (YK W t).length pC c n (R:=fun v w'=>∃m',v=.agg (Qa (Qg (Pb W c t n)) m').toArray/\Mv 8 base [] w m w' (Qg (Pb W c t n)) m') ?_).mono fun e w' ⟨v,he,m',hv,h3⟩=>⟨m',by rw[he,hv],h3⟩
 intro x hx x1 hx1;have hgl:=sw.a.gl;have htl:=sw.a.t;have hlg:Ql=34686091440:=rfl;have hr0:=h.rd (bs:=[]) (by simp);have hix:=hr0.t.ix Qy t0 (by omega);have htv:=sw.tv t t0 t1;have htr:=rb.t t t0 t1;have hv:=Gt n (Qc (Q7 W t).nice) n0 n1;refine⟨hix,_,_,_,_,_,_,_,_,_,hr0.t t t0 (by omega),fun x2 hx2=>⟨_,Zh,_,Xf,⟨?_,?_⟩,⟨?_,?_⟩,⟨?_,?_⟩,hix,zif h (by simp) t0 (by omega) (j:=0) (by decide),?_⟩⟩
 ·show _<=(Q7 W t).v+Z3 n (Qc (Q7 W t).nice); omega
 ·show (Q7 W t).v+Z3 n (Qc (Q7 W t).nice)<=_; omega
 ·show _<=(Q7 W t).sum+n; omega
 ·show (Q7 W t).sum+n<=_; omega
 ·show _<=(Q7 W t).used+n; omega
 ·show (Q7 W t).used+n<=_; omega
 have eT:Yu 8 base (sto w m.tO (Int.toNat t*9) (X7 (L7 W t n))) (setTk W t (L7 W t n)) m:=h.stoT t0 (by omega) (j:=0) (vs:=X7 (L7 W t n)) (x:=L7 W t n) (by simp[X7]) (by simp[X7]);have hM1:Mv 8 base [x,x1,x2] w m (sto w m.tO (Int.toNat t*9) (X7 (L7 W t n))) (setTk W t (L7 W t n)) m:=((Mv.two h hx hx1).add hx2).deed eT GX
 refine⟨fun vs w2=>∃(k:Nat) (V:Q8) (m2:MW),vs=[.int .i64 (k:Int)]/\k<=(YK W t).length/\Mv 8 base [x,x1,x2] w m w2 V m2/\zgg c n (YK W t) (setTk W t (L7 W t n))=zgg c n ((YK W t).drop k) V/\ztc (K+Ql+Ql*(k:Int)) (S+100+100*(k:Int)) c n (setTk W t (L7 W t n)) V,
  Zu (YK W t).length 0,fun wr hx3 _=>⟨0,_,m,rfl,Nat.zero_le _,hM1.call0 hx3,rfl,⟨s1.mono (by simp),r1.mono (by simp),rfl,rfl,rfl,QR.refl _,fun _ _=>rfl⟩⟩,?_⟩
 rintro i1 w2 hs2 ⟨k,V,m2,he,hk,hM2,hE,hC⟩;simp only[List.cons.injEq,Value.int.injEq,true_and,and_true] at he;subst he;have hkk:0<=Ql*(k:Int)/\Ql*(k:Int)<=138744365760:=by simp only[Ql]; omega
 have hk1:Ql*((k+1:Nat):Int)=Ql*(k:Int)+Ql:=by simp only[Ql]; omega
 have hmg:m2.gO=m.gO:=by rw[hM2.hd]
 have hmc:m2.cO=m.cO:=by rw[hM2.hd]
 have hr:=hM2.rd;have hglV:V.groups.length=8:=hC.sw.a.gl;have hclV:V.cpus.length=W.cpus.length:=by rw[hC.cp]; rfl
 obtain⟨_,hpr⟩:=PE hp hpn hM2;refine⟨fun hlt=>?_,fun hge=>?_⟩
 ·have hlt':=Ot hlt;have hlt:k<(YK W t).length:=by omega
  have hdr:=zgy hlt;have hgu:=pin _ (zgz hlt);rw[hdr,ziq] at hE;have hug:Q6 V.groups (gi (YK W t) (k:Int))=true:=by rw[hC.g.usd]; exact hgu
  have hpc:=hpr (k:Int) (by omega) (by omega);have hpix:=hpr.ix VI (i:=(k:Int)) (by omega) (by omega);generalize hgk:gi (YK W t) (k:Int)=g at hE hug hpc hgu hdr;have hC2:=hC.trans (zk0 hC.sw hC.rb (by omega) c0 (by rw[hclV]; exact c1) hug n0 n1);have hC3:ztc (K+Ql+Ql*((k+1:Nat):Int)) (S+100+100*((k+1:Nat):Int)) c n (setTk W t (L7 W t n)) (Cp V c n g):=⟨hC2.sw.mono (by omega),hC2.rb.mono (by omega),hC2.now,hC2.t,hC2.cp,hC2.g,hC2.p⟩;obtain⟨u0,u1,hgg⟩:=hC.sw.a.u hug;have hlt2:g<(V.groups.length:Int):=by omega
  have hsl:=hC.sw.a.sl hug;have hcs:c<((gi V.groups g).shelves.length:Int):=by omega
  have hixg:Ix m.gO W.groups.length g:=by have:=hr.g.ix (i:=g) u0 hlt2; rwa[hglV,<-hgl,hmg] at this
  have hrow:=hr.g.cells g u0 hlt2;rw[hmg] at hrow;have hss:=hr.g.shelves g u0 hlt2;have hsc:=hss c c0 hcs;have hixs:=hss.ix ZQ c0 hcs;have hsv:=hC.sw.s g c hug c0 (by rw[hclV]; exact c1);have hsr:=hC.rb.s g c hug c0 (by rw[hclV]; exact c1);have hgr:=hC.rb.g g hug;have hv2:=Gt n (Qb V g c).w n0 n1;refine⟨hpix,g,hpc,hixg,_,_,_,_,_,_,_,_,_,_,_,_,_,_,_,_,_,_,_,_,hrow,fun b3 hb3=>⟨hrow,hpc,rfl,hixs,_,_,_,_,_,hsc,fun b4 hb4=>⟨hpix,g,hpc,?_⟩⟩⟩
  have eA:∀s:KE,s=Av V c n g->Yu 8 base (sto w2 (m2.ms g.toNat).sO (Int.toNat c*5) (MD s)) (L6 V c n g) m2:=fun s hs=>by
   subst hs;exact hM2.own.stoS u0 (by omega) c0 hcs (j:=0) (vs:=MD (Av V c n g)) (x:=Av V c n g) (by simp[MD]) (by simp[MD])
  have hwrS:=zv7 hM2.own hM2.nb (i:=g) u0 (by omega) c0 hcs (j:=0) (k:=5) (by decide);have hshl:=hr.g.shelf (i:=g) u0 hlt2;rw[hmg] at hshl;refine⟨fun g1=>?_,fun g1=>?_⟩
  ·have g1:g≠0:=by simpa using g1
   have hs:(⟨(Qb V g c).floor,(Qb V g c).on,(Qb V g c).v+Z3 n (Qb V g c).w,(Qb V g c).w,(Qb V g c).sum+n⟩:KE)=Av V c n g:=by unfold Av; rw[if_pos g1]
   have eA:=eA _ hs;refine⟨_,Xf,⟨?_,?_⟩,⟨?_,?_⟩,hpix,g,hpc,hixg,_,_,_,hshl,hixs,hwrS,hpix,g,?_,⟨?_,?_⟩,hixg,?_,?_⟩
   ·show _<=(Qb V g c).v+Z3 n (Qb V g c).w; omega
   ·show (Qb V g c).v+Z3 n (Qb V g c).w<=_; omega
   ·show _<=(Qb V g c).sum+n; omega
   ·show (Qb V g c).sum+n<=_; omega
   ·have:=(PE hp hpn (hM2.deed eA (Ao (by omega)))).2 (k:Int) (by omega) (by omega);rw[hgk] at this;exact this
   ·show _<=(gi V.groups g).sum+n; omega
   ·show (gi V.groups g).sum+n<=_; omega
   ·have:=zee eA hM2.nb (i:=g) u0 (by omega) (j:=7) (k:=1) (by decide);rw[hmg] at this;exact this
   have hM3:=((hM2.add hb3).add hb4).deed eA (Ao (by omega));have eU:=eA.stoG0 (i:=g) u0 (by omega) (g:=BJ V c n g) rfl rfl rfl (j:=7) (vs:=[.int .i64 ((gi V.groups g).sum+n)]) (by unfold BJ; rw[zkz u0 hlt2]; rfl) (by simp);have hM4:=hM3.deed eU Bu;rw[hmg] at hM4;have hM4:Mv 8 base [x,x1,x2,b3,b4] w m _ (setGr (L6 V c n g) g (BJ V c n g)) m2:=hM4;have hgb:=Cq (c:=c) (n:=n) u0 hlt2;have hgi:=zk1 (c:=c) (n:=n) u0 hlt2;have hl5:(setGr (L6 V c n g) g (BJ V c n g)).groups.length=V.groups.length:=by simp only[setGr,List.length_set]; exact G9 _ _ _ _
   have hnone:=zio (c:=c) (n:=n) u0 hlt2;have hdef:Cp V c n g=setBd (setGr (L6 V c n g) g (BJ V c n g)) g (zem V c n g):=rfl;generalize setGr (L6 V c n g) g (BJ V c n g)=V5 at hM4 hgi hl5 hnone hdef;refine⟨fun g2 wr1 hx3 hs3=>?_,fun g2=>⟨⟨by omega,by omega⟩,fun wr1 hx3 _=>⟨⟨k+1,Cp V c n g,m2,by simp,by omega,?_,hE,hC3⟩,QS (k:=k) rfl rfl hlt⟩⟩⟩
   ·have g2:(gi V.groups g).band.quota>0:=Ot g2;have hB:zem V c n g=(YM (gi V.groups g).band ⟨2,c,n⟩).1:=by unfold zem; rw[if_pos g2]
    rw[hB] at hdef;obtain⟨hb,hbl,_⟩:=hgg.band (by omega);have hM6:Mv 8 base [x,x1,x2,b3,b4] w m wr1 V5 m2:=hM4.step (hx3.mono fun y hy=>by simp only[List.mem_cons,List.not_mem_nil,or_false] at hy ⊢; rcases hy with h | h | h <;> simp[h]);have hr6:=hM6.rd0;have hg5:g<(V5.groups.length:Int):=by rw[hl5]; exact hlt2
    have hLo:=hr6.g.locals g u0 hg5;have hDo:=hr6.g.dry g u0 hg5;rw[hgi,hgb] at hLo hDo;refine Calls.mono (Jt (op:=⟨2,c,n⟩) hb hLo hDo) ?_;rintro e wv2 ⟨p,he,hO,hy⟩;have hM7:=hM6.call0 hy;have hbs:base<=wr1.heap.size:=by have:=hM6.ext.size; omega
    have hOb:∀y∈ZO p,wr1.heap.size<=y:=fun y hy=>(hO.lt y hy).1
    have hput:=hM7.own.putB (i:=g) u0 (by omega) (hO.mono hbs) (fun y hy hm=>by have:=hOb y hy; have:=(hM6.own.lt y hm).2; omega);have hwr:=zee hM7.own hM7.nb (i:=g) u0 (by omega) (j:=8) (k:=5) (by decide);have hsz:=hM6.ext.size
    have hM8:=hM7.swap hput Bu rfl fun y hy=>by
     rcases TQ y hy with h1 | h1
     ·exact .inl h1
     ·rcases TP y h1 with h2 | h2
      ·have:=hOb y h2;exact .inr ⟨by omega,fun hm=>by have:=hs3 y hm; omega⟩
      ·exact .inl (JX (by omega) h2)
    rw[hmg] at hwr hM8;rw[<-hdef] at hM8;have hpc7:=(PE hp hpn hM7).2 (k:Int) (by omega) (by omega);rw[hgk] at hpc7;exact⟨_,_,_,_,_,_,_,_,_,_,he,Qe hy hs3,fun b5 hb5=>⟨hpix,g,hpc7,hixg,hwr,⟨by omega,by omega⟩,fun wr6 hx6 _=>⟨⟨k+1,Cp V c n g,_,by simp,by omega,(hM8.step hx6).sub' (by simp),hE,hC3⟩,QS (k:=k) rfl rfl hlt⟩⟩⟩
   ·have g2:¬(gi V.groups g).band.quota>0:=Ou g2;rw[hnone g2];exact(hM4.sub' (cs:=[x,x1,x2]) (fun y hy=>by simp only[List.mem_cons,List.not_mem_nil,or_false] at hy ⊢; rcases hy with h | h | h <;> simp[h])).step hx3
  ·have g1:¬g≠0:=by simpa using g1
   have hs:(⟨(Qb V g c).floor,(Qb V g c).on,(Qb V g c).v,(Qb V g c).w,(Qb V g c).sum+n⟩:KE)=Av V c n g:=by unfold Av; rw[if_neg g1]
   have eA:=eA _ hs;refine⟨⟨?_,?_⟩,hpix,g,hpc,hixg,_,_,_,hshl,hixs,hwrS,hpix,g,?_,⟨?_,?_⟩,hixg,?_,?_⟩
   ·show _<=(Qb V g c).sum+n; omega
   ·show (Qb V g c).sum+n<=_; omega
   ·have:=(PE hp hpn (hM2.deed eA (Ao (by omega)))).2 (k:Int) (by omega) (by omega);rw[hgk] at this;exact this
   ·show _<=(gi V.groups g).sum+n; omega
   ·show (gi V.groups g).sum+n<=_; omega
   ·have:=zee eA hM2.nb (i:=g) u0 (by omega) (j:=7) (k:=1) (by decide);rw[hmg] at this;exact this
   have hM3:=((hM2.add hb3).add hb4).deed eA (Ao (by omega));have eU:=eA.stoG0 (i:=g) u0 (by omega) (g:=BJ V c n g) rfl rfl rfl (j:=7) (vs:=[.int .i64 ((gi V.groups g).sum+n)]) (by unfold BJ; rw[zkz u0 hlt2]; rfl) (by simp);have hM4:=hM3.deed eU Bu;rw[hmg] at hM4;have hM4:Mv 8 base [x,x1,x2,b3,b4] w m _ (setGr (L6 V c n g) g (BJ V c n g)) m2:=hM4;have hgb:=Cq (c:=c) (n:=n) u0 hlt2;have hgi:=zk1 (c:=c) (n:=n) u0 hlt2;have hl5:(setGr (L6 V c n g) g (BJ V c n g)).groups.length=V.groups.length:=by simp only[setGr,List.length_set]; exact G9 _ _ _ _
   have hnone:=zio (c:=c) (n:=n) u0 hlt2;have hdef:Cp V c n g=setBd (setGr (L6 V c n g) g (BJ V c n g)) g (zem V c n g):=rfl;generalize setGr (L6 V c n g) g (BJ V c n g)=V5 at hM4 hgi hl5 hnone hdef;refine⟨fun g2 wr1 hx3 hs3=>?_,fun g2=>⟨⟨by omega,by omega⟩,fun wr1 hx3 _=>⟨⟨k+1,Cp V c n g,m2,by simp,by omega,?_,hE,hC3⟩,QS (k:=k) rfl rfl hlt⟩⟩⟩
   ·have g2:(gi V.groups g).band.quota>0:=Ot g2;have hB:zem V c n g=(YM (gi V.groups g).band ⟨2,c,n⟩).1:=by unfold zem; rw[if_pos g2]
    rw[hB] at hdef;obtain⟨hb,hbl,_⟩:=hgg.band (by omega);have hM6:Mv 8 base [x,x1,x2,b3,b4] w m wr1 V5 m2:=hM4.step (hx3.mono fun y hy=>by simp only[List.mem_cons,List.not_mem_nil,or_false] at hy ⊢; rcases hy with h | h | h <;> simp[h]);have hr6:=hM6.rd0;have hg5:g<(V5.groups.length:Int):=by rw[hl5]; exact hlt2
    have hLo:=hr6.g.locals g u0 hg5;have hDo:=hr6.g.dry g u0 hg5;rw[hgi,hgb] at hLo hDo;refine Calls.mono (Jt (op:=⟨2,c,n⟩) hb hLo hDo) ?_;rintro e wv2 ⟨p,he,hO,hy⟩;have hM7:=hM6.call0 hy;have hbs:base<=wr1.heap.size:=by have:=hM6.ext.size; omega
    have hOb:∀y∈ZO p,wr1.heap.size<=y:=fun y hy=>(hO.lt y hy).1
    have hput:=hM7.own.putB (i:=g) u0 (by omega) (hO.mono hbs) (fun y hy hm=>by have:=hOb y hy; have:=(hM6.own.lt y hm).2; omega);have hwr:=zee hM7.own hM7.nb (i:=g) u0 (by omega) (j:=8) (k:=5) (by decide);have hsz:=hM6.ext.size
    have hM8:=hM7.swap hput Bu rfl fun y hy=>by
     rcases TQ y hy with h1 | h1
     ·exact .inl h1
     ·rcases TP y h1 with h2 | h2
      ·have:=hOb y h2;exact .inr ⟨by omega,fun hm=>by have:=hs3 y hm; omega⟩
      ·exact .inl (JX (by omega) h2)
    rw[hmg] at hwr hM8;rw[<-hdef] at hM8;have hpc7:=(PE hp hpn hM7).2 (k:Int) (by omega) (by omega);rw[hgk] at hpc7;exact⟨_,_,_,_,_,_,_,_,_,_,he,Qe hy hs3,fun b5 hb5=>⟨hpix,g,hpc7,hixg,hwr,⟨by omega,by omega⟩,fun wr6 hx6 _=>⟨⟨k+1,Cp V c n g,_,by simp,by omega,(hM8.step hx6).sub' (by simp),hE,hC3⟩,QS (k:=k) rfl rfl hlt⟩⟩⟩
   ·have g2:¬(gi V.groups g).band.quota>0:=Ou g2;rw[hnone g2];exact(hM4.sub' (cs:=[x,x1,x2]) (fun y hy=>by simp only[List.mem_cons,List.not_mem_nil,or_false] at hy ⊢; rcases hy with h | h | h <;> simp[h])).step hx3
 ·have hge:=Ou hge;have hk2:k=(YK W t).length:=by omega
  subst hk2;rw[List.drop_length] at hE;have hE:zgg c n (YK W t) (setTk W t (L7 W t n))=V:=hE;have hcV:V.cpus=W.cpus:=hC.cp;have cV:c<(V.cpus.length:Int):=by rw[hclV]; exact c1
  have hixc:Ix m.cO W.cpus.length c:=by have:=hr.c.ix ZH c0 cV; rwa[hclV,hmc] at this
  have hcr:=rb.c c c0 c1;have e1:=hM2.own.stoC c0 cV (j:=3) (vs:=[.int .i64 ((gi W.cpus c).busy+n)]) (x:={ gi W.cpus c with busy:=(gi W.cpus c).busy+n }) (by rw[hcV]; rfl) (by simp);have hl1:(V.cpus.set c.toNat { gi W.cpus c with busy:=(gi W.cpus c).busy+n }).length=V.cpus.length:=List.length_set;have hg1:gi (V.cpus.set c.toNat { gi W.cpus c with busy:=(gi W.cpus c).busy+n }) c={ gi W.cpus c with busy:=(gi W.cpus c).busy+n }:=(QA _ _ c0 cV c0).trans (if_pos rfl);have e2:=e1.stoC c0 (by simpa using cV) (j:=2) (vs:=[.int .i64 ((gi W.cpus c).ran+n)]) (x:=zm0 W c n) (by rw[hg1]; rfl) (by simp);have hb:=hr.c.f c0 cV (j:=3) rfl;have hw1:=zqf hM2.own hM2.nb c0 cV (j:=3) (k:=1) (by decide);have hM3:=hM2.deed e1 zec;have hrn:=hM3.rd.c.f c0 (by show c<((V.cpus.set c.toNat { gi W.cpus c with busy:=(gi W.cpus c).busy+n }).length:Int); rw[hl1]; exact cV) (j:=2) rfl;have hw2:=zqf e1 hM2.nb c0 (by show c<((V.cpus.set c.toNat { gi W.cpus c with busy:=(gi W.cpus c).busy+n }).length:Int); rw[hl1]; exact cV) (j:=2) (k:=1) (by decide);rw[hmc] at hb hw1 hrn hw2;rw[hcV] at hb;rw[show gi ({ V with cpus:=V.cpus.set c.toNat { gi W.cpus c with busy:=(gi W.cpus c).busy+n } }:Q8).cpus c=_ from hg1] at hrn;have hM4:=hM3.deed e2 zec
  have hW4:({ V with cpus:=(V.cpus.set c.toNat { gi W.cpus c with busy:=(gi W.cpus c).busy+n }).set c.toNat (zm0 W c n) }:Q8)=Pb W c t n:=by
   unfold Pb setCp;rw[hE,List.set_set]
  rw[hmc] at hM4;have hM4:Mv 8 base [x,x1,x2] w m _ ({ V with cpus:=(V.cpus.set c.toNat { gi W.cpus c with busy:=(gi W.cpus c).busy+n }).set c.toNat (zm0 W c n) }:Q8) m2:=hM4;rw[hW4] at hM4;refine⟨hixc,_,hb,⟨?_,?_⟩,hixc,hw1,hixc,_,hrn,⟨?_,?_⟩,hixc,hw2,fun wr7 hx7 hs7=>?_⟩
  ·show _<=(gi W.cpus c).busy+n; omega
  ·show (gi W.cpus c).busy+n<=_; omega
  ·show _<=(gi W.cpus c).ran+n; omega
  ·show (gi W.cpus c).ran+n<=_; omega
  have hM7:=hM4.step hx7;have hsz:=hM7.ext.size;have hcall:=Qr hM7.own sE (by omega) (by omega) (by omega);rw[show Qa (Pb W c t n) m2=Qa W m from hM7.encW_eq (by rw[show (Pb W c t n).now=V.now from by rw[<-hW4]]; exact hC.now) hlE (by rw[<-hW4,show ({ V with cpus:=(V.cpus.set c.toNat { gi W.cpus c with busy:=(gi W.cpus c).busy+n }).set c.toNat (zm0 W c n) }:Q8).tasks=V.tasks from rfl,hC.t]; simp[setTk]) (by rw[<-hW4]; exact hC.g.len)] at hcall;refine Calls.mono hcall ?_;rintro e wv ⟨m3,he,hy⟩;exact⟨_,_,_,_,_,_,_,_,_,_,he,hM7.kept hy hs7,fun wr8 hx8=>⟨m3,rfl,((hM7.call hy hs7).step hx8).close⟩⟩
end
theorem zlm{Q:Nat->Prop}(h:∃f,Q f):∃f,Q f/\∀g,Q g->f<=g:=by
 obtain⟨f,hf⟩:=h
 induction f using Nat.strongRecOn with
 | ind f ih=>
  by_cases h:∃g,g<f/\Q g
  ·obtain⟨g,hg,hq⟩:=h;exact ih g hg hq
  ·exact⟨f,hf,fun g hq=>Nat.le_of_not_lt fun hlt=>h ⟨g,hlt,hq⟩⟩
open Classical in
noncomputable def zll(Q:Nat->Prop):Nat:=if h:∃f,Q f then (zlm h).choose else 0
theorem zpf{Q:Nat->Prop}(h:∃f,Q f):Q (zll Q):=by
 unfold zll;rw[dif_pos h];exact(zlm h).choose_spec.1
theorem zur{Q:Nat->Prop}{f:Nat}(h:Q f):zll Q<=f:=by
 unfold zll;rw[dif_pos ⟨f,h⟩];exact(zlm ⟨f,h⟩).choose_spec.2 f h
noncomputable def D6(W:Q8)(c n:Int):Int:=if Yh n 1 100=false\/Yi W c=false then 1 else if (gi W.cpus c).up=false then 6 else if QG W=false then 10 else 0
def zl4(W:Q8)(c n:Int):Q8:=An c 400 W n
theorem zbd{c:Int}{f:Nat}{W:Q8}{left:Int}(h:left<=0):An c (f+1) W left=Qg W:=by
 rw[An,if_pos h]
theorem Bn{c:Int}{f:Nat}{W:Q8}{left:Int}(h:¬left<=0)(hp:Qn W c<0):An c (f+1) W left=Qg (endW (setCp W c (Ll W c left)) c):=by
 rw[An,if_neg h,if_pos hp]
theorem Bo{c:Int}{f:Nat}{W:Q8}{left:Int}(h:¬left<=0)(hp:¬Qn W c<0):An c (f+1) W left=An c f (EC W c left).1 (EC W c left).2:=by
 rw[An,if_neg h,if_neg hp]
theorem zl5{W:Q8}{c n:Int}(hW:Qv W=true)(hb:D6 W c n=0):Yh n 1 100=true/\Yi W c=true/\(gi W.cpus c).up=true/\QG W=true/\AK 400 c W W n:=by
 unfold D6 at hb
 split at hb
 ·cases hb
 ·rename_i h1
  split at hb
  ·cases hb
  ·rename_i h2
   split at hb
   ·cases hb
   ·rename_i h3
    have h1a:Yh n 1 100=true:=by
     cases h:Yh n 1 100 with
     | true=>rfl
     | false=>exact absurd (.inl h) h1
    have h1b:Yi W c=true:=by
     cases h:Yi W c with
     | true=>rfl
     | false=>exact absurd (.inr h) h1
    have h2:(gi W.cpus c).up=true:=by simpa using h2
    have h3:QG W=true:=by simpa using h3
    obtain⟨c0,c1⟩:=J7 h1b;have:=Qm.1 h1a;exact⟨h1a,h1b,h2,h3,zl3 (Qh.1 hW) (Qh.1 h3) c0 c1 h2 (by omega) (by omega)⟩
theorem zsl{f:Nat}{c left:Int}{W0 W:Q8}(h:AK f c W0 W left):∃g,f=g+1:=by
 have h1:=h.f1;have h2:=h.l0;exact⟨f-1,by omega⟩
theorem zld{f:Nat}{c left:Int}{W0 W:Q8}(h:AK f c W0 W left):SW (ED f) (endW (setCp W c (Ll W c left)) c)/\SW (ED f) (setCp W c (Ll W c left))/\0<=(gi W.cpus c).idle+left/\(gi W.cpus c).idle+left<=60000000000000000:=by
 have c0:=h.c0;have c1:=h.c1;have hcu:=h.sw.cu c c0 c1;have hl0:=h.l0;have hl1:=h.l1;have hr:=h.rb.c c c0 c1;have s1:SW (ED f) (setCp W c (Ll W c left)):=h.sw.setCp c0 c1 (BE (c:=c) (by rw[List.length_set]; exact h.sw.a.c2) c0 (by rw[List.length_set]; exact c1) (by rw[show gi (W.cpus.set c.toNat (Ll W c left)) c=Ll W c left from (QA _ _ c0 c1 c0).trans (if_pos rfl)]; exact h.up)) hcu.1 hcu.2;exact⟨s1.endW c0 (by show c<((W.cpus.set c.toNat (Ll W c left)).length:Int); rw[List.length_set]; exact c1),s1,by omega,by omega⟩
section
variable {W:Q8}{m:MW}{w:Wo}
def zol(y y1:Nat)(w0:Wo)(c n:Int)(W:Q8)(f:Nat)(vs:List Va)(w2:Wo):Prop:=
 ∃(V:Q8) (m2:MW) (left:Int),vs=.int .i64 left::Qa V m2/\Wk 8 [y,y1] w0 w2 V m2/\AK f c W V left/\An c f V left=zl4 W c n
theorem Kv{c n:Int}(h:Xt [] w W m)(hl:X5 W) :
  Cz U9 #[.agg (Qa W m).toArray,.int .i64 c,.int .i64 n] w fun e w'=>∃v,e=.returned v/\QE (Xc W (D6 W c n) (zl4 W c n)) w v w':=by
 refine NG W.now m.cO W.cpus.length m.cC m.tO W.tasks.length m.tC m.gO W.groups.length m.gC c n (R:=fun v w'=>QE (Xc W (D6 W c n) (zl4 W c n)) w v w') ?_;intro y hy y1 hy1;have hm0:=Xb;have hlc:=hl.c;refine⟨_,YJ h hl.c hl.t hl.g hl.f,fun g wr hx=>QE.bad (by simpa using g) hx,fun g wr hx2 hs2=>?_⟩;have hW:Qv W=true:=by simpa using g
 have wp:=Qh.1 hW;refine Calls.mono (OZ (h.ext hx2) wp.a) ?_;rintro e wv ⟨m',he,hM,hy2⟩;have hK:=Wk.begin hy hy1 hx2 hs2 hM hy2;have hr:=hK.rd;refine⟨_,_,_,_,_,_,_,_,_,_,he,Qe hy2 hs2,_,Qi,fun _=>⟨by omega,by omega⟩,Yi W c,fun _=>Qi,fun g wr1 hx3=>?_,fun g=>?_⟩
 ·have hb:D6 W c n=1:=by
   unfold D6; rw[if_pos]
   simpa using g
  exact QE.no hW (by rw[hb]; decide) (hK.step hx3) hb
 have g:Yh n 1 100=true/\Yi W c=true:=by simpa using g
 have hn1:¬(Yh n 1 100=false\/Yi W c=false):=by rw[g.1,g.2]; simp
 obtain⟨c0,c1⟩:=J7 g.2;have hro:=MM hr hl;refine⟨hr.c.ix ZH c0 c1,_,hr.c.f c0 c1 (j:=0) rfl,fun g2 wr1 hx3=>?_,fun g2=>⟨_,hro,fun g3 wr1 hx3=>?_,fun g3=>?_⟩⟩
 ·have hb:D6 W c n=6:=by unfold D6; rw[if_neg hn1,if_pos (by simpa using g2)]
  exact QE.no hW (by rw[hb]; decide) (hK.step hx3) hb
 ·have g2:(gi W.cpus c).up=true:=by simpa using g2
  have hr0:¬QG W=true:=fun hr=>by
   rw[show JJ (YW W/\H3 W)=true from Qh.2 ⟨wp,Qh.1 hr⟩] at g3;cases g3
  have hb:D6 W c n=10:=by unfold D6; rw[if_neg hn1,if_neg (by rw[g2]; decide),if_pos (by simpa using hr0)]
  exact QE.no hW (by rw[hb]; decide) (hK.step hx3) hb
 have g2:(gi W.cpus c).up=true:=by simpa using g2
 have hr0:QG W=true:=by
  have hd:JJ (YW W/\H3 W)=true:=by simpa using g3
  exact Qh.2 (Qh.1 hd).2
 have hb:D6 W c n=0:=by unfold D6; rw[if_neg hn1,if_neg (by rw[g2]; decide),if_neg (by rw[hr0]; decide)]
 obtain⟨_,_,_,_,hI0⟩:=zl5 hW hb;refine⟨fun vs _ w2=>∃(V:Q8) (m2:MW) (K:Int),vs=Qa V m2/\Wk 8 [y,y1] w w2 V m2/\SW K V/\0<=K/\K<=60000000000000000/\Qg V=zl4 W c n,?_,?_⟩
 ·refine⟨fun vs w2=>∃f,zol y y1 w c n W f vs w2,fun vs w2=>zll fun f=>zol y y1 w c n W f vs w2,fun wr hx3 _=>⟨400,W,m',n,rfl,hK.step hx3,hI0,rfl⟩,?_⟩;intro left l0 l1O l1L l1C l2O l2L l2C l3O l3L l3C w2 hs3 hinv;obtain⟨f0,hf0⟩:∃f0,f0=zll fun f=>zol y y1 w c n W f [.int .i64 left,.int .i64 l0,.slice l1O l1L l1C,.slice l2O l2L l2C,.slice l3O l3L l3C] w2:=⟨_,rfl⟩
  have hS:=zpf hinv;simp only[<-hf0] at hS ⊢;clear hf0 hinv;obtain⟨V,m2,left',hv,hK2,hI,hN⟩:=hS;simp only[Qa,List.cons.injEq,Value.int.injEq,Value.slice.injEq,true_and,and_true] at hv;obtain⟨rfl,rfl,⟨rfl,rfl,rfl⟩,⟨rfl,rfl,rfl⟩,rfl,rfl,rfl⟩:=hv;obtain⟨f,rfl⟩:=zsl hI;have hnext:∀{vs:List Va} {w9:Wo},zol y y1 w c n W f vs w9->(∃f,zol y y1 w c n W f vs w9)/\(zll fun f=>zol y y1 w c n W f vs w9)<f+1:=fun hh=>⟨⟨f,hh⟩,Nat.lt_succ_of_le (zur hh)⟩
  have hr2:=hK2.rd;have hf:=hI.f2;have hKu:=Gm hf;have hSu:=zhy hf;have hh0:(0:Int)<=Qq:=by decide
  have c1V:=hI.c1;have hixc:=hr2.c.ix ZH c0 c1V;refine⟨fun hlt=>?_,fun hge=>?_⟩
  ·have hlt:=Ot hlt;refine⟨_,zdl hr2 hI.sw.a c0 c1V,fun gp=>?_,fun gp=>?_⟩
   ·have gp:=Ot gp;rw[Bn (by omega) gp] at hN;obtain⟨i1,i2,i3,i4⟩:=zld hI;have e1:Yu 8 w.heap.size _ (setCp V c (Ll V c left)) m2:=hK2.own.stoC c0 c1V (j:=4) (vs:=[.int .i64 ((gi V.cpus c).idle+left)]) (x:=Ll V c left) rfl (by simp);refine⟨hixc,_,hr2.c.f c0 c1V (j:=4) rfl,⟨by omega,by omega⟩,hixc,zqf hK2.own hK2.nb c0 c1V (j:=4) (by decide),fun wr4 hx4 hs4=>?_⟩;have hK4:=(hK2.sto e1 zec).step hx4;have hcall:=Zn hK4.own c0 (by show c<((V.cpus.set c.toNat (Ll V c left)).length:Int); rw[List.length_set]; exact c1V);rw[Ax] at hcall;refine Calls.mono hcall ?_;rintro e2 wv2 ⟨he2,hy4⟩;exact⟨_,_,_,_,_,_,_,_,_,_,he2,hK4.kept hy4 hs4,fun wr5 hx5 _=>⟨_,m2,_,rfl,(hK4.deed hy4 hs4).step hx5,i1,by omega,by omega,hN⟩⟩
   ·have gp:=Ou gp;rw[Bo (by omega) gp] at hN;have hR:=zhx hI hlt gp;have t0:=hR.line.t0;have t1:=hR.line.t1;have htl:V.tasks.length=12:=hI.sw.a.t;refine⟨fun _ _ w3=>Wk 8 [y,y1] w w3 (YU V c (Qn V c)) m2,?_,?_⟩
    ·refine⟨hixc,_,hr2.c.f c0 c1V (j:=1) rfl,fun _=>hixc,_,fun _=>hr2.c.f c0 c1V (j:=2) rfl,fun g5=>?_,fun g5 wr4 hx4 _=>?_⟩
     ·have g5:Qn V c≠(gi V.cpus c).cur\/(gi V.cpus c).ran>=50:=by simpa using g5
      have hS:Yn V c (Qn V c)={ gi V.cpus c with cur:=Qn V c,ran:=0 }:=by unfold Yn; rw[if_pos g5]
      have e1:=hK2.own.stoC c0 c1V (j:=1) (vs:=[.int .i64 (Qn V c)]) (x:={ gi V.cpus c with cur:=Qn V c }) rfl (by simp);have hl1:(V.cpus.set c.toNat { gi V.cpus c with cur:=Qn V c }).length=V.cpus.length:=List.length_set;have hg1:gi (V.cpus.set c.toNat { gi V.cpus c with cur:=Qn V c }) c={ gi V.cpus c with cur:=Qn V c }:=(QA _ _ c0 c1V c0).trans (if_pos rfl);have e2:=e1.stoC c0 (by simpa using c1V) (j:=2) (vs:=[.int .i64 0]) (x:=Yn V c (Qn V c)) (by rw[hg1,hS]; rfl) (by simp)
      have hW2:({ V with cpus:=(V.cpus.set c.toNat { gi V.cpus c with cur:=Qn V c }).set c.toNat (Yn V c (Qn V c)) }:Q8)=YU V c (Qn V c):=by
       unfold YU setCp;rw[List.set_set]
      have hK3:=hK2.sto e1 zec;have hK4:Wk 8 [y,y1] w _ ({ V with cpus:=(V.cpus.set c.toNat { gi V.cpus c with cur:=Qn V c }).set c.toNat (Yn V c (Qn V c)) }:Q8) m2:=hK3.sto e2 zec;rw[hW2] at hK4;exact⟨hixc,zqf hK2.own hK2.nb c0 c1V (j:=1) (by decide),hixc,zqf e1 hK2.nb c0 (by show c<((V.cpus.set c.toNat { gi V.cpus c with cur:=Qn V c }).length:Int); rw[hl1]; exact c1V) (j:=2) (by decide),fun wr4 hx4 _=>hK4.step hx4⟩
     ·have g5:¬(Qn V c≠(gi V.cpus c).cur\/(gi V.cpus c).ran>=50):=by simpa using g5
      have hS:YU V c (Qn V c)=V:=by
       unfold YU Yn setCp;rw[if_neg g5,zpy c0 c1V]
      rw[hS];exact hK2.step hx4
    ·intro wv5 hs5 hK5 wr6 hx6 hs6;have hK6:=hK5.step hx6;have hcG:=Kz (t:=Qn V c) (hK6.rd.less (cs:=[]) (by simp)) hR.s1.a.tree t0 (by show _<((V.tasks.length:Nat):Int); omega) hR.us;have ecp:Qa (YU V c (Qn V c)) m2=Qa V m2:=Ax _ _ _ _;rw[ecp] at hcG;refine Calls.mono hcG ?_;rintro e3 wv6 ⟨pO,pC,he3,hO,hy6⟩;have hO:U4 Ji 1 Qd wr6.heap.size wv6 pO pC (YK V (Qn V c)):=hO;have he3:e3=.returned (.slice pO (YK V (Qn V c)).length pC):=he3;have hK7:=hK6.call0 hy6;refine⟨_,_,_,he3,Qe hy6 hs6,fun wr8 hx8 hs8=>?_⟩;have hK8:=hK7.step hx8
     have hpn0:∀z∈QB pO,z∉[y,y1]:=fun z hz hm=>by
      have:=(hO.lt z hz).1;have:=hs6 z hm;omega
     have hO8:=hO.ext hx8 hpn0
     have hpn8:∀z∈QB pO,z∉QL 8 m2:=fun z hz hm=>by
      have:=(hO.lt z hz).1;have:=(hK6.own.lt z hm).2;omega
     have hcT:=zdm hK8.own hR.s1 hK8.base hO8 hpn8 hR.len c0 (by rw[(EI hI.sw hI.rb c0 c1V hI.up t0 t1).2.2.2.2.2]; exact c1V) hR.pin hR.dr;rw[ecp] at hcT;refine Calls.mono hcT ?_;rintro e4 wv9 ⟨m3,he4,hy9⟩;have hK9:Wk 8 [y,y1] w wv9 (YO V c).1 m3:=hK8.deed hy9 hs8;have hTk:zfu c (YK V (Qn V c)) (YU V c (Qn V c))=YO V c:=rfl;rw[hTk] at he4 hy9;have hO9:=hO8.ext hy9.ext hpn8
     have hpn9:∀z∈QB pO,z∉QL 8 m3:=fun z hz hm=>by
      rcases hy9.sub z hm with h1 | h1
      ·exact hpn8 z hz h1
      ·have:=(hO8.lt z hz).2;omega
     have eC:(YO V c).1.cpus=(YU V c (Qn V c)).cpus:=hR.tk.o.c;have lT:(YO V c).1.cpus.length=V.cpus.length:=by rw[eC]; exact(EI hI.sw hI.rb c0 c1V hI.up t0 t1).2.2.2.2.2
     have cT:c<((YO V c).1.cpus.length:Int):=by rw[lT]; exact c1V
     have e9:Qa (YO V c).1 m3=Qa V m2:=by
      rw[hy9.encW_eq (W0:=YU V c (Qn V c)) hR.tk.o.n (by rw[eC]) (by rw[hR.tk.o.t]) hR.tk.o.g.len];exact ecp
     have rT:RB (Bp (f+1)) (YO V c).1:=hR.r1.sum hR.tk.su hR.tk.o.g (by rw[eC]);have eT:(YO V c).1.tasks=V.tasks:=hR.tk.o.t;have eG:QR V.groups (YO V c).1.groups:=hR.tk.o.g;have pT:YK (YO V c).1 (Qn V c)=YK V (Qn V c):=zhu eT eG _;have uT:Q6 (YO V c).1.groups (Q7 (YO V c).1 (Qn V c)).group=true:=by rw[eG.usd,J1 eT]; exact hR.us
     have upT:(gi (YO V c).1.cpus c).up=true:=by rw[eC]; exact(EI hI.sw hI.rb c0 c1V hI.up t0 t1).2.2.1
     have ranT:(gi (YO V c).1.cpus c).ran<50:=by rw[eC]; exact hR.ran
     have hnx:=hR.nx;refine⟨_,_,_,_,_,_,_,_,_,_,_,he4,hK8.kept hy9 hs8,fun gt wr10 hx10 hs10=>?_,fun gt=>?_⟩
     ·have gt:¬(YO V c).2=true:=by simpa using gt
      have hRW:EC V c left=(Qg (endW (YO V c).1 c),left):=by unfold EC; rw[if_neg gt]
      rw[hRW] at hnx hN;have hK10:=hK9.step hx10;have hcE:=Zn hK10.own c0 cT;rw[e9] at hcE;refine Calls.mono hcE ?_;rintro e5 wv11 ⟨he5,hy11⟩;refine⟨_,_,_,_,_,_,_,_,_,_,he5,hK10.kept hy11 hs10,fun wr12 hx12 hs12=>?_⟩;have hK12:=(hK10.deed hy11 hs10).step hx12;refine Calls.mono (Qr hK12.own (hR.tk.sw.endW c0 cT) (by omega) (by omega) hK12.base) ?_;rintro e6 wv13 ⟨m4,he6,hy13⟩;generalize Qg (endW (YO V c).1 c)=V9 at he6 hy13 hnx hN;exact⟨_,_,_,_,_,_,_,_,_,_,he6,hK12.kept hy13 hs12,fun wr14 hx14 _=>hnext ⟨V9,m4,left,rfl,(hK12.deed hy13 hs12).step hx14,hnx,hN⟩⟩
     ·have gt:(YO V c).2=true:=by simpa using gt
      have hRW:EC V c left=(Qg (Pb (YO V c).1 c (Qn V c) (Uy V c left)),left-Uy V c left):=by unfold EC; rw[if_pos gt]
      rw[hRW] at hnx hN;obtain⟨m1,m2'⟩:=hR.m gt;have hl1:=hI.l1;have hcM:=zdj (n:=left) hK9.rd hR.tk.sw.a (hO9.rd Y5.len hpn0) (pC:=pC) hR.len c0 cT (fun z hz=>by rw[eG.usd]; exact hR.pin z hz);rw[e9] at hcM;refine⟨_,hcM,fun wr10 hx10 hs10=>?_⟩;have hK10:=hK9.step hx10;have hO10:U4 Ji 1 Qd wr6.heap.size wr10 pO pC (YK (YO V c).1 (Qn V c)):=by rw[pT]; exact hO9.ext hx10 hpn0
      have hcC:=A2 (t:=Qn V c) (n:=Uy V c left) hK10.own hK10.base hO10 hpn9 hR.tk.sw rT ⟨by omega,by omega⟩ ⟨by omega,by omega⟩ c0 cT upT ranT t0 t1 uT (by omega) (by omega);rw[e9,pT] at hcC;refine Calls.mono hcC ?_;rintro e7 wv11 ⟨m4,he7,hy11⟩;generalize Qg (Pb (YO V c).1 c (Qn V c) (Uy V c left))=V9 at he7 hy11 hnx hN;exact⟨_,_,_,_,_,_,_,_,_,_,he7,hK10.kept hy11 hs10,⟨by show _<=left-Uy V c left; omega,by show left-Uy V c left<=_; omega⟩,fun wr12 hx12 _=>hnext ⟨V9,m4,left-Uy V c left,rfl,(hK10.deed hy11 hs10).step hx12,hnx,hN⟩⟩
  ·have hge:=Ou hge;rw[zbd (by omega)] at hN;exact fun wr4 hx4 _=>⟨V,m2,_,rfl,hK2.step hx4,hI.sw,by omega,by omega,hN⟩
 ·rintro a0 a1O a1L a1C a2O a2L a2C a3O a3L a3C w2 hs3 ⟨V,m2,K,hv,hK2,sw,k0,k1,hN⟩ wr4 hx4 hs4;simp only[Qa,List.cons.injEq,Value.int.injEq,Value.slice.injEq,true_and,and_true] at hv;obtain⟨rfl,⟨rfl,rfl,rfl⟩,⟨rfl,rfl,rfl⟩,rfl,rfl,rfl⟩:=hv;have hK4:=hK2.step hx4;refine Calls.mono (Qr hK4.own sw k0 (by omega) hK4.base) ?_;rintro e3 wv3 ⟨m3,he3,hy5⟩;rw[hN] at he3 hy5;exact⟨_,_,_,_,_,_,_,_,_,_,he3,hK4.kept hy5 hs4,fun wr8 hx8=>QE.ok hW hb ((hK4.deed hy5 hs4).step hx8)⟩
end
set_option maxRecDepth 100000
set_option maxHeartbeats 1600000
def cO:Code->Code
 | .loop c=>c
 | c=>c
theorem zk8{W:Q8}{g c:Int}(h:¬QF W g c<0):ZK W g c 20=true/\Z7 W g c 20=Zf W c (QF W g c).toNat:=by
 unfold ZK Z7;unfold QF at h ⊢;rw[if_neg h];exact⟨decide_eq_true (by omega),rfl⟩
theorem zr5{W:Q8}(ha:WA W)(fl:zyv W){c:Int}(c0:0<=c)(c1:c<(W.cpus.length:Int))(f:Nat):∀g:Int,Q6 W.groups g=true->(4-dep 3 W.groups g).toNat=f->(∀x∈QX W.groups g,(Qb W x c).v<=(Qb W (gi W.groups x).parent c).floor)->0<=MR W g c->
  (Q7 W (MR W g c)).v<=(Qb W (Q7 W (MR W g c)).group c).floor/\∀x∈QX W.groups (Q7 W (MR W g c)).group,(Qb W x c).v<=(Qb W (gi W.groups x).parent c).floor:=by
 induction f with
 | zero=>
  intro g hu hf;have:=Lb ha hu;omega
 | succ f ih=>
  intro g hu hf hp h;rw[B5 ha hu] at h ⊢
  by_cases h1:QF W g c<0
  ·rw[if_pos h1] at h; omega
  ·rw[if_neg h1] at h ⊢;obtain⟨b1,b2⟩:=zk8 h1;have hfl:=fl g c hu c0 c1 b1;rw[b2] at hfl
   by_cases h2:QF W g c<12
   ·rw[if_pos h2] at h ⊢
    have hm:Ze W g c (QF W g c).toNat=true:=by
     rcases Zb (Ze W g c) (Zf W c) 20 with ⟨a,_⟩ | ⟨_,_,a,_⟩
     ·unfold QF at h1; omega
     ·exact a
    rw[T5 (by omega)] at hm;unfold On at hm;rw[show (((QF W g c).toNat:Nat):Int)=QF W g c by omega] at hm;simp only[Bool.and_eq_true,beq_iff_eq] at hm;unfold Zf at hfl;rw[if_pos (by omega),show (((QF W g c).toNat:Nat):Int)=QF W g c by omega] at hfl;rw[show (Q7 W (QF W g c)).group=g from hm.1.2];exact⟨hfl,hp⟩
   ·rw[if_neg h2] at h ⊢;obtain⟨k1,k2,k3,k4⟩:=Gd ha hu (g:=g) (c:=c) (by omega)
    have hm:Ze W g c (QF W g c).toNat=true:=by
     rcases Zb (Ze W g c) (Zf W c) 20 with ⟨a,_⟩ | ⟨_,_,a,_⟩
     ·unfold QF at h1; omega
     ·exact a
    rw[show (QF W g c).toNat=12+(QF W g c-12).toNat by omega,JW] at hm;unfold Jg at hm;rw[show (((QF W g c-12).toNat:Nat):Int)=QF W g c-12 by omega] at hm;simp only[Bool.and_eq_true,beq_iff_eq] at hm;unfold Zf at hfl;rw[if_neg (by omega),show (((QF W g c).toNat-12:Nat):Int)=QF W g c-12 by omega] at hfl;refine ih _ k1 (by omega) (fun x hx=>?_) h;rw[Ys ha.tree k1 k2] at hx;rcases List.mem_cons.1 hx with e | e
    ·rw[e,hm.1.2.2]; exact hfl
    ·rw[hm.1.2.2] at e; exact hp x e
structure zxw (W:Q8) (c t ran:Int):Prop where
 r0:0<=ran
 r1:ran<50
 t1:(Q7 W t).v-(Qb W (Q7 W t).group c).floor<=Z3 ran (Qc (Q7 W t).nice)
 t2:(Qb W (Q7 W t).group c).floor<=(Q7 W t).v
 p1:∀x∈QX W.groups (Q7 W t).group,(Qb W x c).v-(Qb W (gi W.groups x).parent c).floor<=Z3 ran (Qb W x c).w
 p2:∀x∈QX W.groups (Q7 W t).group,(Qb W (gi W.groups x).parent c).floor<=(Qb W x c).v
theorem ztr{W:Q8}(iv:J5 W){c:Int}(c0:0<=c)(c1:c<(W.cpus.length:Int))(hl:zms W (Qn W c) c)(hp:¬Qn W c<0):zxw W c (Qn W c) (gi (YU W c (Qn W c)).cpus c).ran:=by
 have wp:=iv.wp;have p:=Xk wp;have h:=O0 p hl.t0 hl.t1 (by rw[hl.st]; decide);have e:gi (YU W c (Qn W c)).cpus c=Yn W c (Qn W c):=(QA _ _ c0 c1 c0).trans (if_pos rfl)
 have t2:(Qb W (Q7 W (Qn W c)).group c).floor<=(Q7 W (Qn W c)).v:=by
  have:=(h.f hl.st).1
  rwa[hl.cpu] at this
 have p2:∀x∈QX W.groups (Q7 W (Qn W c)).group,(Qb W (gi W.groups x).parent c).floor<=(Qb W x c).v:=fun x hx=>by
  obtain⟨xu,xz⟩:=YB wp.a.tree _ h.g x hx;exact((p.s x c xu c0 c1).st xz (hl.on x hx)).1
 rw[e]
 by_cases hc:(gi W.cpus c).cur>=0/\(gi W.cpus c).ran<50
 ·have hpk:Qn W c=(gi W.cpus c).cur:=by unfold Qn; rw[if_pos hc]
  have hs:Yn W c (Qn W c)=gi W.cpus c:=by
   unfold Yn;rw[if_neg];rintro (h | h)
   ·exact h hpk
   ·omega
  rw[hs];have hy:=(p.c c c0 c1).yes hc.1;have hq:=(p.c c c0 c1).q hc.1 (by rw[<-hpk]; exact hl.st) (by rw[<-hpk]; exact hl.cpu);rw[<-hpk] at hq;exact⟨by omega,hc.2,hq.1,t2,fun x hx=>(hq.2 x hx).2,p2⟩
 ·have hpk:Qn W c=MR W 0 c:=by unfold Qn; rw[if_neg hc]
  have hs:(Yn W c (Qn W c)).ran=0:=by
   unfold Yn;rw[if_pos]
   by_cases h0:(gi W.cpus c).cur>=0
   ·exact .inr (by omega)
   ·exact .inl (by omega)
  rw[hs];have hn:=zr5 wp.a iv.fl c0 c1 _ 0 wp.a.root rfl (fun x hx=>by rw[show QX W.groups 0=[] from Za _ _] at hx; cases hx) (by rw[<-hpk]; omega);rw[<-hpk] at hn;have v0:∀w:Int,0<=Z3 0 w:=fun w=>(G3 0 w).1
  refine⟨Int.le_refl _,by decide,?_,t2,fun x hx=>?_,p2⟩
  ·have:=v0 (Qc (Q7 W (Qn W c)).nice);have:=hn.1;omega
  ·have:=v0 (Qb W x c).w;have:=hn.2 x hx;omega
theorem zsc{gs:List ZF}(ht:ZX gs):∀g:Int,Q6 gs g=true->∀x∈QX gs g,dep 3 gs x<=dep 3 gs g:=
 PD ht (fun x hx=>by rw[show QX gs 0=[] from Za _ _] at hx; cases hx) fun h hu hz ih x hx=>by
  rw[Ys ht hu hz] at hx;rcases List.mem_cons.1 hx with e | e
  ·subst e; exact Int.le_refl _
  ·obtain⟨_,_,_,d,e1,e2,_⟩:=ZY ht hu hz;have:=ih x e;omega
theorem zu4{gs:List ZF}(ht:ZX gs):∀g:Int,Q6 gs g=true->(QX gs g++[0]).Nodup:=
 PD ht (by rw[show QX gs 0=[] from Za _ _]; simp) fun h hu hz ih=>by
  rw[Ys ht hu hz,List.cons_append,List.nodup_cons];refine⟨fun hm=>?_,ih⟩;rcases List.mem_append.1 hm with hm | hm
  ·obtain⟨hp,_,_,d,e1,e2,_⟩:=ZY ht hu hz;have:=zsc ht _ hp h hm;omega
  ·exact hz (List.mem_singleton.1 hm)
theorem ztv{W:Q8}{c n g:Int}(hgl:W.groups.length=8)(u0:0<=g)(u1:g<8)(c0:0<=c)(cs:c<((gi W.groups g).shelves.length:Int))(i d:Int)(hi:0<=i)(hd:0<=d):Qb (Cp W c n g) i d=if g=i/\c=d then Av W c n g else Qb W i d:=by
 rw[<-Jv (W:=W) (s:=Av W c n g) u0 (by omega) c0 cs hi hd];have hl2:g<((L6 W c n g).groups.length:Int):=by rw[G9]; omega
 have hl1:g<((setGr (L6 W c n g) g (BJ W c n g)).groups.length:Int):=by simp only[setGr,List.length_set]; rw[G9]; omega
 unfold Qb;show gi (gi (Cp W c n g).groups i).shelves d=gi (gi (L6 W c n g).groups i).shelves d;unfold Cp setBd;rw[Yt u0 hl1 hi,Yt u0 hl2 hi,Yt u0 hl2 u0,if_pos rfl];split
 ·rename_i e;subst e;rfl
 ·rfl
theorem ztw{K S c n:Int}(c0:0<=c)(n0:0<=n)(n1:n<=100):∀(l:List Int) {W:Q8},l.Nodup->SW K W->RB S W->S+100*(l.length:Int)<=100000000000000000->c<(W.cpus.length:Int)->(∀g∈l,Q6 W.groups g=true)->
  ∀i d:Int,0<=i->0<=d->Qb (zgg c n l W) i d=if i∈l/\c=d then Av W c n i else Qb W i d:=by
 intro l
 induction l generalizing K S with
 | nil=>
  intro W _ _ _ _ _ _ i d _ _;rw[if_neg (by simp)]; rfl
 | cons g l ih=>
  intro W nd sw rb hS c1 hu i d hi hd;rw[List.length_cons] at hS;have hug:=hu g List.mem_cons_self;obtain⟨u0,u1,_⟩:=sw.a.u hug;have hsl:=sw.a.sl hug;have h1:=zk0 sw rb (by omega) c0 c1 hug n0 n1;obtain⟨hng,ndl⟩:=List.nodup_cons.1 nd;have e:=ztv (n:=n) sw.a.gl u0 u1 c0 (by omega);rw[ziq,ih ndl h1.sw (h1.rb.mono (show S+n<=S+100 by omega)) (by omega) (by rw[h1.cp]; exact c1) (fun x hx=>by rw[h1.g.usd]; exact hu x (List.mem_cons_of_mem _ hx)) i d hi hd]
  by_cases hil:i∈l
  ·have hgi:g≠i:=fun h=>hng (h▸hil)
   by_cases hcd:c=d
   ·rw[if_pos ⟨hil,hcd⟩,if_pos ⟨List.mem_cons_of_mem _ hil,hcd⟩];unfold Av;rw[e i c hi c0,if_neg fun h=>hgi h.1]
   ·rw[if_neg fun h=>hcd h.2,if_neg fun h=>hcd h.2,e i d hi hd,if_neg fun h=>hcd h.2]
  ·rw[if_neg fun h=>hil h.1,e i d hi hd]
   by_cases hgi:g=i
   ·subst hgi
    by_cases hcd:c=d
    ·rw[if_pos ⟨rfl,hcd⟩,if_pos ⟨List.mem_cons_self,hcd⟩]
    ·rw[if_neg fun h=>hcd h.2,if_neg fun h=>hcd h.2]
   ·rw[if_neg fun h=>hgi h.1,if_neg];rintro⟨hm,_⟩;rcases List.mem_cons.1 hm with h | h
    ·exact hgi h.symm
    ·exact hil h
theorem zof{a b w:Int}(ha:0<=a)(hb:0<=b)(h:a+b<=149)(w1:1<=w)(w2:w<=20):Z3 (a+b) w=Z3 a w+Z3 b w/\Z3 a w+Z3 b w<=Zo w:=by
 have e1:=zfw ha hb (by omega) w1 w2;have e2:=zfw (a:=a+b) (b:=149-(a+b)) (w:=w) (by omega) (by omega) (by omega) w1 w2;rw[show a+b+(149-(a+b))=149 by omega] at e2;have:=(G3 (149-(a+b)) w).1;unfold Zo;omega
structure zy1 (V T:Q8) (c t:Int):Prop where
 tk:T.tasks=V.tasks
 g:QR V.groups T.groups
 s:∀i:Int,0<=i->(gi T.groups i).shelves=(gi V.groups i).shelves
 cp:∀d:Int,0<=d->gi T.cpus d=if c=d then Yn V c t else gi V.cpus d
 l:T.cpus.length=V.cpus.length
theorem zwe{K S:Int}{V T:Q8}{c t m:Int}(iv:J5 V)(hM:zy1 V T c t)(sw:SW K T)(rb:RB S T)(hS:0<=S/\S+500<=100000000000000000)(c0:0<=c)(c1:c<(V.cpus.length:Int))(up:(gi V.cpus c).up=true)(t0:0<=t)(t1:t<12)(hst:(Q7 V t).state=1)(hcp:(Q7 V t).cpu=c)(hcur:(Yn V c t).cur=t)(hb:zxw V c t (Yn V c t).ran)(m0:1<=m)(m1:m<=100):Tb (Pb T c t m):=by
 have wp:=iv.wp;have p:=Xk wp;have hht:=O0 p t0 t1 (by rw[hst]; decide);have hgl:=wp.a.gl;have htl:=wp.a.t;have c1T:c<(T.cpus.length:Int):=by rw[hM.l]; exact c1
 have eTc:gi T.cpus c=Yn V c t:=(hM.cp c c0).trans (if_pos rfl);have upT:(gi T.cpus c).up=true:=by rw[eTc]; unfold Yn; split <;> exact up
 have ranT:(gi T.cpus c).ran<50:=by rw[eTc]; exact hb.r1
 have hg:Q6 V.groups (Q7 V t).group=true:=hht.g;have huT:Q6 T.groups (Q7 T t).group=true:=by rw[hM.g.usd,J1 hM.tk]; exact hg
 have pT:YK T t=YK V t:=zhu hM.tk hM.g t;obtain⟨sE,rE,_,_,hlE,_,s1,r1,cp1⟩:=zgh sw rb hS.2 c0 c1T upT ranT t0 t1 huT (by omega) m1;obtain⟨pin,plen⟩:=AD sw.a huT;have hTG:QR V.groups (Pb T c t m).groups:=hM.g.trans cp1.g;have shT:∀i d:Int,0<=i->Qb T i d=Qb V i d:=fun i d hi=>by unfold Qb; rw[hM.s i hi]
 have hnd:(YK T t).Nodup:=by rw[pT]; exact zu4 wp.a.tree _ hg
 have eS:∀i d:Int,0<=i->0<=d->Qb (Pb T c t m) i d=if i∈YK V t/\c=d then Av V c m i else Qb V i d:=fun i d hi hd=>by
  have e:=ztw c0 (by omega) m1 (YK T t) hnd s1 r1 (by omega) c1T pin i d hi hd;have e':Qb (Pb T c t m) i d=if i∈YK T t/\c=d then Av T c m i else Qb T i d:=e;rw[e',pT,shT i d hi];have:Av T c m i=Av V c m i:=by unfold Av; rw[shT i c hi]
  rw[this]
 have fF:∀i d:Int,0<=i->0<=d->(Qb (Pb T c t m) i d).floor=(Qb V i d).floor:=fun i d hi hd=>by
  rw[eS i d hi hd]; split
  ·rename_i h; rw[<-h.2]; rfl
  ·rfl
 have fO:∀i d:Int,0<=i->0<=d->(Qb (Pb T c t m) i d).on=(Qb V i d).on:=fun i d hi hd=>by
  rw[eS i d hi hd]; split
  ·rename_i h; rw[<-h.2]; rfl
  ·rfl
 have fW:∀i d:Int,0<=i->0<=d->(Qb (Pb T c t m) i d).w=(Qb V i d).w:=fun i d hi hd=>by
  rw[eS i d hi hd]; split
  ·rename_i h; rw[<-h.2]; rfl
  ·rfl
 have fV:∀i d:Int,0<=i->0<=d->¬(i∈QX V.groups (Q7 V t).group/\c=d)->(Qb (Pb T c t m) i d).v=(Qb V i d).v:=fun i d hi hd hn=>by
  rw[eS i d hi hd]; split
  ·rename_i h
   have hz:¬i≠0:=fun hz=>by
    rcases List.mem_append.1 h.1 with h' | h'
    ·exact hn ⟨h',h.2⟩
    ·exact hz (List.mem_singleton.1 h')
   rw[<-h.2];show (if i≠0 then _ else _)=_;rw[if_neg hz]
  ·rfl
 have fP:∀i:Int,i∈QX V.groups (Q7 V t).group->(Qb (Pb T c t m) i c).v=(Qb V i c).v+Z3 m (Qb V i c).w:=fun i hi=>by
  obtain⟨iu,iz⟩:=YB wp.a.tree _ hg i hi;rw[eS i c (Q5.1 iu).1 c0,if_pos ⟨List.mem_append_left _ hi,rfl⟩];show (if i≠0 then _ else _)=_;rw[if_pos iz]
 have eK:∀i:Int,0<=i->Q7 (Pb T c t m) i=if t=i then L7 V t m else Q7 V i:=fun i hi=>by
  have h1:Q7 (Pb T c t m) i=gi (T.tasks.set t.toNat (L7 T t m)) i:=by
   show gi (zgg c m (YK T t) (setTk T t (L7 T t m))).tasks i=_;rw[cp1.t]; rfl
  have h2:L7 T t m=L7 V t m:=by unfold L7; rw[J1 hM.tk]
  rw[h1,QA _ _ t0 (by rw[hM.tk]; omega) hi,h2];split
  ·rfl
  ·exact J1 hM.tk i
 have eC:∀d:Int,0<=d->gi (Pb T c t m).cpus d=if c=d then zm0 T c m else gi V.cpus d:=fun d hd=>by
  have h1:gi (Pb T c t m).cpus d=gi (T.cpus.set c.toNat (zm0 T c m)) d:=by
   show gi ((zgg c m (YK T t) (setTk T t (L7 T t m))).cpus.set c.toNat (zm0 T c m)) d=_;rw[cp1.cp]; rfl
  rw[h1,QA _ _ c0 c1T hd];split
  ·rfl
  ·rename_i h;rw[hM.cp d hd,if_neg h]
 have wn:1<=Qc (Q7 V t).nice/\Qc (Q7 V t).nice<=20:=by
  have:=Yf (Q7 V t).nice;have:=hht.n;omega
 have hv0:∀w:Int,0<=Z3 m w:=fun w=>(G3 m w).1
 have hw20:∀i d:Int,Q6 V.groups i=true->0<=d->d<(V.cpus.length:Int)->1<=(Qb V i d).w/\(Qb V i d).w<=20:=fun i d hu d0 d1=>by
  have:=D7 wp hu d0 d1;exact⟨this.w1,this.w2⟩
 have vt:=zof hb.r0 (show 0<=m by omega) (by have:=hb.r1; omega) wn.1 wn.2
 have vp:∀i:Int,i∈QX V.groups (Q7 V t).group->Z3 ((Yn V c t).ran+m) (Qb V i c).w=Z3 (Yn V c t).ran (Qb V i c).w+Z3 m (Qb V i c).w/\Z3 (Yn V c t).ran (Qb V i c).w+Z3 m (Qb V i c).w<=Zo (Qb V i c).w:=fun i hi=>by
  have h:=hw20 i c (YB wp.a.tree _ hg i hi).1 c0 c1;exact zof hb.r0 (show 0<=m by omega) (by have:=hb.r1; omega) h.1 h.2
 have par0:∀i:Int,Q6 V.groups i=true->i≠0->0<=(gi V.groups i).parent:=fun i hu hz=>(Q5.1 (ZY wp.a.tree hu hz).1).1
 have hstd:∀i:Int,i∈QX V.groups (Q7 V t).group->Vn (Pb T c t m) i c:=fun i hi=>by
  obtain⟨iu,iz⟩:=YB wp.a.tree _ hg i hi;have i0:=(Q5.1 iu).1;unfold Vn;rw[hTG.p,fF _ c (par0 i iu iz) c0,fP i hi,fW i c i0 c0];have h1:=hb.p1 i hi;have h2:=hb.p2 i hi;have h3:=vp i hi;have:=hv0 (Qb V i c).w;omega
 refine⟨⟨sE.a,fun i a b=>?_,fun i a b n=>?_,fun k d hk d0 d1=>?_⟩,fun d d0 d1=>?_⟩
 ·have hrt:=rE.t i a b;rw[eK i a] at hrt ⊢;split
  ·rename_i he;rw[if_pos he] at hrt;refine .inr ⟨by show (Q7 V t).state≠0; rw[hst]; decide,hht.st,by rw[hTG.usd]; exact hg,hht.n,hht.m,hht.m0,Y3.2 ⟨hrt.1,by omega⟩,Y3.2 ⟨hrt.2.2.1,by omega⟩,hht.l1,hht.l2,fun _=>?_⟩;show (Qb (Pb T c t m) (Q7 V t).group (Q7 V t).cpu).floor<=(Q7 V t).v+Z3 m (Qc (Q7 V t).nice)/\(Q7 V t).v+Z3 m (Qc (Q7 V t).nice)-(Qb (Pb T c t m) (Q7 V t).group (Q7 V t).cpu).floor<=Zo (Qc (Q7 V t).nice);rw[hcp,fF _ c (Q5.1 hg).1 c0];have:=hb.t1;have:=hb.t2;have:=hv0 (Qc (Q7 V t).nice);omega
  ·rcases p.t i a b with h | ⟨h1,h2⟩
   ·exact .inl h
   ·refine .inr ⟨h1,h2.st,by rw[hTG.usd]; exact h2.g,h2.n,h2.m,h2.m0,h2.s,h2.u,h2.l1,h2.l2,fun hs=>?_⟩;rw[fF _ _ (Q5.1 h2.g).1 (p.l i a b h1).1];exact h2.f hs
 ·rw[hlE,hM.l];rw[eK i a] at n ⊢;split
  ·show 0<=(Q7 V t).cpu/\(Q7 V t).cpu<_;rw[hcp]; exact⟨c0,c1⟩
  ·rename_i he;rw[if_neg he] at n;exact p.l i a b n
 ·have hrs:=rE.s k d hk d0 d1;rw[hTG.usd] at hk;rw[hlE,hM.l] at d1;have k0:=(Q5.1 hk).1;have hp:=p.s k d hk d0 d1;refine⟨Y3.2 ⟨hrs.1,by omega⟩,fun hz=>?_,fun hz ho=>?_⟩
  ·have h:=hp.root hz;rw[fO k d k0 d0,fW k d k0 d0,fV k d k0 d0 fun h=>(YB wp.a.tree _ hg k h.1).2 hz];exact h
  ·rw[fO k d k0 d0] at ho
   by_cases hin:k∈QX V.groups (Q7 V t).group/\c=d
   ·obtain⟨h1,rfl⟩:=hin;exact hstd k h1
   ·have h:=hp.st hz ho;unfold Vn at h ⊢;rw[hTG.p,fF _ d (par0 k hk hz) d0,fV k d k0 d0 hin,fW k d k0 d0];exact h
 ·have hrc:=rE.c d d0 d1;rw[hlE,hM.l] at d1
  by_cases hd:c=d
  ·subst hd;have e:=(eC c c0).trans (if_pos rfl);have ecur:(gi (Pb T c t m).cpus c).cur=t:=by rw[e]; show (gi T.cpus c).cur=t; rw[eTc]; exact hcur
   have eran:(gi (Pb T c t m).cpus c).ran=(Yn V c t).ran+m:=by rw[e]; show (gi T.cpus c).ran+m=_; rw[eTc]
   have hr0:=hb.r0;have hr1:=hb.r1;refine⟨Y3.2 ⟨hrc.1,by omega⟩,Y3.2 ⟨hrc.2.2.1,by have:=hrc.2.2.2.1; omega⟩,by omega,by omega,fun h0=>by omega,fun _=>⟨by rw[e]; exact upT,by omega,by omega⟩,fun _ _ _=>?_⟩;rw[ecur,eran,eK t t0,if_pos rfl];refine⟨?_,fun x hx=>?_⟩
   ·show (Q7 V t).v+Z3 m (Qc (Q7 V t).nice)-(Qb (Pb T c t m) (Q7 V t).group c).floor<=Z3 ((Yn V c t).ran+m) (Qc (Q7 V t).nice);rw[fF _ c (Q5.1 hg).1 c0,vt.1];have:=hb.t1;omega
   ·have hx:x∈QX (Pb T c t m).groups (Q7 V t).group:=hx;rw[T7 hTG] at hx;obtain⟨xu,xz⟩:=YB wp.a.tree _ hg x hx;refine⟨hstd x hx,?_⟩;rw[hTG.p,fF _ c (par0 x xu xz) c0,fP x hx,fW x c (Q5.1 xu).1 c0,(vp x hx).1];have:=hb.p1 x hx;omega
  ·have e:=(eC d d0).trans (if_neg hd);have h:=p.c d d0 d1;refine⟨by rw[e]; exact h.b,by rw[e]; exact h.i,by rw[e]; exact h.c1,by rw[e]; exact h.c2,by rw[e]; exact h.no,by rw[e]; exact h.yes,?_⟩;rw[e];intro h0 h1 h2;rw[eK _ h0] at h1 h2 ⊢
   by_cases ht:t=(gi V.cpus d).cur
   ·rw[if_pos ht] at h2;have h2:(Q7 V t).cpu=d:=h2;exact absurd (hcp.symm.trans h2) hd
   ·rw[if_neg ht] at h1 h2 ⊢;obtain⟨q1,q2⟩:=h.q h0 h1 h2;have hgu:=(O0 p h0 h.c2 (by rw[h1]; decide)).g;refine⟨by rw[fF _ d (Q5.1 hgu).1 d0]; exact q1,fun x hx=>?_⟩;rw[T7 hTG] at hx;obtain⟨xu,xz⟩:=YB wp.a.tree _ hgu x hx;have x0:=(Q5.1 xu).1;have:=q2 x hx;unfold Vn at this ⊢;rw[hTG.p,fF _ d (par0 x xu xz) d0,fV x d x0 d0 fun h=>hd h.2,fW x d x0 d0];exact this
theorem zvi(W:Q8)(c n g:Int):Te W (Cp W c n g):=
 ((zbl W g c (Av W c n g)).trans (zmd (W:=L6 W c n g) (g:=g) (x:=BJ W c n g) rfl rfl rfl rfl rfl)).trans (zmc _ _ _)
theorem zn5(c n:Int):∀(l:List Int) (W:Q8),Te W (zgg c n l W)
 | [],W=>Te.refl _
 | g::l,W=>(zvi W c n g).trans (zn5 c n l _)
theorem zn6(W:Q8)(c g:Int):Te W (AH W c g).1:=by
 unfold AH;split
 ·exact Te.refl _
 ·exact zmc _ _ _
theorem zn7(c:Int):∀(l:List Int) (W:Q8),Te W (zfu c l W).1
 | [],W=>Te.refl _
 | g::l,W=>by
  simp only[zfu];split
  ·exact(zn6 W c g).trans (zn7 c l _)
  ·exact zn6 W c g
theorem zsr(W:Q8)(c t:Int):Te W (YU W c t):=zh2 (by unfold Yn; split <;> rfl)
theorem zox(W:Q8)(c t:Int):XK (Yn W c t)=XK (gi W.cpus c):=by unfold Yn; split <;> rfl
theorem zt8{f:Nat}{c left:Int}{W0 V:Q8}(h:AK f c W0 V left)(iv:J5 V):J5 (Qg (endW (setCp V c (Ll V c left)) c)):=by
 have p:=Xk iv.wp;have c0:=h.c0;have c1:=h.c1;have hK:=Gm h.f2;have hh0:(0:Int)<=Qq:=by decide
 have hst:Vm=173430457200:=rfl;obtain⟨sE,s1,i3,i4⟩:=zld h;have hl:(setCp V c (Ll V c left)).cpus.length=V.cpus.length:=List.length_set
 have hP:Tb (setCp V c (Ll V c left)):=by
  refine⟨⟨s1.a,fun t t0 t1=>(p.t t t0 t1).imp id fun h=>⟨h.1,h.2.gr rfl⟩,fun t t0 t1 n=>?_,fun k d hk d0 d1=>?_⟩,fun d d0 d1=>?_⟩
  ·rw[hl]; exact p.l t t0 t1 n
  ·rw[hl] at d1; exact(p.s k d hk d0 d1).cong rfl fun _=>rfl
  ·rw[hl] at d1;have hd:=p.c d d0 d1;have e:gi (setCp V c (Ll V c left)).cpus d=if c=d then Ll V c left else gi V.cpus d:=QA _ _ c0 c1 d0
   by_cases he:c=d
   ·subst he;have e:=e.trans (if_pos rfl);exact⟨by rw[e]; exact hd.b,by rw[e]; exact Y3.2 ⟨i3,by show (gi V.cpus c).idle+left<=_; omega⟩,by rw[e]; exact hd.c1,by rw[e]; exact hd.c2,by rw[e]; exact hd.no,by rw[e]; exact hd.yes,by rw[e]; exact hd.q⟩
   ·have e:=e.trans (if_neg he);exact⟨by rw[e]; exact hd.b,by rw[e]; exact hd.i,by rw[e]; exact hd.c1,by rw[e]; exact hd.c2,by rw[e]; exact hd.no,by rw[e]; exact hd.yes,by rw[e]; exact hd.q⟩
 exact Zk sE (by omega) (by omega) (hP.endW c0 (by rw[hl]; exact c1)) (((zh2 (W:=V) (c:=c) (x:=Ll V c left) rfl).loc rfl (Ux iv.wp)).endW _)
theorem zvd{f:Nat}{c left:Int}{W0 V:Q8}(h:AK (f+1) c W0 V left)(iv:J5 V)(hl:0<left)(hp:¬Qn V c<0):J5 (EC V c left).1:=by
 have hR:=zhx h hl hp;have c0:=h.c0;have c1:=h.c1;have hK:=Gm h.f2;have hSu:=zhy h.f2;have hh0:(0:Int)<=Qq:=by decide
 have hst:Vm=173430457200:=rfl;have hlg:Ql=34686091440:=rfl;have t0:=hR.line.t0;have t1:=hR.line.t1;obtain⟨q1,q2,q3,q4,q5,q6⟩:=EI h.sw h.rb c0 c1 h.up t0 t1;have eC:(YO V c).1.cpus=(YU V c (Qn V c)).cpus:=hR.tk.o.c;have lT:(YO V c).1.cpus.length=V.cpus.length:=by rw[eC]; exact q6
 have cT:c<((YO V c).1.cpus.length:Int):=by rw[lT]; exact c1
 have rT:RB (Bp (f+1)) (YO V c).1:=hR.r1.sum hR.tk.su hR.tk.o.g (by rw[eC]);have eT:(YO V c).1.tasks=V.tasks:=hR.tk.o.t;have eG:QR V.groups (YO V c).1.groups:=hR.tk.o.g;have eN:(YO V c).1.now=V.now:=hR.tk.o.n;have eSh:∀i:Int,0<=i->(gi (YO V c).1.groups i).shelves=(gi V.groups i).shelves:=hR.tk.o.s;have sT:Te V (YO V c).1:=(zsr V c (Qn V c)).trans (zn7 c _ _);have lcT:AJ (YO V c).1:=sT.loc eT (Ux iv.wp)
 have eCp:∀d:Int,0<=d->gi (YO V c).1.cpus d=if c=d then Yn V c (Qn V c) else gi V.cpus d:=fun d hd=>by
  rw[eC]; exact QA _ _ c0 c1 hd
 have hRW:EC V c left=if (YO V c).2=true then (Qg (Pb (YO V c).1 c (Qn V c) (Uy V c left)),left-Uy V c left) else (Qg (endW (YO V c).1 c),left):=rfl;rw[hRW]
 by_cases gt:(YO V c).2=true
 ·rw[if_pos gt];obtain⟨m1,m2⟩:=hR.m gt;obtain⟨sC,rC⟩:=hR.ch gt;have hl1:=h.l1;have hb:=ztr iv c0 c1 hR.line hp;have es:gi (YU V c (Qn V c)).cpus c=Yn V c (Qn V c):=(QA _ _ c0 c1 c0).trans (if_pos rfl);rw[es] at hb q5;have hP:Tb (Pb (YO V c).1 c (Qn V c) (Uy V c left)):=zwe iv ⟨eT,eG,eSh,eCp,lT⟩ hR.tk.sw rT ⟨by omega,by omega⟩ c0 c1 h.up t0 t1 hR.line.st hR.line.cpu q5 hb m1 (by omega);refine Zk sC (by omega) (by omega) hP ?_;have uT:Q6 (YO V c).1.groups (Q7 (YO V c).1 (Qn V c)).group=true:=by rw[eG.usd,J1 eT]; exact hR.us
  have upT:(gi (YO V c).1.cpus c).up=true:=by rw[eC]; exact q3
  have ranT:(gi (YO V c).1.cpus c).ran<50:=by rw[eC]; exact hR.ran
  have cp1:=(zgh (t:=Qn V c) (n:=Uy V c left) hR.tk.sw rT (by omega) c0 cT upT ranT t0 t1 uT (by omega) (by omega)).2.2.2.2.2.2.2.2;have l1:AJ (setTk (YO V c).1 (Qn V c) (L7 (YO V c).1 (Qn V c) (Uy V c left))):=lcT.setTk hR.tk.sw.a t0 t1 fun n=>lcT _ t0 t1 n
  have l2:=(zn5 c (Uy V c left) (YK (YO V c).1 (Qn V c)) (setTk (YO V c).1 (Qn V c) (L7 (YO V c).1 (Qn V c) (Uy V c left)))).loc cp1.t l1;refine Te.loc (zh2 ?_) rfl l2;show (gi (YO V c).1.cpus c).up=(gi (zgg c (Uy V c left) (YK (YO V c).1 (Qn V c)) (setTk (YO V c).1 (Qn V c) (L7 (YO V c).1 (Qn V c) (Uy V c left)))).cpus c).up;rw[cp1.cp]; rfl
 ·rw[if_neg gt]
  have hE:endW (YO V c).1 c=endW { (YO V c).1 with cpus:=V.cpus } c:=by
   have e1:=(eCp c c0).trans (if_pos rfl);show ({ (YO V c).1 with cpus:=(YO V c).1.cpus.set c.toNat (XK (gi (YO V c).1.cpus c)) }:Q8)={ (YO V c).1 with cpus:=V.cpus.set c.toNat (XK (gi V.cpus c)) };rw[e1,zox,eC];show ({ (YO V c).1 with cpus:=(V.cpus.set c.toNat (Yn V c (Qn V c))).set c.toNat (XK (gi V.cpus c)) }:Q8)=_;rw[List.set_set]
  have ha:WA ({ (YO V c).1 with cpus:=V.cpus }:Q8):=hR.tk.sw.a.cp lT.symm iv.wp.a.ups;have p2:Tb ({ (YO V c).1 with cpus:=V.cpus }:Q8):=(Xk iv.wp).onlyB ⟨eN,rfl,eT,eG,eSh⟩ ha;have hloc:=lcT.endW c;have sE:=hR.tk.sw.endW c0 cT;rw[hE] at hloc sE ⊢;exact Zk sE (by omega) (by omega) (p2.endW c0 c1) hloc
theorem zj1{c:Int}{W0:Q8}:∀(f:Nat) {V:Q8} {left:Int},AK f c W0 V left->J5 V->J5 (An c f V left)
 | 0,V,left,h,_=>by
  have:=h.f1;have:=h.l0;omega
 | f+1,V,left,h,iv=>by
  have hK:=Gm h.f2;have hh0:(0:Int)<=Qq:=by decide
  have hst:Vm=173430457200:=rfl
  by_cases hl:left<=0
  ·rw[zbd hl];exact Zk h.sw (by omega) (by omega) (Xk iv.wp) (Ux iv.wp)
  ·by_cases hp:Qn V c<0
   ·rw[Bn hl hp];exact zt8 h iv
   ·rw[Bo hl hp];have hR:=zhx h (by omega) hp;exact zj1 f hR.nx (zvd h iv (by omega) hp)
theorem zuh{W:Q8}{c n:Int}(iv:J5 W)(hb:D6 W c n=0):J5 (zl4 W c n):=zj1 400 (zl5 (Qh.2 iv.wp) hb).2.2.2.2 iv
theorem zo7{W:Q8}(iv:J5 W){c:Int}(c0:0<=c)(c1:c<(W.cpus.length:Int)):J5 (endW W c):=by
 have wp:=iv.wp;have hl:(endW W c).cpus.length=W.cpus.length:=List.length_set;have e:∀d:Int,0<=d->gi (endW W c).cpus d=if c=d then XK (gi W.cpus c) else gi W.cpus d:=fun d d0=>QA _ _ c0 c1 d0
 have sta:=Gq W c
 have ha:WA (endW W c):=wp.a.cp (cs:=W.cpus.set c.toNat (XK (gi W.cpus c))) List.length_set (by
  rw[show Jr (W.cpus.set c.toNat (XK (gi W.cpus c)))=Jr W.cpus from sta.ups];exact wp.a.ups)
 refine⟨⟨ha,fun t t0 t1=>?_,fun k d k0 k1 d0 d1=>?_,fun d d0 d1=>?_⟩,fun k d hu d0 d1 hb=>?_⟩
 ·rcases wp.t t t0 t1 with hz | ⟨n,hx⟩
  ·exact .inl hz
  ·refine .inr ⟨n,hx.st,hx.g,hx.n,hx.m,hx.m0,hx.v,hx.s,hx.u,hx.l1,hx.l2,?_,hx.f⟩;rw[sta.wh]; exact hx.c
 ·have hs:=wp.s k d k0 k1 d0 d1;exact⟨hs.f,hs.v,hs.s,hs.w1,hs.w2,hs.root,hs.on,hs.st⟩
 ·rw[hl] at d1;have h:=wp.c d d0 d1
  by_cases hd:c=d
  ·subst hd;have e1:=(e c c0).trans (if_pos rfl);refine⟨by rw[e1]; exact h.b,by rw[e1]; exact h.i,by rw[e1]; show (-1:Int)<=-1; decide,by rw[e1]; show (-1:Int)<_; have:=wp.a.t; show (-1:Int)<(W.tasks.length:Int); omega,fun _=>by rw[e1]; rfl,fun h0=>?_⟩;rw[e1] at h0;have h0:(0:Int)<=-1:=h0;omega
  ·have e1:=(e d d0).trans (if_neg hd);refine⟨by rw[e1]; exact h.b,by rw[e1]; exact h.i,by rw[e1]; exact h.c1,by rw[e1]; exact h.c2,by rw[e1]; exact h.no,fun h0=>?_⟩;rw[e1] at h0 ⊢;obtain⟨y1,y2,y3,y4,y5,y6⟩:=h.yes h0;refine⟨y1,y2,y3,y4,y5,?_⟩;unfold PJ at y6 ⊢;rw[e1];exact y6
 ·rw[hl] at d1;exact iv.fl k d hu d0 d1 hb
def Ek(W:Q8)(t g:Int):Int:=if QP (Qp W g (Q7 W t).mask) (Q7 W t).cpu=true then (Q7 W t).cpu else GM (Qp W g (Q7 W t).mask)
noncomputable def zdn(W:Q8)(t g:Int):Int:=if Zz W t=false\/Q6 W.groups g=false then 2 else if QG W=false then 10 else 0
def zhg(W:Q8)(t g:Int):Q8:=if (Q7 W t).group=g then W else Qg (Vk (QQ W t) t g (Ek W t g))
theorem znq{W:Q8}(wp:YW W){t g:Int}(t0:0<=t)(t1:t<12)(n:(Q7 W t).state≠0):0<=Ek W t g/\Ek W t g<(W.cpus.length:Int)/\QP (Qp W g (Q7 W t).mask) (Ek W t g)=true:=by
 unfold Ek;split
 ·rename_i h;have:=(Xk wp).l t t0 t1 n;exact⟨this.1,this.2,h⟩
 ·have hw:=G5 wp.a g (Q7 W t).mask;have hf:=Gv wp.a g (Q7 W t).mask;exact⟨hf.1,hf.2,Ei hw.1 hw.2⟩
theorem zue{W:Q8}{t g:Int}(iv:J5 W)(hb:zdn W t g=0):J5 (zhg W t g):=by
 have wp:=iv.wp;unfold zdn at hb
 split at hb
 ·cases hb
 ·rename_i h1
  split at hb
  ·cases hb
  ·rename_i h3;have hth:Zz W t=true:=by cases h:Zz W t with | true=>rfl | false=>exact absurd (.inl h) h1
   have hu:Q6 W.groups g=true:=by cases h:Q6 W.groups g with | true=>rfl | false=>exact absurd (.inr h) h1
   have hr:QG W=true:=by simpa using h3
   obtain⟨t0,t1,n⟩:=Yc hth;have htl:=wp.a.t;unfold zhg;split
   ·exact iv
   ·obtain⟨m0,m1,m2⟩:=znq wp (g:=g) t0 (by omega) n;have sw:=PK wp (Qh.1 hr);obtain⟨c0,c1⟩:=(Xk wp).l t t0 (by omega) n
    have key:Tb (QQ W t)/\Te W (QQ W t)/\SW Qq (QQ W t)/\Q7 (QQ W t) t=Q7 W t/\(QQ W t).tasks=W.tasks/\(QQ W t).groups=W.groups:=by
     unfold QQ;split
     ·exact⟨(Xk wp).endW c0 c1,Gq _ _,sw.endW c0 c1,rfl,rfl,rfl⟩
     ·exact⟨Xk wp,Te.refl _,sw,rfl,rfl,rfl⟩
    obtain⟨k1,k2,k3,k4,k5,k6⟩:=key;have hlo:=k2.loc k5 (Ux wp);have hu2:Q6 (QQ W t).groups g=true:=by rw[k6]; exact hu
    have hm1:Ek W t g<((QQ W t).cpus.length:Int):=by rw[k2.len]; exact m1
    have sf:=(AE (MY k3) (Int.le_refl _) (t:=t) t0 (by omega) hu2 m0 hm1).2;refine Zk sf.w (by simp only[Ql]; decide) (by simp only[Ql,Vm]; decide) (zba k1 t0 (by omega) (by rw[k4]; exact n) hu2 m0 hm1) fun i i0 i1 hn=>?_
    rw[(AG (QQ W t) t g (Ek W t g)).wh];rw[zl0 k1.a.t t0 (by omega) i0] at hn ⊢
    split at hn
    ·rename_i he;rw[if_pos he];show QP (Qp (QQ W t) g (Q7 (QQ W t) t).mask) (Ek W t g)=true;rw[k4,k2.wh]; exact m2
    ·rename_i he;rw[if_neg he];exact hlo i i0 i1 hn
structure zfx (W:Q8) (g:Int):Prop where
 g1:1<=g
 us:Q6 W.groups g=true
 nk:∀h:Int,1<=h->h<8->(gi W.groups h).used=true->(gi W.groups h).parent≠g
 nt:∀t:Int,0<=t->t<12->(Q7 W t).state≠0->(Q7 W t).group≠g
def XO(W:Q8)(g:Int):Q8:=setGr W g zbz
section
variable {W:Q8}{g:Int}
theorem zfx.g8(h:zfx W g)(ha:WA W):g<8:=by
 have:=ha.gl;have:=(Q5.1 h.us).2.1;omega
theorem H5(ha:WA W)(h:zfx W g){i:Int}(hi:0<=i):gi (XO W g).groups i=if g=i then zbz else gi W.groups i:=Yt (by have:=h.g1; omega) (Q5.1 h.us).2.1 hi
theorem HD(ha:WA W)(h:zfx W g){k:Int}(hu:Q6 W.groups k=true)(hk:k≠g):gi (XO W g).groups k=gi W.groups k:=by
 rw[H5 ha h (Q5.1 hu).1,if_neg fun e=>hk e.symm]
theorem zgl(ha:WA W):(XO W g).groups.length=8:=by
 have:=ha.gl;simp[XO,setGr]; omega
theorem Cr(ha:WA W)(h:zfx W g){k:Int}(hu:Q6 W.groups k=true)(hz:k≠0):(gi W.groups k).parent≠g:=by
 obtain⟨a,b,c⟩:=Q5.1 hu;have:=ha.gl;exact h.nk k (by omega) (by omega) c
theorem Aw(ha:WA W)(h:zfx W g){k:Int}:Q6 (XO W g).groups k=true↔Q6 W.groups k=true/\k≠g:=by
 have hgl:=ha.gl;rw[Q5,Q5,zgl ha,hgl];constructor
 ·rintro⟨x,y,z⟩;rw[H5 ha h x] at z
  by_cases e:g=k
  ·rw[if_pos e] at z; cases z
  ·rw[if_neg e] at z;exact⟨⟨x,y,z⟩,fun e2=>e e2.symm⟩
 ·rintro⟨⟨x,y,z⟩,e⟩;refine⟨x,y,?_⟩;rw[H5 ha h x,if_neg fun e2=>e e2.symm];exact z
theorem zq1(ha:WA W)(h:zfx W g):∀(f:Nat) (k:Int),Q6 W.groups k=true->k≠g->dep f (XO W g).groups k=dep f W.groups k
 | 0,_,_,_=>rfl
 | f+1,k,hu,hk=>by
  by_cases hz:k=0
  ·subst hz; rw[Yk,Yk]
  ·have ih:=zq1 ha h f _ (ZY ha.tree hu hz).1 (Cr ha h hu hz);simp only[dep];rw[HD ha h hu hk,ih]
theorem zgm(ha:WA W)(h:zfx W g):∀(f:Nat) (k:Int),Q6 W.groups k=true->k≠g->Um f (XO W g).groups k=Um f W.groups k
 | 0,_,_,_=>rfl
 | f+1,k,hu,hk=>by
  by_cases hz:k=0
  ·subst hz; rw[Za,Za]
  ·have ih:=zgm ha h f _ (ZY ha.tree hu hz).1 (Cr ha h hu hz);simp only[Um];rw[HD ha h hu hk,ih]
theorem zk2(ha:WA W)(h:zfx W g):∀k:Int,Q6 W.groups k=true->k≠g->∀x∈QX W.groups k,x≠g:=
 PD ha.tree (fun _ x hx=>by rw[show QX W.groups 0=[] from Za _ _] at hx; cases hx) fun k hu hz ih hk x hx=>by
  rw[Ys ha.tree hu hz] at hx;rcases List.mem_cons.1 hx with e | e
  ·rw[e]; exact hk
  ·exact ih (Cr ha h hu hz) x e
theorem zty(ha:WA W)(h:zfx W g):ZX (XO W g).groups:=by
 have ht:=ha.tree;have r:=HD ha h ha.root (by have:=h.g1; omega)
 have sp:∀{k:Int},1<=k->k<8->(gi (XO W g).groups k).used=true->Q6 W.groups k=true/\k≠g/\gi (XO W g).groups k=gi W.groups k:=fun {k} b d hh=>by
  have:=(Aw ha h).1 (Q5.2 ⟨by omega,by rw[zgl ha]; omega,hh⟩);exact⟨this.1,this.2,HD ha h this.1 this.2⟩
 refine⟨zgl ha,by rw[r]; exact ht.ru,by rw[r]; exact ht.rp,by rw[r]; exact ht.rn,fun k b d hh=>?_,fun k b d hh=>?_,fun k b d hh=>?_,fun x k b d e hx hk=>?_⟩
 ·obtain⟨_,_,e⟩:=sp b d hh;rw[e] at hh ⊢; exact ht.nm k b d hh
 ·obtain⟨_,_,e⟩:=sp b d hh;rw[e] at hh ⊢;exact(Aw ha h).2 ⟨ht.par k b d hh,h.nk k b d hh⟩
 ·obtain⟨u,n,_⟩:=sp b d hh;rw[zq1 ha h 3 k u n]; exact ht.dp k b d (Q5.1 u).2.2
 ·rintro⟨q1,q2⟩;obtain⟨u1,_,e1⟩:=sp (by omega) e hx;obtain⟨u2,_,e2⟩:=sp b (by omega) hk;rw[e1,e2] at q1 q2;exact ht.uniq x k b d e (Q5.1 u1).2.2 (Q5.1 u2).2.2 ⟨q1,q2⟩
theorem Ka(ha:WA W)(h:zfx W g){k c:Int}(hu:Q6 W.groups k=true)(hk:k≠g):Qb (XO W g) k c=Qb W k c:=by
 unfold Qb;rw[HD ha h hu hk]
theorem ztx(wp:YW W)(h:zfx W g){c:Int}:QO W g c=false:=by
 have hl:=wp.a.gl;have ht:=wp.a.t
 have e1:∀j,j<W.tasks.length->On W g c j=false:=fun j hj=>by
  unfold On
  cases hs:((gi W.tasks (j:Int)).state==1) with
  | false=>rfl
  | true=>
   have hs:(gi W.tasks (j:Int)).state=1:=by simpa using hs
   have:(gi W.tasks (j:Int)).group≠g:=h.nt (j:Int) (by omega) (by omega) (by rw[show (Q7 W (j:Int)).state=1 from hs]; decide);rw[show ((gi W.tasks (j:Int)).group==g)=false by simpa using this];rfl
 have e2:∀j,j<W.groups.length->Jg W g c j=false:=fun j hj=>by
  unfold Jg
  by_cases hj1:1<=j
  ·cases hs:(gi W.groups (j:Int)).used with
   | false=>simp
   | true=>
    have:=h.nk (j:Int) (by omega) (by omega) hs;rw[show ((gi W.groups (j:Int)).parent==g)=false by simpa using this];simp
  ·rw[decide_eq_false hj1]; rfl
 unfold QO;rw[Mz e1,Mz e2];rfl
theorem zwh(wp:YW W)(h:zfx W g){c:Int}(c0:0<=c)(c1:c<(W.cpus.length:Int)):(Qb W g c).on=false:=by
 have g1:=h.g1;have:=(wp.s g c (by omega) (h.g8 wp.a) c0 (by rw[wp.a.sl h.us]; exact c1)).on (by omega);rw[this,ztx wp h]; rfl
theorem zm4(wp:YW W)(h:zfx W g){k c:Int}(c0:0<=c)(c1:c<(W.cpus.length:Int))(j:Nat):Jg (XO W g) k c j=Jg W k c j:=by
 have ha:=wp.a;unfold Jg
 by_cases e:g=(j:Int)
 ·rw[H5 ha h (by omega),if_pos e,<-e,zwh wp h c0 c1];simp[zbz]
 ·rw[H5 ha h (by omega),if_neg e]
  have:Qb (XO W g) (j:Int) c=Qb W (j:Int) c:=by
   unfold Qb;rw[H5 ha h (by omega),if_neg e]
  rw[this]
theorem zwg(wp:YW W)(h:zfx W g){k c:Int}(c0:0<=c)(c1:c<(W.cpus.length:Int)):QO (XO W g) k c=QO W k c:=by
 unfold QO;rw[show Tg (On (XO W g) k c) (XO W g).tasks.length=Tg (On W k c) W.tasks.length from rfl,zgl wp.a,wp.a.gl];rw[My fun j _=>zm4 wp h c0 c1 j]
theorem zwi(ha:WA W)(h:zfx W g){k:Int}(hu:Q6 W.groups k=true)(hk:k≠g)(u:Int):VB (XO W g).groups k u=VB W.groups k u:=by
 have e:QX (XO W g).groups k=QX W.groups k:=zgm ha h 3 k hu hk;have g1:=h.g1;unfold VB;rw[e];refine Fz _ _ fun s x hx=>?_
 have hxu:Q6 W.groups x=true/\x≠g:=by
  rcases List.mem_append.1 hx with hx | hx
  ·exact⟨(YB ha.tree k hu x hx).1,zk2 ha h k hu hk x hx⟩
  ·rw[List.mem_singleton.1 hx]; exact⟨ha.root,by omega⟩
 rw[HD ha h hxu.1 hxu.2]
theorem zx8(ha:WA W)(h:zfx W g){k:Int}(hu:Q6 W.groups k=true)(hk:k≠g)(m:Int):Qp (XO W g) k m=Qp W k m:=zta (W:=W) (W':=XO W g) rfl (zwi ha h hu hk) m
theorem zub(iv:J5 W)(h:zfx W g):J5 (XO W g):=by
 have wp:=iv.wp;have ha:=wp.a;have g1:=h.g1;have g8:=h.g8 ha;have hgl:=ha.gl;have hpu:∀{k:Int},Q6 W.groups k=true->k≠0->Q6 W.groups (gi W.groups k).parent=true:=fun hu hz=>(ZY ha.tree hu hz).1
 have hA:WA (XO W g):=by
  refine⟨ha.n1,ha.n2,ha.c1,ha.c2,ha.t,zty ha h,ha.ups,fun k k0 k1=>?_⟩;unfold Md;rw[H5 ha h k0];split
  ·exact⟨fun _=>⟨rfl,rfl,rfl,rfl,rfl,rfl,rfl,rfl,show TN ⟨0,0,0,[],[]⟩=true by decide⟩,fun hh=>by cases hh⟩
  ·have:=ha.grp k k0 k1;exact⟨this.1,fun hu=>by have:=this.2 hu; exact⟨this.w1,this.w2,this.m,this.m0,this.s,this.len,this.root,this.none,this.band⟩⟩
 refine⟨⟨hA,fun t t0 t1=>?_,fun k c k0 k1 c0 c1=>?_,fun c c0 c1=>?_⟩,fun k c hu c0 c1 hb=>?_⟩
 ·rcases wp.t t t0 t1 with hz | ⟨n,hx⟩
  ·exact .inl hz
  ·have hn:=h.nt t t0 t1 n;refine .inr ⟨n,hx.st,(Aw ha h).2 ⟨hx.g,hn⟩,hx.n,hx.m,hx.m0,hx.v,hx.s,hx.u,hx.l1,hx.l2,?_,fun hs=>?_⟩
   ·rw[show (Q7 (XO W g) t)=Q7 W t from rfl,zx8 ha h hx.g hn]; exact hx.c
   ·rw[show (Q7 (XO W g) t)=Q7 W t from rfl,Ka ha h hx.g hn]; exact hx.f hs
 ·by_cases e:g=k
  ·subst e;rw[H5 ha h k0,if_pos rfl] at c1;have c1:c<(0:Int):=c1;omega
  ·have hg:gi (XO W g).groups k=gi W.groups k:=by rw[H5 ha h k0,if_neg e]
   have e2:k≠g:=fun h=>e h.symm
   rw[hg] at c1
   have hu:Q6 W.groups k=true:=by
    cases hh:(gi W.groups k).used with
    | true=>exact Q5.2 ⟨k0,by omega,hh⟩
    | false=>
     have:=((ha.grp k k0 k1).1 hh).l;omega
   have cl:c<(W.cpus.length:Int):=by rw[<-ha.sl hu]; exact c1
   have hs:=wp.s k c k0 k1 c0 c1;have es:=Ka ha h (c:=c) hu e2;refine⟨by rw[es]; exact hs.f,by rw[es]; exact hs.v,by rw[es]; exact hs.s,by rw[es]; exact hs.w1,by rw[es]; exact hs.w2,fun hz=>by rw[es]; exact hs.root hz,fun hz=>?_,fun hz ho=>?_⟩
   ·rw[es,zwg wp h c0 cl,show UB (XO W g) k c=UB W k c by unfold UB; rw[hg]];exact hs.on hz
   ·rw[es] at ho;rw[es,hg,Ka ha h (hpu hu hz) (Cr ha h hu hz)];exact hs.st hz ho
 ·have hc:=wp.c c c0 c1;refine⟨hc.b,hc.i,hc.c1,hc.c2,hc.no,fun h0=>?_⟩;have h0:0<=(gi W.cpus c).cur:=h0;obtain⟨y1,y2,y3,y4,y5,y6⟩:=hc.yes h0;have hl:=ha.t;have hc2:=hc.c2
  have hgu:Q6 W.groups (Q7 W (gi W.cpus c).cur).group=true/\(Q7 W (gi W.cpus c).cur).group≠g:=by
   rcases wp.t _ h0 (by omega) with hz | ⟨n,hx⟩
   ·unfold Z9 at y5;rw[hz.1] at y5;simp at y5
   ·exact⟨hx.g,h.nt _ h0 (by omega) n⟩
  obtain⟨hgu,hgn⟩:=hgu;have hpt:QX (XO W g).groups (Q7 W (gi W.cpus c).cur).group=QX W.groups (Q7 W (gi W.cpus c).cur).group:=zgm ha h 3 _ hgu hgn;refine⟨y1,y2,y3,y4,?_,?_⟩
  ·unfold Z9 UF at y5 ⊢;rw[show (gi (XO W g).cpus c).cur=(gi W.cpus c).cur from rfl,show Q7 (XO W g) (gi W.cpus c).cur=Q7 W (gi W.cpus c).cur from rfl,hpt];rw[Bool.and_eq_true,List.all_eq_true] at y5 ⊢;exact⟨y5.1,fun x hx=>by rw[Ka ha h (YB ha.tree _ hgu x hx).1 (zk2 ha h _ hgu hgn x hx)]; exact y5.2 x hx⟩
  ·unfold PJ Tl at y6 ⊢;rw[show (gi (XO W g).cpus c).cur=(gi W.cpus c).cur from rfl,show (gi (XO W g).cpus c).ran=(gi W.cpus c).ran from rfl,show Q7 (XO W g) (gi W.cpus c).cur=Q7 W (gi W.cpus c).cur from rfl,hpt,Ka ha h hgu hgn];rw[Bool.and_eq_true,List.all_eq_true] at y6 ⊢;refine⟨y6.1,fun x hx=>?_⟩;obtain⟨xu,xz⟩:=YB ha.tree _ hgu x hx;have xg:=zk2 ha h _ hgu hgn x hx;rw[Ka ha h xu xg,HD ha h xu xg,Ka ha h (hpu xu xz) (Cr ha h xu xz)];exact y6.2 x hx
 ·have cl:c<(W.cpus.length:Int):=c1;obtain⟨hk,hkg⟩:=(Aw ha h).1 hu
  have hmem:∀j,j<20->Ze (XO W g) k c j=Ze W k c j:=fun j hj=>by
   by_cases hj12:j<12
   ·rw[T5 hj12,T5 hj12]; rfl
   ·rw[show j=12+(j-12) by omega,JW,JW,zm4 wp h c0 cl (j-12)]
  have hv:∀j,j<20->Ze (XO W g) k c j=true->Zf (XO W g) c j=Zf W c j:=fun j hj hm=>by
   unfold Zf;split
   ·rfl
   ·rename_i hj12;have hm2:=hm;rw[show j=12+(j-12) by omega,JW] at hm2;unfold Jg at hm2;simp only[Bool.and_eq_true] at hm2
    have hne:((j-12:Nat):Int)≠g:=fun e=>by
     have hu2:=hm2.1.2.1;rw[H5 ha h (by omega),if_pos e.symm] at hu2;cases hu2
    rw[hmem j hj,show j=12+(j-12) by omega,JW] at hm;unfold Jg at hm;simp only[Bool.and_eq_true] at hm;rw[Ka ha h (Q5.2 ⟨by omega,by omega,hm.1.2.1⟩) hne]
  have e:QI (Ze (XO W g) k c) (Zf (XO W g) c) 20=QI (Ze W k c) (Zf W c) 20:=M6 hmem hv;have hfl:=iv.fl k c hk c0 cl (by unfold ZK at hb ⊢; rwa[e] at hb);rw[Ka ha h hk hkg];refine Int.le_trans (Int.le_of_eq ?_) hfl;unfold ZK at hb;have hb:=Ot hb;rw[e] at hb;unfold Z7;rw[e,if_neg (by omega),if_neg (by omega)];rcases Zb (Ze W k c) (Zf W c) 20 with ⟨q,_⟩ | ⟨_,q2,q3,_⟩
  ·omega
  ·have hlt:(QI (Ze W k c) (Zf W c) 20).toNat<20:=by omega
   exact hv _ hlt (by rw[hmem _ hlt]; exact q3)
def zqi(W:Q8)(g:Int):Prop:=(∃h:Int,1<=h/\h<8/\(gi W.groups h).used=true/\(gi W.groups h).parent=g)\/∃t:Int,0<=t/\t<12/\(Q7 W t).state≠0/\(Q7 W t).group=g
noncomputable def Fl(W:Q8)(g:Int):Int:=if g=0 then 1 else if Q6 W.groups g=false then 2 else if JJ (zqi W g)=true then 4 else if QG W=false then 10 else 0
theorem zwj{W:Q8}{g:Int}(hb:Fl W g=0):zfx W g/\QG W=true:=by
 unfold Fl at hb
 split at hb
 ·cases hb
 rename_i h1
 split at hb
 ·cases hb
 rename_i h2
 split at hb
 ·cases hb
 rename_i h3
 split at hb
 ·cases hb
 rename_i h4;have h3:¬zqi W g:=fun h=>h3 (Qh.2 h)
 have hu:Q6 W.groups g=true:=by simpa using h2
 have:=(Q5.1 hu).1;exact⟨⟨by omega,hu,fun h a b c d=>h3 (.inl ⟨h,a,b,c,d⟩),fun t a b c d=>h3 (.inr ⟨t,a,b,c,d⟩)⟩,by simpa using h4⟩
end
def zby(W:Q8)(c:Int):Int:=if Yi W c=false then 1 else if (gi W.cpus c).cur<0 then 6 else 0
theorem zxr{W:Q8}{c:Int}(h:zby W c=0):Yi W c=true/\0<=(gi W.cpus c).cur:=by
 unfold zby at h
 split at h
 ·cases h
 ·rename_i h1
  split at h
  ·cases h
  ·exact⟨by simpa using h1,by omega⟩
section
variable {W:Q8}{m:MW}{w:Wo}{bs:List Nat}
theorem Eb{c:Int}(h:Xt [] w W m)(hl:X5 W) :
  Cz Ve #[.agg (Qa W m).toArray,.int .i64 c] w fun e w'=>∃v,e=.returned v/\QE (Xc W (zby W c) (endW W c)) w v w':=by
 refine DS W.now m.cO W.cpus.length m.cC m.tO W.tasks.length m.tC m.gO W.groups.length m.gC c (R:=fun v w'=>QE (Xc W (zby W c) (endW W c)) w v w') ?_;intro y hy y1 hy1;have hm0:=Xb;have hlc:=hl.c;refine⟨_,YJ h hl.c hl.t hl.g hl.f,fun g wr hx=>QE.bad (by simpa using g) hx,fun g wr hx2 hs2=>?_⟩;have hW:Qv W=true:=by simpa using g
 have wp:=Qh.1 hW;refine Calls.mono (OZ (h.ext hx2) wp.a) ?_;rintro e wv ⟨m',he,hM,hy2⟩;have hK:=Wk.begin hy hy1 hx2 hs2 hM hy2;have hr:=hK.rd;refine⟨_,_,_,_,_,_,_,_,_,_,he,Qe hy2 hs2,⟨by omega,by omega⟩,Yi W c,Qi,fun g wr1 hx3=>?_,fun g=>?_⟩
 ·have hb:zby W c=1:=by unfold zby; rw[if_pos (by simpa using g)]
  exact QE.no hW (by rw[hb]; decide) (hK.step hx3) hb
 have g:Yi W c=true:=by simpa using g
 obtain⟨c0,c1⟩:=J7 g;refine⟨hr.c.ix ZH c0 c1,_,hr.c.f c0 c1 (j:=1) rfl,fun g2 wr2 hx3=>?_,fun g2 wr4 hx4 hs4=>?_⟩
 ·have g2:=Ot g2;have hb:zby W c=6:=by unfold zby; rw[if_neg (by rw[g]; decide),if_pos g2]
  exact QE.no hW (by rw[hb]; decide) (hK.step hx3) hb
 have g2:=Ou g2;have hb:zby W c=0:=by unfold zby; rw[if_neg (by rw[g]; decide),if_neg g2]
 have hK4:=hK.step hx4;refine Calls.mono (Zn hK4.own c0 c1) ?_;rintro e1 wv1 ⟨he1,hy3⟩;exact⟨_,_,_,_,_,_,_,_,_,_,he1,hK4.kept hy3 hs4,fun wr5 hx5=>QE.ok hW hb ((hK4.deed hy3 hs4).step hx5)⟩
theorem zow(V:Q8)(t g c:Int)(m:MW):Qa (Vk V t g c) m=Qa V m:=by
 unfold Vk
 split <;> simp[Qa,endW,setCp,setTk]
theorem zw4{K:Int}{W:Q8}(sw:SW K W){t:Int}(t0:0<=t)(t1:t<12)(n:(Q7 W t).state≠0):SW K (QQ W t):=by
 unfold QQ;split
 ·have:=sw.t t t0 t1 n;exact sw.endW this.2.1 this.2.2
 ·exact sw
theorem NS{t g:Int}(h:Xt [] w W m)(hl:X5 W) :
  Cz Tv #[.agg (Qa W m).toArray,.int .i64 t,.int .i64 g] w fun e w'=>∃v,e=.returned v/\QE (Xc W (zdn W t g) (zhg W t g)) w v w':=by
 refine NB W.now m.cO W.cpus.length m.cC m.tO W.tasks.length m.tC m.gO W.groups.length m.gC t g (R:=fun v w'=>QE (Xc W (zdn W t g) (zhg W t g)) w v w') ?_;intro y hy y1 hy1 wr hx2 hs2;refine Calls.mono (Z5 (h.ext hx2) hl) ?_;rintro e wv (⟨hW,he,hy2⟩ | ⟨hW,m',he,hM,hy2⟩)
 ·exact⟨_,_,_,_,_,_,_,_,_,_,_,he,Qe hy2 hs2,fun _ wr1 hx3=>QE.bad hW ((hx2.trans hy2).fresh hx3 fun z hm=>.inl (YC hy hy1 z hm)),fun g=>by simp at g⟩
 have hK:=Wk.begin hy hy1 hx2 hs2 hM hy2;have hr:=hK.rd;have wp:=Qh.1 hW;have htl:=wp.a.t;refine⟨_,_,_,_,_,_,_,_,_,_,_,he,Qe hy2 hs2,fun g=>by split at g <;> simp at g,fun _=>⟨_,XL hr hl.t,_,fun _=>X4 hr.g,fun q wr2 hx3=>?_,fun q=>?_⟩⟩
 ·have hb:zdn W t g=2:=by
   unfold zdn;rw[if_pos]
   simpa using q
  exact QE.no hW (by rw[hb]; decide) (hK.step hx3) hb
 simp only[Bool.or_eq_false_iff,Bool.not_eq_false'] at q;obtain⟨q1,q2⟩:=q;have n1:¬(Zz W t=false\/Q6 W.groups g=false):=by rw[q1,q2]; simp
 obtain⟨t0,t1,tn⟩:=Yc q1;have hix:=hr.t.ix Qy t0 t1;refine⟨fun g3 wr4 hx3=>?_,fun g3=>?_⟩
 ·have hr0:¬QG W=true:=fun hr=>by rw[if_pos hr] at g3; simp at g3
  have hb:zdn W t g=10:=by unfold zdn; rw[if_neg n1,if_pos (by simpa using hr0)]
  rw[if_neg hr0];exact QE.no hW (by rw[hb]; decide) (hK.step hx3) hb
 have hr0:QG W=true:=Decidable.byContradiction fun hr=>by rw[if_neg hr] at g3; simp at g3
 have hb:zdn W t g=0:=by unfold zdn; rw[if_neg n1,if_neg (by rw[hr0]; decide)]
 have sw:=PK wp (Qh.1 hr0);obtain⟨hu,c0,c1⟩:=sw.t t t0 (by omega) tn;refine⟨hix,_,_,_,_,_,_,_,_,_,hr.t t t0 t1,fun b2 hb2=>⟨fun g4 wr4 hx4=>?_,fun g4=>?_⟩⟩
 ·have g4:(Q7 W t).group=g:=by simpa[Q7] using g4
  have hE:zhg W t g=W:=by unfold zhg; rw[if_pos g4]
  have:=QE.ok (W':=zhg W t g) hW hb (m':=m') (hE.symm▸hK.step hx4)
  rwa[hE] at this ⊢
 have g4:¬(Q7 W t).group=g:=by simpa[Q7] using g4
 have hE:zhg W t g=Qg (Vk (QQ W t) t g (Ek W t g)):=by unfold zhg; rw[if_neg g4]
 obtain⟨m0,m1,_⟩:=znq wp (g:=g) t0 (by omega) tn;have hK0:=hK.add hb2;refine⟨_,Xg hr wp.a.c2 wp.a.tree q2,fun vs bs w1=>bs=[]/\vs=[.int .i64 (Ek W t g)]/\Q0 [y,y1] wv w1,⟨_,Zy,fun g5=>⟨_,ML,fun wr5 hx5 _=>⟨rfl,?_,hx5⟩⟩,fun g5 wr6 hx6 _=>⟨rfl,?_,hx6⟩⟩,?_⟩
 ·have g5:¬QP (Qp W g (Q7 W t).mask) (Q7 W t).cpu=true:=by simpa[Q7] using g5
  unfold Ek; rw[if_neg g5]; rfl
 ·have g5:QP (Qp W g (Q7 W t).mask) (Q7 W t).cpu=true:=by simpa[Q7] using g5
  unfold Ek; rw[if_pos g5]; rfl
 rintro cv wv1 hs1 ⟨-,hv,hxv⟩;simp only[List.cons.injEq,Value.int.injEq,true_and,and_true] at hv;subst hv;have hxv3:Q0 ([y,y1]++[b2]) wv wv1:=hxv.mono fun x hm=>List.mem_append_left _ hm
 have hK1:=hK0.step hxv3;have e5:Qa (endW W (Q7 W t).cpu) m'=Qa W m':=by simp[Qa,endW,setCp]
 refine⟨fun vs bs w1=>bs=[]/\vs=Qa W m'/\Wk 8 ([y,y1]++[b2]) w w1 (QQ W t) m',⟨hK1.rd.c.ix ZH c0 c1,_,hK1.rd.c.f c0 c1 (j:=1) rfl,fun g6 wr7 hx7 hs7=>?_,fun g6 wr9 hx9 _=>⟨rfl,rfl,?_⟩⟩,?_⟩
 ·have g6:(gi W.cpus (Q7 W t).cpu).cur=t:=by simpa using g6
  have hK2:=hK1.step hx7;refine Calls.mono (Zn hK2.own c0 c1) ?_;rintro e1 wv2 ⟨he1,hy3⟩;rw[show Qa (endW W (gi W.tasks t).cpu) m'=Qa W m' from e5] at he1;refine⟨_,_,_,_,_,_,_,_,_,_,he1,hK2.kept hy3 hs7,fun wr8 hx8 _=>⟨rfl,rfl,?_⟩⟩;have hlv:QQ W t=endW W (Q7 W t).cpu:=by unfold QQ; rw[if_pos g6]
  rw[hlv];exact(hK2.deed hy3 hs7).step hx8
 ·have g6:¬(gi W.cpus (Q7 W t).cpu).cur=t:=by simpa using g6
  have hlv:QQ W t=W:=by unfold QQ; rw[if_neg g6]
  rw[hlv];exact hK1.step hx9
 rintro l l1O l1L l1C l2O l2L l2C l3O l3L l3C wv3 hs3 ⟨-,hv,hK3⟩;simp only[Qa,List.cons.injEq,Value.int.injEq,Value.slice.injEq,true_and,and_true] at hv;obtain⟨rfl,⟨rfl,rfl,rfl⟩,⟨rfl,rfl,rfl⟩,rfl,rfl,rfl⟩:=hv;have swl:=zw4 sw t0 (by omega) tn;have ht:(QQ W t).tasks=W.tasks:=by unfold QQ; split <;> rfl
 have hg:(QQ W t).groups=W.groups:=by unfold QQ; split <;> rfl
 have hcl:(QQ W t).cpus.length=W.cpus.length:=by
  unfold QQ; split
  ·exact List.length_set
  ·rfl
 have hn:(QQ W t).now=W.now:=by unfold QQ; split <;> rfl
 have eL:∀mm,Qa (QQ W t) mm=Qa W mm:=fun mm=>by simp[Qa,ht,hg,hcl,hn]
 have tn2:(Q7 (QQ W t) t).state≠0:=by rw[J1 ht]; exact tn
 have hu2:Q6 (QQ W t).groups g=true:=by rw[hg]; exact q2
 have hm1:Ek W t g<((QQ W t).cpus.length:Int):=by rw[hcl]; exact m1
 rw[hE];generalize QQ W t=V at hK3 swl eL tn2 hu2 hm1;generalize Ek W t g=c at m0 hm1;intro wr10 hx10 hs10;have hK4:=hK3.step hx10;have hcall:=UE hK4.own (MY swl) (Int.le_refl _) (by simp only[Ql]; decide) (t:=t) (g:=g) (c:=c) t0 (by omega) tn2 hu2 m0 hm1;rw[eL] at hcall;refine Calls.mono hcall ?_;rintro e2 wv4 ⟨he2,hy4⟩;have hK5:=hK4.deed hy4 hs10;have sf2:=(AE (MY swl) (Int.le_refl _) (t:=t) t0 (by omega) hu2 m0 hm1).2;have eP:Qa (Vk V t g c) m'=Qa W m':=by rw[<-eL]; exact zow V t g c m'
 refine⟨_,_,_,_,_,_,_,_,_,_,he2,hK4.kept hy4 hs10,fun wr11 hx11 hs11=>?_⟩;have hK6:=hK5.step hx11;have hcall3:=Qr hK6.own sf2.w (by simp only[Ql]; decide) (by simp only[Ql]; decide) hK6.base;rw[eP] at hcall3;refine Calls.mono hcall3 ?_;rintro e3 wv5 ⟨m2,he3,hy5⟩;exact⟨_,_,_,_,_,_,_,_,_,_,he3,hK6.kept hy5 hs11,fun wr12 hx12=>QE.ok hW hb ((hK6.deed hy5 hs11).step hx12)⟩
theorem NX{g:Int}(h:Xt bs w W m)(hg8:W.groups.length=8)(ht12:W.tasks.length=12) :
  PX bs TB #[.agg (Qa W m).toArray,.int .i64 g] w (.bool (JJ (zqi W g))):=
 Ae W.now m.cO W.cpus.length m.cC m.tO W.tasks.length m.tC m.gO W.groups.length m.gC g fun wr hx=>by
  have h:=(h.ext hx).less (cs:=[]) (by simp);intro b hb;refine Xi 8 1 rfl (fun k=>1<=k/\k<=8/\∀j:Int,1<=j->j<(k:Int)->¬((gi W.groups j).used=true/\(gi W.groups j).parent=g)) ⟨by omega,by omega,fun j a b=>by omega⟩ fun k ⟨hk1,hk8,hno⟩=>⟨fun hlt=>?_,fun hge=>?_⟩
  ·have hlt:=Ot hlt;have k0:(0:Int)<=(k:Int):=by omega
   refine⟨h.g.ix k0 hlt,_,h.g.used k0 hlt,fun _=>h.g.ix k0 hlt,_,fun _=>h.g.parent k0 hlt,fun q=>?_,fun q=>⟨⟨by omega,by omega⟩,Qs (by omega) ⟨by omega,by omega,fun j a b=>?_⟩⟩⟩
   ·rw[Bool.and_eq_true,beq_iff_eq] at q;exact zkl (.inl ⟨(k:Int),by omega,by omega,q.1,q.2⟩)
   ·by_cases e:j<(k:Int)
    ·exact hno j a e
    ·have:j=(k:Int):=by omega
     subst this;rintro⟨q1,q2⟩;rw[q1,beq_iff_eq.2 q2] at q;cases q
  ·have hge:=Ou hge;refine Xi 12 0 rfl (fun k=>k<=12/\∀j:Int,0<=j->j<(k:Int)->¬((Q7 W j).state≠0/\(Q7 W j).group=g)) ⟨by omega,fun j a b=>by omega⟩ fun k2 ⟨hk12,hnt⟩=>⟨fun hlt2=>?_,fun hge2=>?_⟩
   ·have hlt2:=Ot hlt2;have k0:(0:Int)<=(k2:Int):=by omega
    refine⟨h.t.ix Qy k0 hlt2,_,h.t.f k0 hlt2 (j:=0) rfl,fun _=>h.t.ix Qy k0 hlt2,_,fun _=>h.t.f k0 hlt2 (j:=1) rfl,fun q=>?_,fun q=>⟨⟨by omega,by omega⟩,Qs (by omega) ⟨by omega,fun j a b=>?_⟩⟩⟩
    ·rw[Bool.and_eq_true,beq_iff_eq,bne_iff_ne] at q;exact zkl (.inr ⟨(k2:Int),by omega,by omega,q.1,q.2⟩)
    ·by_cases e:j<(k2:Int)
     ·exact hnt j a e
     ·have:j=(k2:Int):=by omega
      subst this;rintro⟨q1,q2⟩;have q1:(gi W.tasks (k2:Int)).state≠0:=q1;have q2:(gi W.tasks (k2:Int)).group=g:=q2;rw[bne_iff_ne.2 q1,beq_iff_eq.2 q2] at q;cases q
   ·have hge2:=Ou hge2;refine KQ ?_;rintro (⟨j,a,b,c,d⟩ | ⟨j,a,b,c,d⟩)
    ·exact hno j a (by omega) ⟨c,d⟩
    ·exact hnt j a (by omega) ⟨c,d⟩
theorem FK{g:Int}(h:Xt [] w W m)(hl:X5 W) :
  Cz VQ #[.agg (Qa W m).toArray,.int .i64 g] w fun e w'=>∃v,e=.returned v/\QE (Xc W (Fl W g) (XO W g)) w v w':=by
 refine Fo W.now m.cO W.cpus.length m.cC m.tO W.tasks.length m.tC m.gO W.groups.length m.gC g (R:=fun v w'=>QE (Xc W (Fl W g) (XO W g)) w v w') ?_;intro x hx x1 hx1 wr hx2 hs2;refine Calls.mono (UV (g:=g) (ok:=true) (h.ext hx2) hl) ?_;rintro e wv (⟨hW,he,hy⟩ | ⟨hW,m',he,hM,hy⟩)
 ·exact⟨_,_,_,_,_,_,_,_,_,_,_,he,Qe hy hs2,fun _ wr1 hx3=>QE.bad hW ((hx2.trans hy).fresh hx3 fun y hm=>.inl (YC hx hx1 y hm)),fun g=>by simp at g⟩
 have hK:=Wk.begin hx hx1 hx2 hs2 hM hy;have hr:=hK.rd;have wp:=Qh.1 hW;refine⟨_,_,_,_,_,_,_,_,_,_,_,he,Qe hy hs2,fun g1 wr1 hx3=>?_,fun g1=>⟨_,NX hr wp.a.gl wp.a.t,fun g2 wr2 hx3=>?_,fun g2=>⟨fun g3 wr3 hx3=>?_,fun g3=>?_⟩⟩⟩
 ·have hb:Fl W g=Mk W g true:=by
   by_cases h0:g=0
   ·unfold Fl Mk;rw[if_pos h0,if_pos (.inr h0)]
   ·have e0:¬(true=false\/g=0):=by simp[h0]
    by_cases h1:Q6 W.groups g=false
    ·unfold Fl Mk;rw[if_neg h0,if_neg e0,if_pos h1,if_pos h1]
    ·exfalso
     unfold Mk at g1;rw[if_neg e0,if_neg h1] at g1
     split at g1 <;> simp at g1
  exact QE.no hW (fun h0=>by rw[<-hb,h0] at g1; simp at g1) (hK.step hx3) hb
 all_goals
  have g1':¬g=0/\¬Q6 W.groups g=false:=by
   unfold Mk at g1
   by_cases h0:g=0
   ·rw[if_pos (.inr h0)] at g1; simp at g1
   ·refine⟨h0,fun h1=>?_⟩;rw[if_neg (show ¬(true=false\/g=0) by simp[h0]),if_pos h1] at g1;simp at g1
  have hgB:Mk W g true=if QG W=false then 10 else 0:=by
   unfold Mk;rw[if_neg (show ¬(true=false\/g=0) by simp[g1'.1]),if_neg g1'.2]
 ·have hb:Fl W g=4:=by unfold Fl; rw[if_neg g1'.1,if_neg g1'.2,if_pos g2]
  exact QE.no hW (by rw[hb]; decide) (hK.step hx3) hb
 ·have hr0:QG W=false:=by
   cases hq:QG W with
   | false=>rfl
   | true=>rw[hgB,hq] at g3; simp at g3
  have hb:Fl W g=10:=by unfold Fl; rw[if_neg g1'.1,if_neg g1'.2,if_neg (by rw[g2]; decide),if_pos hr0]
  rw[hgB,if_pos hr0];exact QE.no hW (by rw[hb]; decide) (hK.step hx3) hb
 ·have hr0:QG W=true:=by
   cases hq:QG W with
   | true=>rfl
   | false=>rw[hgB,hq] at g3; simp at g3
  have hb:Fl W g=0:=by unfold Fl; rw[if_neg g1'.1,if_neg g1'.2,if_neg (by rw[g2]; decide),if_neg (by rw[hr0]; decide)]
  have hu:Q6 W.groups g=true:=by simpa using g1'.2
  obtain⟨u0,u1,_⟩:=Q5.1 hu;have hgl:=wp.a.gl
  have hset:Wk 8 [x,x1] w (sto wv m'.gO (Int.toNat g*14) (YF zbz A3)) (XO W g) (P2 m' g.toNat A3):=
   ⟨hK.s.call Bu fun y hy=>(hK.own.lt y hy).1,⟨hK.own.stoG u0 (by omega) (g:=zbz) (p:=A3) (j:=0) (vs:=YF zbz A3) ⟨.inl ⟨rfl,rfl,rfl⟩,.inl ⟨rfl,rfl,rfl⟩,.inl ⟨rfl,rfl,rfl⟩⟩ (fun y hy=>by simp[Qt,A3,QB] at hy) (by simp[YF]) (by simp[YF]),fun y hy hm=>by
    rcases TQ y hy with h1 | h1
    ·exact hK.nb y h1 hm
    ·simp[Qt,A3,QB] at h1⟩⟩
  refine⟨hr.g.ix u0 u1,zee hK.own hK.nb u0 (by omega) (j:=0) (by decide),fun wr4 hx4=>?_⟩;have hfin:=QE.ok hW hb (hset.step hx4);have ew:Qa (XO W g) (P2 m' g.toNat A3)=Qa W m':=by simp[Qa,XO,setGr,P2]
  rw[ew] at hfin;have hgz:Mk W g true=0:=by rw[hgB,if_neg (by rw[hr0]; decide)]
  exact hfin
end
theorem zg8{V:Q8}(ha:WA V):X5 V:=by
 have h1:=ha.c2;have h2:=ha.t;have h3:=ha.gl;have hm:=Zl;have hn1:=ha.n1;have hn2:=ha.n2;refine⟨by omega,by omega,by omega,fun i a b=>?_⟩;have hb:=DK ha a (by omega);have hg:=ha.grp i a (by omega);have hz:(⟨[].toArray⟩:ByteArray).size=0:=rfl;refine⟨?_,?_,by omega,by omega,by omega⟩
 ·cases hu:(gi V.groups i).used with
  | false=>rw[(hg.1 hu).n,hz]; omega
  | true=>
   by_cases e:i=0
   ·rw[e,ha.tree.rn,hz]; omega
   ·have:=(Kf.1 (ha.tree.nm i (by omega) (by omega) hu)).1;omega
 cases hu:(gi V.groups i).used with
 | false=>rw[(hg.1 hu).ne]; exact⟨by decide,by decide⟩
 | true=>
  have hg:=hg.2 hu
  by_cases hq:(gi V.groups i).band.quota=0
  ·rw[(hg.none hq).2.2]; exact⟨by decide,by decide⟩
  ·have:=hg.band hq;exact⟨by omega,by omega⟩
theorem Lw{n:Nat}{p:Int}{name:ByteArray}{w:Wo}(hn:n<=4) :
  Cz UQ #[.int .i64 (n:Int),.int .i64 p,.string name] w fun e w'=>∃mg,e=.returned (.agg (YF (P1 n p name) mg).toArray)/\K6 w.heap.size w' (P1 n p name,mg)/\Q0 [] w w':=by
 refine(CB (n:Int) p name (R:=fun v w'=>∃mg,v=.agg (YF (P1 n p name) mg).toArray/\K6 w.heap.size w' (P1 n p name,mg)/\Q0 [] w w') ?_).mono fun e w' ⟨v,he,mg,hv,h3⟩=>⟨mg,by rw[he,hv],h3⟩
 intro b hb b1 hb1
 refine⟨fun vs w2=>∃(k:Nat) (o:OA) (cap:Nat),vs=[.int .i64 (k:Int),.bool true,.int .i64 p,.string name,.int .i64 10,.int .i64 15,.int .i64 0,.int .i64 0,.int .i64 0,.int .i64 0,.int .i64 0,.int .i64 0,.slice none 0 0,.slice none 0 0,.slice o k cap]/\k<=n/\Sc w [b,b1] w2/\Ob MD 5 YE w.heap.size [b,b1] w2 o cap (List.replicate k zdo),
  Zu n 0,fun wr hx _=>⟨0,none,0,rfl,Nat.zero_le _,(((Sc.start w).add hb).add hb1).call0 hx,⟨.inl ⟨rfl,rfl,rfl⟩,by simp[QB]⟩⟩,?_⟩
 rintro c1 l l1 l2 l3 l4 l5 l6 l7 l8 l9 l10 l11O l11L l11C l12O l12L l12C l13O l13L l13C wv hs2 ⟨k,o,cap,he,hk,s1,hO⟩;simp only[List.cons.injEq,Value.int.injEq,Value.bool.injEq,Value.string.injEq,Value.slice.injEq,true_and,and_true] at he;obtain⟨rfl,rfl,rfl,rfl,rfl,rfl,rfl,rfl,rfl,rfl,rfl,rfl,⟨rfl,rfl,rfl⟩,⟨rfl,rfl,rfl⟩,rfl,rfl,rfl⟩:=he;refine⟨fun hlt=>?_,fun hge=>?_⟩
 ·have hlt:=Ot hlt;intro b3 hb3 wr3 hx3 hs3 hcell;have s2:=s1.put hx3 hb3;have hO2:=hO.put hx3 hb3;obtain⟨o2,c2,w2,hrun,hk2,hO3,hx2⟩:=hO2.app1 Tr KB (x:=zdo) hs3 s2.ext.size hcell (zyk _) (by simp; omega) (by decide) ZE #[false,false];have s3:=s2.call hx2 fun x hm=>(hO2.own.lt x hm).1
  have hL:List.replicate l13L zdo++[zdo]=List.replicate (l13L+1) zdo:=by rw[List.replicate_succ']
  rw[hL] at hrun hO3;rw[List.length_replicate,List.length_replicate] at hrun;exact⟨_,_,_,w2,hrun,hk2,⟨by omega,by omega⟩,fun wr4 hx4 _=>⟨⟨l13L+1,o2,c2,by simp,by omega,(s3.step hx4).sub (by simp),(hO3.step hx4).sub (by simp)⟩,QS (k:=l13L) rfl rfl (by omega)⟩⟩
 ·have hge:=Ou hge;have:l13L=n:=by omega
  subst this;intro wr5 hx5;refine⟨⟨none,0,none,0,l13O,l13C⟩,?_,⟨.inl ⟨rfl,rfl,rfl⟩,.inl ⟨rfl,rfl,rfl⟩,(hO.step hx5).own⟩,(s1.step hx5).ext⟩;simp[YF,P1,Z6]
theorem zyi:QK≠ZB:=by decide
theorem zv3:QN≠ZB:=by decide
theorem zyh:QN≠QK:=by decide
theorem E2{i:Int}(h0:0<=i)(h1:i<8):gi (List.replicate 8 Ol) i=Ol:=by
 obtain⟨k,rfl⟩:=Int.eq_ofNat_of_zero_le h0;rw[J2 (by rw[List.length_replicate]; omega)];exact List.getElem_replicate _
theorem zpo{base:Nat}{w:Wo}{o:OA}{cap:Nat}(h:U4 Pf 14 QN base w o cap (List.replicate 8 Ol)):K5 base w o cap (List.replicate 8 Ol):=by
 refine⟨h,fun i h0 h1=>?_,fun i j h0 h1 _ _ _ x hm=>?_⟩
 ·rw[E2 h0 (by simpa using h1)];exact⟨.inl ⟨rfl,rfl,rfl⟩,.inl ⟨rfl,rfl,rfl⟩,.inl ⟨rfl,rfl,rfl⟩⟩
 ·rw[E2 h0 (by simpa using h1)] at hm;simp[Qt,Ol,QB] at hm
section
variable {w:Wo}{b:Nat}
def zy2(b:Nat)(w:Wo)(vs:List Va)(bs:List Nat)(w2:Wo):Prop:=
 ∃(bx:Nat) (tO gO:OA) (tC gC:Nat),bs=[bx]/\vs=[.int .i64 0,.slice none 0 0,.slice tO 12 tC,.slice gO 8 gC]/\Sc w [b,bx] w2/\Ob X7 9 QK w.heap.size [b,bx] w2 tO tC (List.replicate 12 Tm)/\Ob Pf 14 QN w.heap.size [b,bx] w2 gO gC (List.replicate 8 Ol)
theorem zrz{bs:List Nat}{w1:Wo}(s:Sc w bs w1)(hs:∀x∈bs,x<w1.heap.size):∃(o:OA) (c:Nat) (w2:Wo),(Instr.makeSlice Zj (.int .i64 12) (.int .i64 12):Sem Va).run Tryz.prog w1=.ok (.slice o 12 c) w2/\Q9 bs w1 w2/\Q0 [] w1 w2/\Ob X7 9 QK w.heap.size bs w2 o c (List.replicate 12 Tm):=
 ⟨_,_,_,LP Pe LZ 12 (by decide) (by have:=Zl; omega) w1,Qe (Zc _ _) hs,Zc _ _,(Ob.of (Oh (enc:=X7) Pe.len QK 12 Tm w1) hs).mono s.ext.size⟩
theorem zry{bs:List Nat}{w1:Wo}(s:Sc w bs w1)(hs:∀x∈bs,x<w1.heap.size):∃(o:OA) (c:Nat) (w2:Wo),(Instr.makeSlice QW (.int .i64 8) (.int .i64 8):Sem Va).run Tryz.prog w1=.ok (.slice o 8 c) w2/\Q9 bs w1 w2/\Q0 [] w1 w2/\Ob Pf 14 QN w.heap.size bs w2 o c (List.replicate 8 Ol):=
 ⟨_,_,_,LP X6 KA 8 (by decide) (by have:=Zl; omega) w1,Qe (Zc _ _) hs,Zc _ _,(Ob.of (Oh (enc:=Pf) X6.len QN 8 Ol w1) hs).mono s.ext.size⟩
theorem NW{n:Nat}(n0:1<=n)(n1:n<=4) :
  Cz TA #[.int .i64 (n:Int)] w fun e w'=>∃m,e=.returned (.tuple #[.agg (Qa (JZ n) m).toArray,.bool true])/\Yu 8 w.heap.size w' (JZ n) m/\Q0 [] w w':=by
 refine(NF (n:Int) (R:=fun v w'=>∃m,v=.tuple #[.agg (Qa (JZ n) m).toArray,.bool true]/\Yu 8 w.heap.size w' (JZ n) m/\Q0 [] w w') ?_).mono fun e w' ⟨v,he,m,hv,h3⟩=>⟨m,by rw[he,hv],h3⟩
 intro b hb;have hin:Yh (n:Int) 1 4=true:=Qm.2 ⟨by omega,by omega⟩;have s0:Sc w [b] w:=(Sc.start w).add hb;refine⟨_,Qi,fun g=>(by rw[hin] at g; cases g),fun _=>⟨zy2 b w,?_,?_⟩⟩
 ·refine⟨fun wr1 hx1 hs1=>?_,fun wr6 hx6 hs6=>?_,fun b5 hb5=>⟨fun wr11 hx11 hs11=>?_,fun wr14 hx14 hs14=>?_⟩⟩
  ·have s1:=s0.call0 hx1;obtain⟨tO,tC,w2,hr,hk,he,hT⟩:=zrz s1 hs1;have s2:=s1.call0 he;refine⟨_,_,_,w2,hr,hk,fun wr2 hx2 hs2=>?_,fun b2 hb2 wr4 hx4 hs4=>?_⟩
   ·have s3:=s2.step hx2;obtain⟨gO,gC,w3,hr3,hk3,he3,hG⟩:=zry s3 hs2;exact⟨_,_,_,w3,hr3,hk3,fun b1 hb1 wr3 hx3 _=>⟨b1,tO,gO,tC,gC,rfl,rfl,(s3.call0 he3).put hx3 hb1,((hT.step hx2).call0 he3).put hx3 hb1,hG.put hx3 hb1⟩⟩
   ·have s3:=s2.put hx4 hb2;obtain⟨gO,gC,w3,hr3,hk3,he3,hG⟩:=zry s3 hs4;exact⟨_,_,_,w3,hr3,hk3,fun wr5 hx5 _=>⟨b2,tO,gO,tC,gC,rfl,rfl,(s3.call0 he3).step hx5,((hT.put hx4 hb2).call0 he3).step hx5,hG.step hx5⟩⟩
  ·have s1:=s0.call0 hx6;obtain⟨gO,gC,w2,hr,hk,he,hG⟩:=zry s1 hs6;have s2:=s1.call0 he;refine⟨_,_,_,w2,hr,hk,fun wr2 hx2 hs2=>?_,fun b2 hb2 wr4 hx4 hs4=>?_⟩
   ·have s3:=s2.step hx2;obtain⟨tO,tC,w3,hr3,hk3,he3,hT⟩:=zrz s3 hs2;exact⟨_,_,_,w3,hr3,hk3,fun b1 hb1 wr3 hx3 _=>⟨b1,tO,gO,tC,gC,rfl,rfl,(s3.call0 he3).put hx3 hb1,hT.put hx3 hb1,((hG.step hx2).call0 he3).put hx3 hb1⟩⟩
   ·have s3:=s2.put hx4 hb2;obtain⟨tO,tC,w3,hr3,hk3,he3,hT⟩:=zrz s3 hs4;exact⟨_,_,_,w3,hr3,hk3,fun wr5 hx5 _=>⟨b2,tO,gO,tC,gC,rfl,rfl,(s3.call0 he3).step hx5,hT.step hx5,((hG.put hx4 hb2).call0 he3).step hx5⟩⟩
  ·have s1:=(s0.add hb5).call0 hx11;obtain⟨tO,tC,w2,hr,hk,he,hT⟩:=zrz s1 hs11;refine⟨_,_,_,w2,hr,hk,fun wr2 hx2 hs2=>?_⟩;have s3:=(s1.call0 he).step hx2;obtain⟨gO,gC,w3,hr3,hk3,he3,hG⟩:=zry s3 hs2;exact⟨_,_,_,w3,hr3,hk3,fun wr5 hx5 _=>⟨b5,tO,gO,tC,gC,rfl,rfl,(s3.call0 he3).step hx5,((hT.step hx2).call0 he3).step hx5,hG.step hx5⟩⟩
  ·have s1:=(s0.add hb5).call0 hx14;obtain⟨gO,gC,w2,hr,hk,he,hG⟩:=zry s1 hs14;refine⟨_,_,_,w2,hr,hk,fun wr2 hx2 hs2=>?_⟩;have s3:=(s1.call0 he).step hx2;obtain⟨tO,tC,w3,hr3,hk3,he3,hT⟩:=zrz s3 hs2;exact⟨_,_,_,w3,hr3,hk3,fun wr5 hx5 _=>⟨b5,tO,gO,tC,gC,rfl,rfl,(s3.call0 he3).step hx5,hT.step hx5,((hG.step hx2).call0 he3).step hx5⟩⟩
 ·rintro l l1O l1L l1C l2O l2L l2C l3O l3L l3C b6 wv10 hs10 ⟨bx,tO,gO,tC,gC,hbx,hv,s1,hT,hG⟩;simp only[List.cons.injEq,Value.int.injEq,Value.slice.injEq,true_and,and_true] at hbx hv;subst hbx;obtain⟨rfl,⟨rfl,rfl,rfl⟩,⟨rfl,rfl,rfl⟩,rfl,rfl,rfl⟩:=hv
  refine⟨fun vs w2=>∃(k:Nat) (o:OA) (cap:Nat),vs=[.int .i64 (k:Int),.int .i64 0,.slice o k cap,.slice l2O 12 l2C,.slice l3O 8 l3C]/\k<=n/\Sc w [b,b6] w2/\Ob KN 5 ZB w.heap.size [b,b6] w2 o cap (List.replicate k (⟨true,-1,0,0,0⟩:M0))/\Ob X7 9 QK w.heap.size [b,b6] w2 l2O l2C (List.replicate 12 Tm)/\Ob Pf 14 QN w.heap.size [b,b6] w2 l3O l3C (List.replicate 8 Ol),
   Zu n 0,fun wr hx _=>⟨0,none,0,rfl,Nat.zero_le _,s1.step hx,⟨.inl ⟨rfl,rfl,rfl⟩,by simp[QB]⟩,hT.step hx,hG.step hx⟩,?_⟩
  rintro c1 l4 l5O l5L l5C l6O l6L l6C l7O l7L l7C wv hs2 ⟨k,o,cap,he,hk,s2,hC,hT2,hG2⟩;simp only[List.cons.injEq,Value.int.injEq,Value.slice.injEq,true_and,and_true] at he;obtain⟨rfl,rfl,⟨rfl,rfl,rfl⟩,⟨rfl,rfl,rfl⟩,rfl,rfl,rfl⟩:=he;clear hT hG;refine⟨fun hlt=>?_,fun hge=>?_⟩
  ·have hlt:=Ot hlt;intro b3 hb3 wr3 hx3 hs3 hcell;have s3:=s2.put hx3 hb3;have hC2:=hC.put hx3 hb3;obtain⟨o2,c2,w2,hrun,hk2,hC3,hx2⟩:=hC2.app1 Gc Hl (x:=(⟨true,-1,0,0,0⟩:M0)) hs3 s3.ext.size hcell (zyj _) (by simp; omega) (by decide) Ye #[false,false];have s4:=s3.call hx2 fun x hm=>(hC2.own.lt x hm).1
   have hT3:=(hT2.put hx3 hb3);have hT4:Ob X7 9 QK w.heap.size [b,b6,b3] w2 l6O l6C (List.replicate 12 Tm):=⟨hT3.own.ext hx2 (hT3.own.ty_ne hC2.own zyi),hT3.nb⟩;have hG3:=(hG2.put hx3 hb3);have hG4:Ob Pf 14 QN w.heap.size [b,b6,b3] w2 l7O l7C (List.replicate 8 Ol):=⟨hG3.own.ext hx2 (hG3.own.ty_ne hC2.own zv3),hG3.nb⟩;have hL:List.replicate l5L (⟨true,-1,0,0,0⟩:M0)++[⟨true,-1,0,0,0⟩]=List.replicate (l5L+1) (⟨true,-1,0,0,0⟩:M0):=by rw[List.replicate_succ']
   rw[hL] at hrun hC3;rw[List.length_replicate,List.length_replicate] at hrun;exact⟨_,_,_,w2,hrun,hk2,⟨by omega,by omega⟩,fun wr4 hx4 _=>⟨⟨l5L+1,o2,c2,by simp,by omega,(s4.step hx4).sub (by simp),(hC3.step hx4).sub (by simp),(hT4.step hx4).sub (by simp),(hG4.step hx4).sub (by simp)⟩,QS (k:=l5L) rfl rfl (by omega)⟩⟩
  ·have hge:=Ou hge;have:l5L=n:=by omega
   subst this;intro wr5 hx5 hs5;have s3:=s2.step hx5;have hC3:=hC.step hx5;have hT3:=hT2.step hx5;have hG3:=hG2.step hx5;refine(Lw n1).mono fun e w3 ⟨mg,he,hM,hx3⟩=>?_
   have s4:=s3.call0 hx3;have hC4:=hC3.call0 hx3;have hT4:=hT3.call0 hx3;have hG4:=hG3.call0 hx3;have G:=zpo hG4.own
   have hmb:∀x∈Qt mg,x∉[b,b6]:=fun x hm hx=>by
    have h1:=(hM.lt x hm).1;have h2:=hs5 x hx;omega
   have P:=G.put (i:=0) (Int.le_refl _) (by simp) (p:=(P1 l5L (-1) ⟨[].toArray⟩,mg)) (hM.mono s3.ext.size) fun j j0 j1 _ x hm=>by
    rw[E2 j0 (by simpa using j1)] at hm;simp[Qt,Ol,QB] at hm
   have hxs:=hG4.own.stoX (Int.toNat 0*14) (Pf (P1 l5L (-1) ⟨[].toArray⟩,mg));have s5:Sc w [b,b6] (sto w3 l7O (Int.toNat 0*14) (Pf (P1 l5L (-1) ⟨[].toArray⟩,mg))):=⟨hG4.own.stoB _ _ s4.ext (Nat.le_refl _),s4.new⟩;have hC5:=hC4.own.ext hxs (hC4.own.ty_ne hG4.own zv3.symm);have hT5:=hT4.own.ext hxs (hT4.own.ty_ne hG4.own zyh.symm);refine⟨_,_,_,_,_,_,_,_,_,_,_,_,_,_,_,_,_,_,_,_,he,Qe hx3 hs5,rfl,hG4.own.ix (Int.le_refl _) (by simp),hG4.own.wr X6.len hG4.nb (i:=0) (j:=0) (Int.le_refl _) (by simp) (by decide),fun wr hx=>⟨⟨l5O,l5C,l6O,l6C,l7O,l7C,fun k=>if k=0 then mg else Ol.2⟩,?_,⟨?_,?_,?_,rfl⟩,(s5.step hx).ext⟩⟩
   ·simp[Qa,JZ]
   ·exact hC5.ext hx hC4.nb
   ·exact hT5.ext hx hT4.nb
   ·have hps:zpw (JZ l5L) ⟨l5O,l5C,l6O,l6C,l7O,l7C,fun k=>if k=0 then mg else Ol.2⟩=(List.replicate 8 Ol).set (Int.toNat 0) (P1 l5L (-1) ⟨[].toArray⟩,mg):=rfl;rw[hps];refine⟨P.row.ext hx hG4.nb,fun i i0 i1=>(P.each i i0 i1).ext hx fun x hm=>?_,P.dj⟩;have hi8:i<8:=by simpa using i1
    have:=QA (List.replicate 8 Ol) (P1 l5L (-1) ⟨[].toArray⟩,mg) (i:=0) (j:=i) (Int.le_refl _) (by simp) i0;rw[this] at hm
    split at hm
    ·exact hmb x hm
    ·rw[E2 i0 hi8] at hm;simp[Qt,Ol,QB] at hm
end
def TI(W:Q8)(j:Nat):Bool:=decide (1<=j) && !(gi W.groups (j:Int)).used
def T0(W:Q8):Int:=HM (TI W) 8
def zxy(W:Q8)(p:Int)(name:ByteArray):Prop:=∃h:Int,1<=h/\h<8/\(gi W.groups h).used=true/\(gi W.groups h).parent=p/\(gi W.groups h).name=name
open Classical in
noncomputable def KP(W:Q8)(p:Int)(name:ByteArray):Int:=if JY name=false then 1 else if Q6 W.groups p=false then 2 else if zxy W p name then 7 else if dep 3 W.groups p=3 then 9 else if T0 W<0 then 3 else if QG W=false then 10 else 0
def zrw(W:Q8)(p:Int)(name:ByteArray):Q8:=OT W (T0 W) p name
theorem zi5(W:Q8):(T0 W = -1/\∀h:Int,1<=h->h<8->(gi W.groups h).used=true)\/(1<=T0 W/\T0 W<8/\(gi W.groups (T0 W)).used=false):=by
 rcases MH (TI W) 8 with ⟨h1,h2⟩ | ⟨h1,h2,h3,_⟩
 ·refine .inl ⟨h1,fun h a b=>?_⟩;have:=h2 h.toNat (by omega);unfold TI at this;rw[show ((h.toNat:Nat):Int)=h by omega,decide_eq_true (by omega:1<=h.toNat)] at this
  simpa using this
 ·have e:(((T0 W).toNat:Nat):Int)=T0 W:=by unfold T0; omega
  have h3:TI W (T0 W).toNat=true:=h3;unfold TI at h3;rw[e,Bool.and_eq_true,decide_eq_true_eq,Bool.not_eq_true'] at h3;refine .inr ⟨by omega,by unfold T0; omega,h3.2⟩
theorem zlo{W:Q8}{p:Int}{name:ByteArray}(hb:KP W p name=0):zfz W (T0 W) p name/\QG W=true:=by
 unfold KP at hb
 split at hb
 ·cases hb
 rename_i h1
 split at hb
 ·cases hb
 rename_i h2
 split at hb
 ·cases hb
 rename_i h3
 split at hb
 ·cases hb
 rename_i h4
 split at hb
 ·cases hb
 rename_i h5
 split at hb
 ·cases hb
 rename_i h6;rcases zi5 W with ⟨a,_⟩ | ⟨a,b,c⟩
 ·omega
 ·exact⟨⟨a,b,c,by simpa using h2,by simpa using h1,fun h a1 a2 u e=>h3 ⟨h,a1,a2,u,e.1,e.2⟩,h4⟩,by simpa using h6⟩
section
variable {W:Q8}{m:MW}{w:Wo}
theorem MK{p:Int}{name:ByteArray}(h:Xt [] w W m)(hl:X5 W) :
  Cz Qx #[.agg (Qa W m).toArray,.int .i64 p,.string name] w fun e w'=>∃v,e=.returned v/\Om (O7 W (KP W p name) (zrw W p name) (T0 W)) w v w':=by
 refine Fp W.now m.cO W.cpus.length m.cC m.tO W.tasks.length m.tC m.gO W.groups.length m.gC p name (R:=fun v w'=>Om (O7 W (KP W p name) (zrw W p name) (T0 W)) w v w') ?_;intro y hy y1 hy1 wr hx2 hs2;refine Calls.mono (Z5 (h.ext hx2) hl) ?_;rintro e wv (⟨hW,he,hy2⟩ | ⟨hW,m',he,hM,hy2⟩)
 ·exact⟨_,_,_,_,_,_,_,_,_,_,_,he,Qe hy2 hs2,true,fun g=>by simp at g,fun _ wr1 hx3=>Om.bad hW ((hx2.trans hy2).fresh hx3 fun z hm=>.inl (YC hy hy1 z hm)),fun g=>by simp at g⟩
 have hK:=Wk.begin hy hy1 hx2 hs2 hM hy2;have hr:=hK.rd;have wp:=Qh.1 hW;have hgl:=wp.a.gl;have hc1:((if QG W=true then 0 else 10:Int)==1)=false:=by split <;> rfl
 refine⟨_,_,_,_,_,_,_,_,_,_,_,he,Qe hy2 hs2,_,fun _=>He,fun g1 wr1 hx3=>?_,fun g1=>⟨_,X4 hr.g,fun g2 wr2 hx3=>?_,fun g2=>?_⟩⟩
 ·rw[hc1] at g1;have hb:KP W p name=1:=by unfold KP; rw[if_pos (by simpa using g1)]
  exact Om.no hW (by rw[hb]; decide) (hK.step hx3) hb
 ·rw[hc1] at g1;have n1:¬JY name=false:=by simpa using g1
  have hb:KP W p name=2:=by unfold KP; rw[if_neg n1,if_pos (by simpa using g2)]
  exact Om.no hW (by rw[hb]; decide) (hK.step hx3) hb
 rw[hc1] at g1;have n1:¬JY name=false:=by simpa using g1
 have hu:Q6 W.groups p=true:=by simpa using g2
 have n2:¬Q6 W.groups p=false:=by rw[hu]; decide
 refine⟨fun vs w1=>∃k:Nat,vs=[.int .i64 (k:Int),.int .i64 0,.slice none 0 0,.slice none 0 0,.slice none 0 0]/\1<=k/\k<=8/\(∀q:Int,1<=q->q<(k:Int)->(gi W.groups q).used=true->¬((gi W.groups q).parent=p/\(gi W.groups q).name=name))/\Q0 [y,y1] wv w1,
  Zu 8 0,fun w1 hx0 _=>⟨1,rfl,by omega,by omega,fun q a b=>by omega,hx0⟩,?_⟩
 rintro h1 l l1O l1L l1C l2O l2L l2C l3O l3L l3C wv2 hs3 ⟨k,he2,hk1,hk8,hno,hxw⟩;simp only[List.cons.injEq,Value.int.injEq,Value.slice.injEq,true_and,and_true] at he2;obtain⟨rfl,rfl,⟨rfl,rfl,rfl⟩,⟨rfl,rfl,rfl⟩,rfl,rfl,rfl⟩:=he2;have hK1:=hK.step hxw;have hr1:=hK1.rd;refine⟨fun hlt=>?_,fun hge=>?_⟩
 ·have hlt:=Ot hlt;have hk0:(0:Int)<=(k:Int):=by omega
  refine⟨hr1.g.ix hk0 hlt,_,hr1.g.used hk0 hlt,fun _=>hr1.g.ix hk0 hlt,_,fun _=>hr1.g.parent hk0 hlt,fun _=>hr1.g.ix hk0 hlt,_,fun _=>hr1.g.name hk0 hlt,fun g3 wr5 hx5=>?_,fun g3=>⟨⟨by omega,by omega⟩,fun wr6 hx6 _=>⟨⟨k+1,by simp,by omega,by omega,fun q q1 q2 qu=>?_,hxw.trans hx6⟩,QS (k:=k) rfl rfl (by omega)⟩⟩⟩
  ·rw[Bool.and_eq_true,Bool.and_eq_true,Ue,beq_iff_eq] at g3;have hb:KP W p name=7:=by unfold KP; rw[if_neg n1,if_neg n2,if_pos ⟨k,by omega,by omega,g3.1.1,g3.1.2,g3.2⟩]
   exact Om.no hW (by rw[hb]; decide) (hK1.step hx5) hb
  ·by_cases e:q<(k:Int)
   ·exact hno q q1 e qu
   ·have:q=(k:Int):=by omega
    subst this;rintro⟨c1,c2⟩;rw[qu,beq_iff_eq.2 c1,Ue.2 c2] at g3;cases g3
 have hge:=Ou hge;have:k=8:=by omega
 subst this;have n3:¬zxy W p name:=fun ⟨q,a,b,c,d,e⟩=>hno q a (by omega) c ⟨d,e⟩
 refine⟨_,Pz hr1.g (by rw[hgl]; have:=Zl; omega),fun g4 wr7 hx7=>?_,fun g4=>⟨⟨by omega,by omega⟩,?_⟩⟩
 ·rw[zgk wp.a.tree hu,beq_iff_eq] at g4;have hb:KP W p name=9:=by unfold KP; rw[if_neg n1,if_neg n2,if_neg n3,if_pos g4]
  exact Om.no hW (by rw[hb]; decide) (hK1.step hx7) hb
 rw[zgk wp.a.tree hu,beq_eq_false_iff_ne] at g4
 refine⟨fun vs w1=>∃a t:Int,vs=[.int .i64 a,.int .i64 t]/\0<=t/\t<8/\(a = -1/\(∀j:Nat,t<(j:Int)->j<8->TI W j=false)\/t<a/\a<8/\TI W a.toNat=true/\∀j:Nat,t<(j:Int)->(j:Int)<a->TI W j=false)/\Q0 [y,y1] wv2 w1,
  fun vs _=>(ZZ 1 vs+1).toNat,fun w1 hx0 _=>⟨-1,_,rfl,by omega,by omega,.inl ⟨rfl,fun j h1 h2=>by omega⟩,hx0⟩,?_⟩
 rintro av tv wv3 hs4 ⟨a,t,he2,ht0,ht1,hcond,hxw2⟩;simp only[List.cons.injEq,Value.int.injEq,true_and,and_true] at he2;obtain⟨rfl,rfl⟩:=he2;have hK2:=hK1.step hxw2;have hr2:=hK2.rd;refine⟨fun hlt=>?_,fun hge2=>?_⟩
 ·have hlt:=Ot hlt;have e:((tv.toNat:Nat):Int)=tv:=by omega
  have hst:TI W tv.toNat = !(gi W.groups tv).used:=by unfold TI; rw[e,decide_eq_true (by omega:1<=tv.toNat)]; rfl
  refine⟨hr2.g.ix (by omega) (by omega),_,hr2.g.used (by omega) (by omega),fun g3=>⟨⟨by omega,by omega⟩,fun wr5 hx5 _=>⟨⟨tv,tv-1,rfl,by omega,by omega,.inr ⟨by omega,ht1,by rw[hst]; exact g3,fun j h1 h2=>by omega⟩,hxw2.trans hx5⟩,?_⟩⟩,fun g3=>⟨⟨by omega,by omega⟩,fun wr6 hx6 _=>⟨⟨av,tv-1,rfl,by omega,by omega,?_,hxw2.trans hx6⟩,?_⟩⟩⟩
  ·simp only[ZZ,List.getElem?_cons_zero,List.getElem?_cons_succ]; omega
  ·have g3:TI W tv.toNat=false:=by rw[hst]; exact g3
   have one:∀j:Nat,tv-1<(j:Int)->¬tv<(j:Int)->TI W j=false:=fun j h1 h2=>by
    have:j=tv.toNat:=by omega
    rw[this]; exact g3
   rcases hcond with ⟨h1,h2⟩ | ⟨h1,h2,h3,h4⟩
   ·exact .inl ⟨h1,fun j j1 j2=>if h:tv<(j:Int) then h2 j h j2 else one j j1 h⟩
   ·exact .inr ⟨by omega,h2,h3,fun j j1 j2=>if h:tv<(j:Int) then h4 j h j2 else one j j1 h⟩
  ·simp only[ZZ,List.getElem?_cons_zero,List.getElem?_cons_succ]; omega
 have hge2:=Ou hge2;have ht:tv=0:=by omega
 subst ht;have hz:TI W 0=false:=rfl
 have hfree:av=T0 W:=by
  rcases hcond with ⟨h1,h2⟩ | ⟨h1,h2,h3,h4⟩
  ·rw[h1]; exact(znb fun j hj=>if e:j=0 then by rw[e]; exact hz else h2 j (by omega) hj).symm
  ·exact(zna (by omega) h2 h3 fun j hj=>if e:j=0 then by rw[e]; exact hz else h4 j (by omega) hj).symm
 subst hfree;refine⟨fun g5 wr7 hx7=>?_,fun g5=>⟨fun g6 wr8 hx8=>?_,fun g6 wr13 hx13 hs13=>?_⟩⟩
 ·have g5:=Ot g5;have hb:KP W p name=3:=by unfold KP; rw[if_neg n1,if_neg n2,if_neg n3,if_neg g4,if_pos g5]
  exact Om.no hW (by rw[hb]; decide) (hK2.step hx7) hb
 ·have g5:=Ou g5;have hr0:¬QG W=true:=fun hr=>by rw[if_pos hr] at g6; simp at g6
  have hb:KP W p name=10:=by unfold KP; rw[if_neg n1,if_neg n2,if_neg n3,if_neg g4,if_neg g5,if_pos (by simpa using hr0)]
  rw[if_neg hr0];exact Om.no hW (by rw[hb]; decide) (hK2.step hx8) hb
 have g5:=Ou g5;have hr0:QG W=true:=Decidable.byContradiction fun hr=>by rw[if_neg hr] at g6; simp at g6
 have hb:KP W p name=0:=by unfold KP; rw[if_neg n1,if_neg n2,if_neg n3,if_neg g4,if_neg g5,if_neg (by rw[hr0]; decide)]
 obtain⟨hf,_⟩:=zlo hb;have a1:=hf.a1;have a8:=hf.a8;have hK3:=hK2.step hx13;refine(Lw (n:=W.cpus.length) wp.a.c2).mono fun e1 wv4 ⟨mg,he1,hMg,hx4⟩=>?_
 have hK4:=hK3.call0 hx4;have hold:∀x∈QL 8 m',x<wr13.heap.size:=fun x hx=>(hK3.own.lt x hx).2
 have hnew:∀x∈Qt mg,wr13.heap.size<=x:=fun x hx=>(hMg.lt x hx).1
 have hset:Wk 8 [y,y1] w (sto wv4 m'.gO (Int.toNat (T0 W)*14) (YF (P1 W.cpus.length p name) mg)) (zrw W p name) (P2 m' (T0 W).toNat mg):=
  ⟨hK4.s.call Bu fun x hx=>(hK4.own.lt x hx).1,⟨hK4.own.stoG (by omega) a8 (g:=P1 W.cpus.length p name) (p:=mg) (j:=0) (vs:=YF (P1 W.cpus.length p name) mg) (hMg.mono hK3.base) (fun x hx=>.inl fun hx'=>by have:=hold x hx'; have:=hnew x hx; omega) (by simp[YF,Z6]) (by simp[YF,Z6]),fun x hx hm=>by
   rcases TQ x hx with h1 | h1
   ·exact hK4.nb x h1 hm
   ·have:=hnew x h1;have:=hs13 x hm;omega⟩⟩
 refine⟨_,_,_,_,_,_,_,_,_,_,_,_,_,_,_,_,_,_,_,_,he1,Qe hx4 hs13,rfl,hr2.g.ix (by omega) (by omega),zee hK4.own hK4.nb (by omega) a8 (j:=0) (k:=14) (by decide),fun wr14 hx14=>?_⟩;have hfin:=Om.ok (a:=T0 W) hW hb (hset.step hx14);have ew:Qa (zrw W p name) (P2 m' (T0 W).toNat mg)=Qa W m':=by simp[Qa,zrw,OT,setGr,P2]
 rw[ew] at hfin;exact hfin
end
theorem Q0.kept{bs B:List Nat}{w w':Wo}(h:Q0 bs w w')(hB:∀x∈B,x<w.heap.size/\x∉bs):Q9 B w w':=fun x hx=>h.block x (hB x hx).1 (hB x hx).2
theorem zro{b x:Nat}{w w':Wo}(h:Q0 [b] w w')(h1:x<w.heap.size)(h2:x≠b):Q9 [x] w w':=h.kept fun y hy=>by
 rw[List.mem_singleton.1 hy]; exact⟨h1,by simpa using h2⟩
def zxt(v:Int):Prop := -2<=v/\v<=21
theorem zjh{b:Nat}{c:OA}{L N:Nat}{w:Wo}(h:JI b c L N w)(hN:N<=900000000000) :
  Cz Zw #[.pointer (some ⟨b,0,none⟩)] w fun e w'=>∃v,e=.returned (.int .i64 v)/\zxt v/\JI b c L (N+2) w'/\Q0 [b] w w':=by
 refine(GH (some ⟨b,0,none⟩) (R:=fun v w'=>∃x,v=.int .i64 x/\zxt x/\JI b c L (N+2) w'/\Q0 [b] w w') ?_).mono fun e w' ⟨v,he,x,hv,h1,h2,h3⟩=>⟨x,by rw[he,hv],h1,h2,h3⟩
 refine fun wr hx _=>(Mp (h.ext0 hx) (by omega)).mono fun e w1 ⟨v,he,hv,hr1,hx1⟩=>⟨v,he,Jq,fun _=>?_,fun _ b1 hb1 wr3 hx3 hsz=>?_⟩
 ·refine fun wr1 hy _=>(Mp (hr1.ext0 hy) (by omega)).mono fun e w2 ⟨u,he,hu,hr2,hx2⟩=>⟨u,he,Jq,?_⟩
  have hu1:=hu.1;have hu2:=hu.2.2 (by decide);exact⟨JE (by omega) (by omega),fun wr2 hz=>⟨_,rfl,⟨by omega,by omega⟩,hr2.ext0 hz,(hx.of_nil.trans hx1).trans (hy.of_nil.trans (hx2.trans hz.of_nil))⟩⟩
 ·refine(Mp (hr1.ext0 hx3) (by omega)).mono fun e w2 ⟨u,he,hu,hr2,hx2⟩=>⟨u,he,zro hx2 (hsz b1 (by simp)) (by have:=hr1.lt; omega),?_⟩
  have hu1:=hu.1;have hu2:=hu.2.2 (by decide)
  have fin:∀(x:Int),zxt x->∀wr4,Q0 [b1] w2 wr4->∃x',Value.int .i64 x=.int .i64 x'/\zxt x'/\JI b c L (N+2) wr4/\Q0 [b] w wr4:=fun x hxv wr4 hz=>
   ⟨x,rfl,hxv,hr1.extN hr2 hz (by simpa using hb1),(hx.of_nil.trans hx1).trans ((hx3.of_nil.trans hx2)) |>.fresh hz (fun y hy=>by
    rw[List.mem_singleton.1 hy];have h1:=hx.size; have h2:=hx1.size;exact .inl (by omega))⟩
  have:u=0\/u=1\/u=2\/u=3\/u=4\/u=5\/u=6\/u=7\/u=8\/u=9:=by omega
  refine⟨⟨hu1,hu2⟩,?_⟩;rcases this with rfl | rfl | rfl | rfl | rfl | rfl | rfl | rfl | rfl | rfl <;> exact⟨_,⟨by decide,rfl⟩,fin _ ⟨by decide,by decide⟩⟩
def Dg(c:OA)(L:Nat)(w:Wo):Prop:=∀i<L,∃(a:Addr) (x:Int),c=some a/\0<=x/\x<=255/\w.cell? (a.add i)=some (.int .u8 x)
theorem Dg.ext{c:OA}{L:Nat}{w w':Wo}(h:Dg c L w)(hx:Q0 [] w w'):Dg c L w':=fun i hi=>by
 obtain⟨a,x,ha,h1,h2,h3⟩:=h i hi;obtain⟨a',e,_,h''⟩:=(show Uz [] w c i (.int .u8 x) from ⟨a,ha,by simp,h3⟩).ext hx;rw[ha] at e; cases e; exact⟨a,x,ha,h1,h2,h''⟩
structure RS (rb:Nat) (c:OA) (L N:Nat) (bs:List Nat) (w:Wo):Prop where
 rd:JI rb c L N w
 nb:rb∉bs
 oc:∀a,c=some a->a.block∉bs\/L=0
section
variable {rb:Nat}{c:OA}{L N:Nat}{bs cs:List Nat}{w w':Wo}{b:Nat}
theorem RS.step(h:RS rb c L N bs w)(hx:Q0 bs w w'):RS rb c L N bs w':=⟨h.rd.ext hx h.nb h.oc,h.nb,h.oc⟩
theorem RS.call0(h:RS rb c L N bs w)(hx:Q0 [] w w'):RS rb c L N bs w':=⟨h.rd.ext0 hx,h.nb,h.oc⟩
theorem RS.call(h:RS rb c L N bs w)(hx:Q0 cs w w')(h1:rb∉cs)(h2:∀a,c=some a->a.block∉cs\/L=0):RS rb c L N bs w':=⟨h.rd.ext hx h1 h2,h.nb,h.oc⟩
theorem RS.add(h:RS rb c L N bs w)(hb:w.heap.size<=b):RS rb c L N (bs++[b]) w:=⟨h.rd,fun hm=>by
 rcases List.mem_append.1 hm with hm | hm
 ·exact h.nb hm
 ·have:rb=b:=by simpa using hm
  have:=h.rd.lt;omega,fun a ha=>by
 rcases h.oc a ha with h1 | h1
 ·rcases h.rd.ltc a ha with h2 | h2
  ·refine .inl fun hm=>?_
   rcases List.mem_append.1 hm with hm | hm
   ·exact h1 hm
   ·have:a.block=b:=by simpa using hm
    omega
  ·exact .inr h2
 ·exact .inr h1⟩
theorem RS.put(h:RS rb c L N bs w)(hx:Q0 bs w w')(hb:w.heap.size<=b):RS rb c L N (bs++[b]) w':=⟨(h.step hx).rd,(h.add hb).nb,(h.add hb).oc⟩
theorem RS.sub(h:RS rb c L N bs w)(hs:∀x∈cs,x∈bs):RS rb c L N cs w:=⟨h.rd,fun hm=>h.nb (hs _ hm),fun a ha=>by
 rcases h.oc a ha with h1 | h1
 ·exact .inl fun hm=>h1 (hs _ hm)
 ·exact .inr h1⟩
theorem RS.upd{M:Nat}(h:RS rb c L N bs w)(k:JI rb c L M w'):RS rb c L M bs w':=⟨k,h.nb,h.oc⟩
theorem RS.mono{M:Nat}(h:RS rb c L N bs w)(hm:N<=M):RS rb c L M bs w:=⟨h.rd.mono hm,h.nb,h.oc⟩
theorem Sc.stepB{w0:Wo}(h:Sc w0 (rb::bs) w)(hx:Q0 bs w w'):Sc w0 (rb::bs) w':=h.step (hx.mono fun _ hm=>List.mem_cons_of_mem _ hm)
theorem Sc.stepR{w0:Wo}(h:Sc w0 (rb::bs) w)(hx:Q0 [rb] w w'):Sc w0 (rb::bs) w':=h.step (hx.mono fun x hm=>by
 have:x=rb:=by simpa using hm
 subst this; simp)
theorem Sc.putB{w0:Wo}(h:Sc w0 (rb::bs) w)(hx:Q0 bs w w')(hb:w.heap.size<=b):Sc w0 (rb::(bs++[b])) w':=h.put (hx.mono fun _ hm=>List.mem_cons_of_mem _ hm) hb
theorem PA(h:RS rb c L N bs w)(hx:Q0 [rb] w w')(hs:∀x∈bs,x<w.heap.size):Q9 bs w w':=zrp hx hs fun x hm hm'=>by
 have:x=rb:=by simpa using hm
 subst this; exact h.nb hm'
end
section
variable {α:Type}{enc:α->List Va}{z:Nat}{ty:TypeId}{base rb:Nat}{bs:List Nat}{w w':Wo}{o:OA}{cap:Nat}{l:List α}{b:Nat}
end
end Go.Proofs.YtclpmgfpjeaibaaGreat
